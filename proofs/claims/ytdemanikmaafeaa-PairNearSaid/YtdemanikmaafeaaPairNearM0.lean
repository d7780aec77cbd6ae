import Derived.Test.YtdemanikmaafeaaProg
import Derived.Below
import Derived.Deep.Draws
import Derived.Deep.AppendLies
import Derived.Maps.AppendAt
import Derived.OwnWalk
import Derived.Laws.BytesArg
import Derived.Laws.MakeOwn
import Derived.Laws.OwnMore
import Derived.Deep.OwnRows
import Derived.Tactics
import Derived.Lib.ConvBytes
import Derived.Laws.Slices
import Derived.WalkKit
import Derived.KernelRfl
import Derived.RowKit3
import Derived.Deep.LoopGhost
import Derived.Deep.QuietTactic
import Derived.BigQuiet
import Derived.WideLaws
import Derived.Deep.DeepCutAuto
import Derived.Deep.CutBlock
import Derived.Deep.RegionHeld3
import Derived.Laws.Rows
import Derived.Lib.AppendStr
import Derived.ArgAppend
import Derived.Laws.IdiomCopy
import Derived.OrdersHeld
import Derived.Laws.BitsLemmas
import Derived.RowKit
import Derived.Test.YtdemanikmaafeaaPairNearVWords
import Derived.Test.YtdemanikmaafeaaPairNearVLast
import Derived.Test.YtdemanikmaafeaaPairNearVTab
import Derived.Test.YtdemanikmaafeaaPairNearVFour
import Derived.Test.YtdemanikmaafeaaPairNearVQPut
import Derived.Test.YtdemanikmaafeaaPairNearVApart
import Derived.Test.YtdemanikmaafeaaPairNearVArr
import Derived.Test.YtdemanikmaafeaaPairNearVZeros
import Derived.Test.YtdemanikmaafeaaPairNearVFoot
import Derived.Test.YtdemanikmaafeaaPairNearVKept
import Derived.Test.YtdemanikmaafeaaPairNearVShare
import Derived.Test.YtdemanikmaafeaaPairNearVN
import Derived.Test.YtdemanikmaafeaaPairNearVFootNe
import Derived.Test.YtdemanikmaafeaaPairNearVAt
import Derived.Test.YtdemanikmaafeaaPairNearVEqStruct
import Derived.Test.YtdemanikmaafeaaPairNearVRepsOne
import Derived.Test.YtdemanikmaafeaaPairNearVInv
import Derived.Test.YtdemanikmaafeaaPairNearVInvWords
import Derived.Test.YtdemanikmaafeaaPairNearVGuard
import Derived.Test.YtdemanikmaafeaaPairNearVNEv
import Derived.Test.YtdemanikmaafeaaPairNearVMore
import Derived.Test.YtdemanikmaafeaaPairNearVFloat
-- written by this session's own program (wip/fprint.py), which widens the kit's print by floats
namespace Go.Proofs.Ytdemanikmaafeaa.Pr
open Go.RowKit Go.Proofs.YtdemanikmaafeaaW.PrintWords Go.Proofs.YtdemanikmaafeaaW.PrintLast Go.Proofs.YtdemanikmaafeaaW.PrintMore
attribute [local go_sem] max2_int min2_int max_two min_two max_three min_three max_four min_four   -- for this text's walks alone
set_option linter.unusedVariables false
set_option linter.unusedSimpArgs false



def errW : Option Int → Value
 | none => .nilIface
 | some c => .iface 0 (.int .i64 c)
theorem errW_none : errW none = .nilIface := rfl
theorem errW_some (c : Int) : errW (some c) = .iface 0 (.int .i64 c) := rfl

theorem from64 (x : Int) (w : World) : (callFunc 8 #[.int .u64 x]).run Try.prog w = .ok (.value (.float .f64 x.toNat)) w := by
 rw [run_callFunc_extern (e:=Extern.MathFloatBits.float64frombits) Try.func8 (by kernel_rfl) (by kernel_rfl) (by kernel_rfl) (by kernel_rfl)]
 rfl
attribute [go_sem] from64
theorem bits64 (x : Nat) (w : World) : (callFunc 38 #[.float .f64 x]).run Try.prog w = .ok (.value (.int .u64 (x : Int))) w := by
 rw [run_callFunc_extern (e:=Extern.MathFloatBits.float64bits) Try.func38 (by kernel_rfl) (by kernel_rfl) (by kernel_rfl) (by kernel_rfl)]
 rfl
attribute [go_sem] bits64
theorem info23 : (Try.prog.info? 23).map (fun i => (i.zero, i.size, i.bytes)) = some (some (.float .f64 0), 1, 8) := by kernel_rfl
theorem info72 : (Try.prog.info? 72).map (fun i => (i.zero, i.size, i.bytes)) = some (some (.int .u32 0), 1, 4) := by kernel_rfl
-- the values' own types
structure S30 where
 f0 : Nat
 f1 : Nat
def z30 : S30 := ⟨(0 : Nat), (0 : Nat)⟩
def k30 : Kd S30 := Kd.iso (Kd.pair (Kd.float .f64) (Kd.float .f64)) (fun x : S30 => (x.f0, x.f1))
theorem k30_heap : Kd.Heap k30 := Kd.heap_iso _ (Kd.heap_pair (Kd.heap_float .f64) (Kd.heap_float .f64))
theorem k30_open {w : World} {x : S30} {cs : List Value} (h : k30.K w x cs) : cs = [.float .f64 x.f0, .float .f64 x.f1] := by
 obtain ⟨_,_,rfl,rfl,rfl⟩:=h
 exact rfl
theorem k30_openM {w : World} {base : Nat} {ok : Nat → Prop} {x : S30} {cs : List Value} (h : k30.M w base ok x cs) : cs = [.float .f64 x.f0, .float .f64 x.f1] := by
 obtain ⟨_,_,rfl,rfl,rfl⟩:=h
 exact rfl
theorem k30_mk (w : World) (x : S30)  : k30.K w x [.float .f64 x.f0, .float .f64 x.f1] := ⟨[.float .f64 x.f0], [.float .f64 x.f1], rfl, rfl, rfl⟩
theorem k30_mkM (w : World) (base : Nat) (ok : Nat → Prop) (x : S30)  : k30.M w base ok x [.float .f64 x.f0, .float .f64 x.f1] := ⟨[.float .f64 x.f0], [.float .f64 x.f1], rfl, rfl, rfl⟩
theorem k30_mkF (W : World) (ok : Nat → Prop) (x : S30) : Kd.FK k30 W ok x [.float .f64 x.f0, .float .f64 x.f1] := fun W2 _ => k30_mk W2 x
def rd_T30 (xs : List S30) (i : Int) : S30 := xs.getD i.toNat z30
theorem at_T30 {w : World} {A : Option Addr} {n : Nat} {xs : List S30} (h : Kd.C k30 w A n xs) (i : Int) (h0 : 0 ≤ i) (h1 : i < n) : ∃ ad , A = some ad ∧ w.cell? (ad.add (i.toNat * 2)) = some (.float .f64 (rd_T30 xs i).f0) ∧ w.cell? ⟨(ad.add (i.toNat * 2)).block, (ad.add (i.toNat * 2)).off + 1, none⟩ = some (.float .f64 (rd_T30 xs i).f1) := by
 obtain ⟨ad,c,e,_,hK,hc0⟩:=Kd.C_get h z30 i h0 h1
 have hc : ∀ j u,c[j]? = some u → w.cell? (ad.add (i.toNat * 2 + j)) = some u:=hc0
 obtain rfl:=k30_open hK
 exact ⟨ad,e,hc 0 _ rfl,by rw [← add_field _ _ 1 (by omega)];exact hc 1 _ rfl⟩

end Go.Proofs.Ytdemanikmaafeaa.Pr
-- written by this session's own program (wip/fprint.py), which widens the kit's print by floats
namespace Go.Proofs.Ytdemanikmaafeaa.Pr
open Go.RowKit Go.Proofs.YtdemanikmaafeaaW.PrintWords Go.Proofs.YtdemanikmaafeaaW.PrintLast Go.Proofs.YtdemanikmaafeaaW.PrintMore
attribute [local go_sem] max2_int min2_int max_two min_two max_three min_three max_four min_four   -- for this text's walks alone
set_option linter.unusedVariables false
set_option linter.unusedSimpArgs false

def r05_Odd.f  : Option (Nat) := some 9221120237041090560
set_option maxHeartbeats 3000000 in
set_option maxRecDepth 100000 in
theorem r05_Odd.calls  (r : Nat) (w : World) (h : r05_Odd.f  = some r) :
  Calls Try.prog 9 #[] w fun e w'=>e = .returned (.float .f64 r) ∧ Drawn0 w w':=by
 have H : (some 9221120237041090560) = some r:=h
 clear h
 obtain rfl:=Option.some.inj H
 go_enter Try.func9,Try.ntmps9
 go_wp2
 go_ret
 exact ⟨by first|rfl|(simp;done)|(simp [*];done),by repeat (first|exact Drawn0.refl _|apply Drawn0.step)⟩

def r05_Turned.f (a0 : Nat) : Option (Nat) := some ((Go.bits .xor .u64 (a0 : Int) 9223372036854775808 : Int).toNat)
set_option maxHeartbeats 3000000 in
set_option maxRecDepth 100000 in
theorem r05_Turned.calls (a0 : Nat) (r : Nat) (w : World) (h : r05_Turned.f a0 = some r) :
  Calls Try.prog 10 #[.float .f64 a0] w fun e w'=>e = .returned (.float .f64 r) ∧ Drawn0 w w':=by
 have H : (some ((Go.bits .xor .u64 (a0 : Int) 9223372036854775808 : Int).toNat)) = some r:=h
 clear h
 obtain rfl:=Option.some.inj H
 go_enter Try.func10,Try.ntmps10
 go_wp2
 go_ret
 exact ⟨by first|rfl|(simp;done)|(simp [*];done),by repeat (first|exact Drawn0.refl _|apply Drawn0.step)⟩

def r05_Same.f (a0 : Nat) (a1 : Nat) : Option (Bool) := some ((a0 : Int) == (a1 : Int))
set_option maxHeartbeats 3000000 in
set_option maxRecDepth 100000 in
theorem r05_Same.calls (a0 : Nat) (a1 : Nat) (r : Bool) (w : World) (h : r05_Same.f a0 a1 = some r) :
  Calls Try.prog 26 #[.float .f64 a0,.float .f64 a1] w fun e w'=>e = .returned (.bool r) ∧ Drawn0 w w':=by
 have H : (some ((a0 : Int) == (a1 : Int))) = some r:=h
 clear h
 obtain rfl:=Option.some.inj H
 go_enter Try.func26,Try.ntmps26
 go_wp2
 go_ret
 exact ⟨by first|rfl|(simp;done)|(simp [*];done),by repeat (first|exact Drawn0.refl _|apply Drawn0.step)⟩

def r05_SamePair.f (a0_0 : Nat) (a0_1 : Nat) (a1_0 : Nat) (a1_1 : Nat) : Option (Bool) := (r05_Same.f a0_0 a1_0).bind fun t103 => ((r05_Same.f a0_1 a1_1).bind fun t104 => (if t103 = true then (some t104) else (some false)))
set_option maxHeartbeats 3000000 in
set_option maxRecDepth 100000 in
theorem r05_SamePair.calls (a0_0 : Nat) (a0_1 : Nat) (a1_0 : Nat) (a1_1 : Nat) (r : Bool) (w : World) (h : r05_SamePair.f a0_0 a0_1 a1_0 a1_1 = some r) :
  Calls Try.prog 16 #[.agg #[.float .f64 a0_0,.float .f64 a0_1],.agg #[.float .f64 a1_0,.float .f64 a1_1]] w fun e w'=>e = .returned (.bool r) ∧ Below w.heap.size w w':=by
 have hu30:=Try.underlying30
 have HB:=Aside0.mk (Below.refl w.heap.size w)
 have H : ((r05_Same.f a0_0 a1_0).bind fun t103=>((r05_Same.f a0_1 a1_1).bind fun t104=>(if t103 = true then (some t104) else (some false)))) = some r:=h
 clear h
 obtain ⟨t103,A3,H⟩:=ob_ H
 try dsimp only at H
 obtain ⟨t104,A4,H⟩:=ob_ H
 try dsimp only at H
 by_cases c5 : t103 = true
 ·subst c5
  have H1 : (some t104) = some r:=by rw [if_pos rfl] at H;exact H
  clear H
  have H:=H1
  clear H1
  obtain rfl:=Option.some.inj H
  go_enter Try.func16,Try.ntmps16
  go_wp2_with (first|((with_reducible refine gate_dst (N:=2) rfl ?_);refine box_ev (N:=2) (cs:=#[.float .f64 a0_0,.float .f64 a0_1]) (t:=30) ?_;intro gb101 hg w6 hbox hb;have BK101:=Aside0.mk (hbox);have GW101:=ge_ HB hg;have GE101:=ge_ HB hg;replace HB:=bs_ HB hb;clear hb hbox hg)|((with_reducible refine gate_dst (N:=3) rfl ?_);refine box_ev (N:=3) (cs:=#[.float .f64 a1_0,.float .f64 a1_1]) (t:=30) ?_;intro gb102 hg w7 hbox hb;have BK102:=Aside0.mk (hbox);have GW102:=ge_ HB hg;have GE102:=ge_ HB hg;replace HB:=bs_ HB hb;have NB101_102:=nlt_ BK101 hg;have NB102_101:=ngt_ BK101 hg;replace BK101:=kb_ BK101 hb;clear hb hbox hg;have hnb8:=NB101_102.out;have hnc8:=NB102_101.out;have hcz9_0:=bc_ BK101 0;have hcz9_1:=bc_ BK101 1;have hfz9_0:=bz_ BK101 0;have hfz9_1:=bz_ BK101 1;have hcz10_0:=bc_ BK102 0;have hcz10_1:=bc_ BK102 1;have hfz10_0:=bz_ BK102 0;have hfz10_1:=bz_ BK102 1)|((with_reducible refine gate_callee (f:=26) rfl ?_);refine goesM (some 11) Try.func26 #[.float .f64 a0_0,.float .f64 a1_0] ?_;(with_reducible refine (r05_Same.calls a0_0 a1_0 true _ A3.out).mono ?_);rintro e w' ⟨rfl,⟨nd,rfl⟩⟩;refine ⟨_,rfl,?_⟩)|((with_reducible refine gate_callee (f:=26) rfl ?_);refine goesM (some 16) Try.func26 #[.float .f64 a0_1,.float .f64 a1_1] ?_;(with_reducible refine (r05_Same.calls a0_1 a1_1 t104 _ A4.out).mono ?_);rintro e w' ⟨rfl,⟨nd,rfl⟩⟩;refine ⟨_,rfl,?_⟩))
  go_ret
  exact ⟨rf_,bl_ HB⟩
 ·replace c5:=Bool.eq_false_iff.mpr c5
  subst c5
  have H1 : (some false) = some r:=by rw [if_neg (show ¬ (false = true) by decide)] at H;exact H
  clear H
  have H:=H1
  clear H1
  obtain rfl:=Option.some.inj H
  go_enter Try.func16,Try.ntmps16
  go_wp2_with (first|((with_reducible refine gate_dst (N:=2) rfl ?_);refine box_ev (N:=2) (cs:=#[.float .f64 a0_0,.float .f64 a0_1]) (t:=30) ?_;intro gb101 hg w11 hbox hb;have BK101:=Aside0.mk (hbox);have GW101:=ge_ HB hg;have GE101:=ge_ HB hg;replace HB:=bs_ HB hb;clear hb hbox hg)|((with_reducible refine gate_dst (N:=3) rfl ?_);refine box_ev (N:=3) (cs:=#[.float .f64 a1_0,.float .f64 a1_1]) (t:=30) ?_;intro gb102 hg w12 hbox hb;have BK102:=Aside0.mk (hbox);have GW102:=ge_ HB hg;have GE102:=ge_ HB hg;replace HB:=bs_ HB hb;have NB101_102:=nlt_ BK101 hg;have NB102_101:=ngt_ BK101 hg;replace BK101:=kb_ BK101 hb;clear hb hbox hg;have hnb13:=NB101_102.out;have hnc13:=NB102_101.out;have hcz14_0:=bc_ BK101 0;have hcz14_1:=bc_ BK101 1;have hfz14_0:=bz_ BK101 0;have hfz14_1:=bz_ BK101 1;have hcz15_0:=bc_ BK102 0;have hcz15_1:=bc_ BK102 1;have hfz15_0:=bz_ BK102 0;have hfz15_1:=bz_ BK102 1)|((with_reducible refine gate_callee (f:=26) rfl ?_);refine goesM (some 11) Try.func26 #[.float .f64 a0_0,.float .f64 a1_0] ?_;(with_reducible refine (r05_Same.calls a0_0 a1_0 false _ A3.out).mono ?_);rintro e w' ⟨rfl,⟨nd,rfl⟩⟩;refine ⟨_,rfl,?_⟩)|((with_reducible refine gate_callee (f:=26) rfl ?_);refine goesM (some 16) Try.func26 #[.float .f64 a0_1,.float .f64 a1_1] ?_;(with_reducible refine (r05_Same.calls a0_1 a1_1 t104 _ A4.out).mono ?_);rintro e w' ⟨rfl,⟨nd,rfl⟩⟩;refine ⟨_,rfl,?_⟩))
  go_ret
  exact ⟨rf_,bl_ HB⟩

def l05_is.f (a0_0 : Nat) (a0_1 : Nat) (a1 : Nat) (a2 : Nat) : Option (Bool) := (r05_SamePair.f a0_0 a0_1 a1 a2).bind fun t106 => (some t106)
set_option maxHeartbeats 3000000 in
set_option maxRecDepth 100000 in
theorem l05_is.calls (a0_0 : Nat) (a0_1 : Nat) (a1 : Nat) (a2 : Nat) (r : Bool) (w : World) (h : l05_is.f a0_0 a0_1 a1 a2 = some r) :
  Calls Try.prog 11 #[.agg #[.float .f64 a0_0,.float .f64 a0_1],.float .f64 a1,.float .f64 a2] w fun e w'=>e = .returned (.bool r) ∧ Below w.heap.size w w':=by
 have hu30:=Try.underlying30
 have HB:=Aside0.mk (Below.refl w.heap.size w)
 have H : ((r05_SamePair.f a0_0 a0_1 a1 a2).bind fun t106=>(some t106)) = some r:=h
 clear h
 obtain ⟨t106,A4,H⟩:=ob_ H
 try dsimp only at H
 obtain rfl:=Option.some.inj H
 go_enter Try.func11,Try.ntmps11
 go_wp2_with (first|((with_reducible refine gate_dst (N:=3) rfl ?_);refine box_ev (N:=3) (cs:=#[.float .f64 a0_0,.float .f64 a0_1]) (t:=30) ?_;intro gb105 hg w5 hbox hb;have BK105:=Aside0.mk (hbox);have GW105:=ge_ HB hg;have GE105:=ge_ HB hg;replace HB:=bs_ HB hb;clear hb hbox hg;have hcz6_0:=bc_ BK105 0;have hcz6_1:=bc_ BK105 1;have hfz6_0:=bz_ BK105 0;have hfz6_1:=bz_ BK105 1)|((with_reducible refine gate_callee (f:=16) rfl ?_);refine goesM (some 11) Try.func16 #[.agg #[.float .f64 a0_0,.float .f64 a0_1],.agg #[.float .f64 a1,.float .f64 a2]] ?_;(with_reducible refine (r05_SamePair.calls a0_0 a0_1 a1 a2 t106 _ A4.out).mono ?_);rintro e w7 ⟨rfl,hb⟩;refine ⟨_,rfl,?_⟩;replace BK105:=kb_ BK105 hb;replace HB:=bs_ HB hb;(try clear hb);(try clear hb2);(try clear hk);(try clear hi)))
 go_ret
 exact ⟨rf_,bl_ HB⟩

/-- What an operation of pair's kind answers: the exact answer's bits; or, where it has none, any NaN's. -/
def NanOr (o : Option Nat) (b : Nat) : Prop := match o with | some r => b = r | none => FloatKind.f64.format.order b b = none
def pair_step.f (a0 : Nat) (a1 : Nat) (a2 : Nat) : Option (Nat) := if a0 = 48 then some (stepOf (FloatKind.f64.format.add a1 a2)) else if a0 = 65 then some (stepOf (FloatKind.f64.format.sub a1 a2)) else if a0 = 49 then some (stepOf (FloatKind.f64.format.mul a1 a2)) else none
set_option maxHeartbeats 400000 in
theorem num_plus_any (x y : Nat) (w : World) : Calls Try.prog 48 #[.float .f64 x, .float .f64 y] w fun e w' => ∃ b, e = .returned (.float .f64 b) ∧ NanOr (FloatKind.f64.format.add x y) b ∧ Drawn0 w w' := by
 rcases hq : FloatKind.f64.format.add x y with _|r
 ·have hrun:=fun t w=>run_float_none (P:=Try.prog) w .add t .f64 x y none (Or.inl ⟨rfl,hq.symm⟩) rfl
  clear hq
  go_enter Try.func48,Try.ntmps48
  go_wp2
  go_ret
  exact ⟨_,rfl,order_cut _ _ _,Drawn0.step (Drawn0.refl _) 1⟩
 ·have hs : (FloatKind.f64.format.add x y).isSome = true:=by rw [hq];rfl
  have HQ:=Aside0.mk hq
  clear hq
  go_enter Try.func48,Try.ntmps48
  go_wp2
  go_ret
  exact ⟨_,rfl,by rw [HQ.out];rfl,Drawn0.refl _⟩
set_option maxHeartbeats 400000 in
theorem num_minus_any (x y : Nat) (w : World) : Calls Try.prog 65 #[.float .f64 x, .float .f64 y] w fun e w' => ∃ b, e = .returned (.float .f64 b) ∧ NanOr (FloatKind.f64.format.sub x y) b ∧ Drawn0 w w' := by
 rcases hq : FloatKind.f64.format.sub x y with _|r
 ·have hrun:=fun t w=>run_float_none (P:=Try.prog) w .sub t .f64 x y none (Or.inr (Or.inl ⟨rfl,hq.symm⟩)) rfl
  clear hq
  go_enter Try.func65,Try.ntmps65
  go_wp2
  go_ret
  exact ⟨_,rfl,order_cut _ _ _,Drawn0.step (Drawn0.refl _) 1⟩
 ·have hs : (FloatKind.f64.format.sub x y).isSome = true:=by rw [hq];rfl
  have HQ:=Aside0.mk hq
  clear hq
  go_enter Try.func65,Try.ntmps65
  go_wp2
  go_ret
  exact ⟨_,rfl,by rw [HQ.out];rfl,Drawn0.refl _⟩
set_option maxHeartbeats 400000 in
theorem num_times_any (x y : Nat) (w : World) : Calls Try.prog 49 #[.float .f64 x, .float .f64 y] w fun e w' => ∃ b, e = .returned (.float .f64 b) ∧ NanOr (FloatKind.f64.format.mul x y) b ∧ Drawn0 w w' := by
 rcases hq : FloatKind.f64.format.mul x y with _|r
 ·have hrun:=fun t w=>run_float_none (P:=Try.prog) w .mul t .f64 x y none (Or.inr (Or.inr ⟨rfl,hq.symm⟩)) rfl
  clear hq
  go_enter Try.func49,Try.ntmps49
  go_wp2
  go_ret
  exact ⟨_,rfl,order_cut _ _ _,Drawn0.step (Drawn0.refl _) 1⟩
 ·have hs : (FloatKind.f64.format.mul x y).isSome = true:=by rw [hq];rfl
  have HQ:=Aside0.mk hq
  clear hq
  go_enter Try.func49,Try.ntmps49
  go_wp2
  go_ret
  exact ⟨_,rfl,by rw [HQ.out];rfl,Drawn0.refl _⟩
theorem step_of {o : Option Nat} {b : Nat} (h : NanOr o b) : stepOf o = if (FloatKind.f64.format.order b b != some .eq) = true then 9221120237041090560 else b := by
 cases o with
 | none => have h1 : FloatKind.f64.format.order b b = none := h; rw [h1]; rfl
 | some r => have h1 : b = r := h; rw [h1]; rfl
set_option maxHeartbeats 400000 in
theorem pair_step.calls_plus (x y : Nat) (w : World) : Calls Try.prog 47 #[.func (.func 48) #[] #[], .float .f64 x, .float .f64 y] w fun e w' => e = .returned (.float .f64 (stepOf (FloatKind.f64.format.add x y))) ∧ Drawn0 w w' := by
 go_enter Try.func47,Try.ntmps47
 go_wp2_with (go_at_call 48;refine (num_plus_any _ _ _).mono ?_;rintro e w1 ⟨b,rfl,hb0,hd⟩;obtain ⟨n1,rfl⟩:=hd.out;have HB0:=Aside0.mk hb0;clear hb0 hd)
 all_goals
  go_ret
  exact ⟨by rw [step_of HB0.out];simp [*],⟨⟨_,rfl⟩⟩⟩
set_option maxHeartbeats 400000 in
theorem pair_step.calls_minus (x y : Nat) (w : World) : Calls Try.prog 47 #[.func (.func 65) #[] #[], .float .f64 x, .float .f64 y] w fun e w' => e = .returned (.float .f64 (stepOf (FloatKind.f64.format.sub x y))) ∧ Drawn0 w w' := by
 go_enter Try.func47,Try.ntmps47
 go_wp2_with (go_at_call 65;refine (num_minus_any _ _ _).mono ?_;rintro e w1 ⟨b,rfl,hb0,hd⟩;obtain ⟨n1,rfl⟩:=hd.out;have HB0:=Aside0.mk hb0;clear hb0 hd)
 all_goals
  go_ret
  exact ⟨by rw [step_of HB0.out];simp [*],⟨⟨_,rfl⟩⟩⟩
set_option maxHeartbeats 400000 in
theorem pair_step.calls_times (x y : Nat) (w : World) : Calls Try.prog 47 #[.func (.func 49) #[] #[], .float .f64 x, .float .f64 y] w fun e w' => e = .returned (.float .f64 (stepOf (FloatKind.f64.format.mul x y))) ∧ Drawn0 w w' := by
 go_enter Try.func47,Try.ntmps47
 go_wp2_with (go_at_call 49;refine (num_times_any _ _ _).mono ?_;rintro e w1 ⟨b,rfl,hb0,hd⟩;obtain ⟨n1,rfl⟩:=hd.out;have HB0:=Aside0.mk hb0;clear hb0 hd)
 all_goals
  go_ret
  exact ⟨by rw [step_of HB0.out];simp [*],⟨⟨_,rfl⟩⟩⟩
theorem pair_step.calls (a0 : Nat) (a1 : Nat) (a2 : Nat) (r : Nat) (w : World) (h : pair_step.f a0 a1 a2 = some r) :
  Calls Try.prog 47 #[.func (.func a0) #[] #[],.float .f64 a1,.float .f64 a2] w fun e w'=>e = .returned (.float .f64 r) ∧ Drawn0 w w':=by
 unfold pair_step.f at h
 by_cases h1 : a0 = 48
 ·rw [if_pos h1] at h;obtain rfl:=Option.some.inj h;subst h1;exact pair_step.calls_plus a1 a2 w
 rw [if_neg h1] at h
 by_cases h2 : a0 = 65
 ·rw [if_pos h2] at h;obtain rfl:=Option.some.inj h;subst h2;exact pair_step.calls_minus a1 a2 w
 rw [if_neg h2] at h
 by_cases h3 : a0 = 49
 ·rw [if_pos h3] at h;obtain rfl:=Option.some.inj h;subst h3;exact pair_step.calls_times a1 a2 w
 rw [if_neg h3] at h;cases h

def pair_sum.f (a0 : Nat) (a1 : Nat) : Option (Nat × Nat) := (pair_step.f 48 a0 a1).bind fun t108 => ((pair_step.f 65 t108 a0).bind fun t109 => ((pair_step.f 65 t108 t109).bind fun t110 => ((pair_step.f 65 a0 t110).bind fun t111 => ((pair_step.f 65 a1 t109).bind fun t112 => ((pair_step.f 48 t111 t112).bind fun t113 => (some (t108, t113)))))))
set_option maxHeartbeats 3000000 in
set_option maxRecDepth 100000 in
theorem pair_sum.calls (a0 : Nat) (a1 : Nat) (r1 : Nat) (r2 : Nat) (w : World) (h : pair_sum.f a0 a1 = some (r1, r2)) :
  Calls Try.prog 39 #[.float .f64 a0,.float .f64 a1] w fun e w'=>e = .returned (.agg #[.float .f64 r1,.float .f64 r2]) ∧ Below w.heap.size w w':=by
 have hu57:=Try.underlying57
 have HB:=Aside0.mk (Below.refl w.heap.size w)
 have H : ((pair_step.f 48 a0 a1).bind fun t108=>((pair_step.f 65 t108 a0).bind fun t109=>((pair_step.f 65 t108 t109).bind fun t110=>((pair_step.f 65 a0 t110).bind fun t111=>((pair_step.f 65 a1 t109).bind fun t112=>((pair_step.f 48 t111 t112).bind fun t113=>(some (t108,t113)))))))) = some (r1,r2):=h
 clear h
 obtain ⟨t108,A3,H⟩:=ob_ H
 try dsimp only at H
 obtain ⟨t109,A4,H⟩:=ob_ H
 try dsimp only at H
 obtain ⟨t110,A5,H⟩:=ob_ H
 try dsimp only at H
 obtain ⟨t111,A6,H⟩:=ob_ H
 try dsimp only at H
 obtain ⟨t112,A7,H⟩:=ob_ H
 try dsimp only at H
 obtain ⟨t113,A8,H⟩:=ob_ H
 try dsimp only at H
 simp only [Option.some.injEq,Prod.mk.injEq] at H
 obtain ⟨rfl,rfl⟩:=H
 go_enter Try.func39,Try.ntmps39
 go_wp2_with (first|((with_reducible refine gate_dst (N:=4) rfl ?_);refine box_ev (N:=4) (cs:=#[.float .f64 0,.float .f64 0]) (t:=57) ?_;intro gb107 hg w9 hbox hb;have BK107:=Aside0.mk (hbox);have GW107:=ge_ HB hg;have GE107:=ge_ HB hg;replace HB:=bs_ HB hb;clear hb hbox hg)|((with_reducible refine gate_callee (f:=47) rfl ?_);refine goesM (some 12) Try.func47 #[.func (.func 48) #[] #[],.float .f64 a0,.float .f64 a1] ?_;(with_reducible refine (pair_step.calls 48 a0 a1 t108 _ A3.out).mono ?_);rintro e w' ⟨rfl,⟨nd,rfl⟩⟩;refine ⟨_,rfl,?_⟩;(try (rw [drewN_self w9];generalize hq_ : World.drewN w9 _ = w9;have n0_ : Aside0 (w9.heap[gb107]? = some (.cells #[.float .f64 0,.float .f64 0] 57 (0,0))):=⟨by rw [← hq_];exact (bk_ BK107)⟩;have n1_ : Aside0 (Below w.heap.size w w9):=⟨by rw [← hq_];exact (bl_ HB)⟩;clear BK107 HB hq_;have BK107:=n0_;have HB:=n1_;clear n0_ n1_)))|((with_reducible refine gate_callee (f:=47) rfl ?_);refine goesM (some 15) Try.func47 #[.func (.func 65) #[] #[],.float .f64 t108,.float .f64 a0] ?_;(with_reducible refine (pair_step.calls 65 t108 a0 t109 _ A4.out).mono ?_);rintro e w' ⟨rfl,⟨nd,rfl⟩⟩;refine ⟨_,rfl,?_⟩;(try (rw [drewN_self w9];generalize hq_ : World.drewN w9 _ = w9;have n0_ : Aside0 (w9.heap[gb107]? = some (.cells #[.float .f64 0,.float .f64 0] 57 (0,0))):=⟨by rw [← hq_];exact (bk_ BK107)⟩;have n1_ : Aside0 (Below w.heap.size w w9):=⟨by rw [← hq_];exact (bl_ HB)⟩;clear BK107 HB hq_;have BK107:=n0_;have HB:=n1_;clear n0_ n1_)))|((with_reducible refine gate_callee (f:=47) rfl ?_);refine goesM (some 18) Try.func47 #[.func (.func 65) #[] #[],.float .f64 t108,.float .f64 t109] ?_;(with_reducible refine (pair_step.calls 65 t108 t109 t110 _ A5.out).mono ?_);rintro e w' ⟨rfl,⟨nd,rfl⟩⟩;refine ⟨_,rfl,?_⟩;(try (rw [drewN_self w9];generalize hq_ : World.drewN w9 _ = w9;have n0_ : Aside0 (w9.heap[gb107]? = some (.cells #[.float .f64 0,.float .f64 0] 57 (0,0))):=⟨by rw [← hq_];exact (bk_ BK107)⟩;have n1_ : Aside0 (Below w.heap.size w w9):=⟨by rw [← hq_];exact (bl_ HB)⟩;clear BK107 HB hq_;have BK107:=n0_;have HB:=n1_;clear n0_ n1_)))|((with_reducible refine gate_callee (f:=47) rfl ?_);refine goesM (some 21) Try.func47 #[.func (.func 65) #[] #[],.float .f64 a0,.float .f64 t110] ?_;(with_reducible refine (pair_step.calls 65 a0 t110 t111 _ A6.out).mono ?_);rintro e w' ⟨rfl,⟨nd,rfl⟩⟩;refine ⟨_,rfl,?_⟩;(try (rw [drewN_self w9];generalize hq_ : World.drewN w9 _ = w9;have n0_ : Aside0 (w9.heap[gb107]? = some (.cells #[.float .f64 0,.float .f64 0] 57 (0,0))):=⟨by rw [← hq_];exact (bk_ BK107)⟩;have n1_ : Aside0 (Below w.heap.size w w9):=⟨by rw [← hq_];exact (bl_ HB)⟩;clear BK107 HB hq_;have BK107:=n0_;have HB:=n1_;clear n0_ n1_)))|((with_reducible refine gate_callee (f:=47) rfl ?_);refine goesM (some 24) Try.func47 #[.func (.func 65) #[] #[],.float .f64 a1,.float .f64 t109] ?_;(with_reducible refine (pair_step.calls 65 a1 t109 t112 _ A7.out).mono ?_);rintro e w' ⟨rfl,⟨nd,rfl⟩⟩;refine ⟨_,rfl,?_⟩;(try (rw [drewN_self w9];generalize hq_ : World.drewN w9 _ = w9;have n0_ : Aside0 (w9.heap[gb107]? = some (.cells #[.float .f64 0,.float .f64 0] 57 (0,0))):=⟨by rw [← hq_];exact (bk_ BK107)⟩;have n1_ : Aside0 (Below w.heap.size w w9):=⟨by rw [← hq_];exact (bl_ HB)⟩;clear BK107 HB hq_;have BK107:=n0_;have HB:=n1_;clear n0_ n1_)))|((with_reducible refine gate_callee (f:=47) rfl ?_);refine goesM (some 28) Try.func47 #[.func (.func 48) #[] #[],.float .f64 t111,.float .f64 t112] ?_;(with_reducible refine (pair_step.calls 48 t111 t112 t113 _ A8.out).mono ?_);rintro e w' ⟨rfl,⟨nd,rfl⟩⟩;refine ⟨_,rfl,?_⟩;(try (rw [drewN_self w9];generalize hq_ : World.drewN w9 _ = w9;have n0_ : Aside0 (w9.heap[gb107]? = some (.cells #[.float .f64 0,.float .f64 0] 57 (0,0))):=⟨by rw [← hq_];exact (bk_ BK107)⟩;have n1_ : Aside0 (Below w.heap.size w w9):=⟨by rw [← hq_];exact (bl_ HB)⟩;clear BK107 HB hq_;have BK107:=n0_;have HB:=n1_;clear n0_ n1_));have hcz10_0:=bc_ BK107 0;have hcz10_1:=bc_ BK107 1;have hfz10_0:=bz_ BK107 0;have hfz10_1:=bz_ BK107 1))
 refine bodyPost_ret (results_cell_row rfl _ _ gb107 57 #[.float .f64 t108,.float .f64 t113] (0,0) _ rfl (by (with_reducible repeat (first|apply bN|apply bD|apply bA));refine blk_put (cs:=#[.float .f64 t108,.float .f64 0]) ?_ 1 _ rfl;(with_reducible repeat (first|apply bN|apply bD|apply bA));refine blk_put (cs:=#[.float .f64 0,.float .f64 0]) ?_ 0 _ rfl;exact bk_ BK107) Try.underlying57 rfl (by kernel_rfl)) rfl ?_
 exact ⟨rf_,bl_ HB⟩

def pair_two_told.f (a0_0 : Nat) (a0_1 : Nat) : Option (Nat × Nat) := some (a0_0, a0_1)
set_option maxHeartbeats 3000000 in
set_option maxRecDepth 100000 in
theorem pair_two_told.calls (a0_0 : Nat) (a0_1 : Nat) (r1 : Nat) (r2 : Nat) (w : World) (h : pair_two_told.f a0_0 a0_1 = some (r1, r2)) :
  Calls Try.prog 40 #[.agg #[.float .f64 a0_0,.float .f64 a0_1]] w fun e w'=>e = .returned (.agg #[.float .f64 r1,.float .f64 r2]) ∧ Below w.heap.size w w':=by
 have hu57:=Try.underlying57
 have hu30:=Try.underlying30
 have HB:=Aside0.mk (Below.refl w.heap.size w)
 have H : (some (a0_0,a0_1)) = some (r1,r2):=h
 clear h
 simp only [Option.some.injEq,Prod.mk.injEq] at H
 obtain ⟨rfl,rfl⟩:=H
 go_enter Try.func40,Try.ntmps40
 go_wp2_with (first|((with_reducible refine gate_dst (N:=1) rfl ?_);refine box_ev (N:=1) (cs:=#[.float .f64 a0_0,.float .f64 a0_1]) (t:=57) ?_;intro gb114 hg w2 hbox hb;have BK114:=Aside0.mk (hbox);have GW114:=ge_ HB hg;have GE114:=ge_ HB hg;replace HB:=bs_ HB hb;clear hb hbox hg)|((with_reducible refine gate_dst (N:=2) rfl ?_);refine box_ev (N:=2) (cs:=#[.float .f64 0,.float .f64 0]) (t:=30) ?_;intro gb115 hg w3 hbox hb;have BK115:=Aside0.mk (hbox);have GW115:=ge_ HB hg;have GE115:=ge_ HB hg;replace HB:=bs_ HB hb;have NB114_115:=nlt_ BK114 hg;have NB115_114:=ngt_ BK114 hg;replace BK114:=kb_ BK114 hb;clear hb hbox hg;have hnb4:=NB114_115.out;have hnc4:=NB115_114.out;have hcz5_0:=bc_ BK114 0;have hcz5_1:=bc_ BK114 1;have hfz5_0:=bz_ BK114 0;have hfz5_1:=bz_ BK114 1;have hcz6_0:=bc_ BK115 0;have hcz6_1:=bc_ BK115 1;have hfz6_0:=bz_ BK115 0;have hfz6_1:=bz_ BK115 1))
 refine bodyPost_ret (results_cell_row rfl _ _ gb115 30 #[.float .f64 a0_0,.float .f64 a0_1] (0,0) _ rfl (by (with_reducible repeat (first|apply bN|apply bD|apply bA));refine blk_put (cs:=#[.float .f64 a0_0,.float .f64 0]) ?_ 1 _ rfl;(with_reducible repeat (first|apply bN|apply bD|apply bA));refine blk_put (cs:=#[.float .f64 0,.float .f64 0]) ?_ 0 _ rfl;exact bk_ BK115) Try.underlying30 rfl (by kernel_rfl)) rfl ?_
 exact ⟨rf_,bl_ HB⟩

def pair_Sum.f (a0 : Nat) (a1 : Nat) : Option (Nat × Nat) := (pair_sum.f a0 a1).bind fun bt117 => ((pair_two_told.f bt117.1 bt117.2).bind fun bt119 => (some (bt119.1, bt119.2)))
set_option maxHeartbeats 3000000 in
set_option maxRecDepth 100000 in
theorem pair_Sum.calls (a0 : Nat) (a1 : Nat) (r1 : Nat) (r2 : Nat) (w : World) (h : pair_Sum.f a0 a1 = some (r1, r2)) :
  Calls Try.prog 12 #[.float .f64 a0,.float .f64 a1] w fun e w'=>e = .returned (.agg #[.float .f64 r1,.float .f64 r2]) ∧ Below w.heap.size w w':=by
 have hu30:=Try.underlying30
 have HB:=Aside0.mk (Below.refl w.heap.size w)
 have H : ((pair_sum.f a0 a1).bind fun bt117=>((pair_two_told.f bt117.1 bt117.2).bind fun bt119=>(some (bt119.1,bt119.2)))) = some (r1,r2):=h
 clear h
 obtain ⟨⟨t117,t118⟩,A3,H⟩:=ob_ H
 try dsimp only at H
 obtain ⟨⟨t119,t120⟩,A4,H⟩:=ob_ H
 try dsimp only at H
 simp only [Option.some.injEq,Prod.mk.injEq] at H
 obtain ⟨rfl,rfl⟩:=H
 go_enter Try.func12,Try.ntmps12
 go_wp2_with (first|((with_reducible refine gate_dst (N:=4) rfl ?_);refine box_ev (N:=4) (cs:=#[.float .f64 0,.float .f64 0]) (t:=30) ?_;intro gb116 hg w5 hbox hb;have BK116:=Aside0.mk (hbox);have GW116:=ge_ HB hg;have GE116:=ge_ HB hg;replace HB:=bs_ HB hb;clear hb hbox hg)|((with_reducible refine gate_callee (f:=39) rfl ?_);refine goesM (some 7) Try.func39 #[.float .f64 a0,.float .f64 a1] ?_;(with_reducible refine (pair_sum.calls a0 a1 t117 t118 _ A3.out).mono ?_);rintro e w6 ⟨rfl,hb⟩;refine ⟨_,rfl,?_⟩;replace BK116:=kb_ BK116 hb;replace HB:=bs_ HB hb;(try clear hb);(try clear hb2);(try clear hk);(try clear hi))|((with_reducible refine gate_callee (f:=40) rfl ?_);refine goesM (some 8) Try.func40 #[.agg #[.float .f64 t117,.float .f64 t118]] ?_;(with_reducible refine (pair_two_told.calls t117 t118 t119 t120 _ A4.out).mono ?_);rintro e w7 ⟨rfl,hb⟩;refine ⟨_,rfl,?_⟩;replace BK116:=kb_ BK116 hb;replace HB:=bs_ HB hb;(try clear hb);(try clear hb2);(try clear hk);(try clear hi);have hcz8_0:=bc_ BK116 0;have hcz8_1:=bc_ BK116 1;have hfz8_0:=bz_ BK116 0;have hfz8_1:=bz_ BK116 1))
 refine bodyPost_ret (results_cell_row rfl _ _ gb116 30 #[.float .f64 t119,.float .f64 t120] (0,0) _ rfl (by (with_reducible repeat (first|apply bN|apply bD|apply bA));refine blk_put (cs:=#[.float .f64 t119,.float .f64 0]) ?_ 1 _ rfl;(with_reducible repeat (first|apply bN|apply bD|apply bA));refine blk_put (cs:=#[.float .f64 0,.float .f64 0]) ?_ 0 _ rfl;exact bk_ BK116) Try.underlying30 rfl (by kernel_rfl)) rfl ?_
 exact ⟨rf_,bl_ HB⟩

def pair_halves.f (a0 : Nat) : Option (Nat × Nat) := (pair_step.f 49 4728779608772575232 a0).bind fun t122 => ((pair_step.f 65 a0 t122).bind fun t123 => ((pair_step.f 48 t122 t123).bind fun t124 => ((pair_step.f 65 a0 t124).bind fun t125 => (some (t124, t125)))))
set_option maxHeartbeats 3000000 in
set_option maxRecDepth 100000 in
theorem pair_halves.calls (a0 : Nat) (r1 : Nat) (r2 : Nat) (w : World) (h : pair_halves.f a0 = some (r1, r2)) :
  Calls Try.prog 41 #[.float .f64 a0] w fun e w'=>e = .returned (.agg #[.float .f64 r1,.float .f64 r2]) ∧ Below w.heap.size w w':=by
 have hu57:=Try.underlying57
 have HB:=Aside0.mk (Below.refl w.heap.size w)
 have H : ((pair_step.f 49 4728779608772575232 a0).bind fun t122=>((pair_step.f 65 a0 t122).bind fun t123=>((pair_step.f 48 t122 t123).bind fun t124=>((pair_step.f 65 a0 t124).bind fun t125=>(some (t124,t125)))))) = some (r1,r2):=h
 clear h
 obtain ⟨t122,A2,H⟩:=ob_ H
 try dsimp only at H
 obtain ⟨t123,A3,H⟩:=ob_ H
 try dsimp only at H
 obtain ⟨t124,A4,H⟩:=ob_ H
 try dsimp only at H
 obtain ⟨t125,A5,H⟩:=ob_ H
 try dsimp only at H
 simp only [Option.some.injEq,Prod.mk.injEq] at H
 obtain ⟨rfl,rfl⟩:=H
 go_enter Try.func41,Try.ntmps41
 go_wp2_with (first|((with_reducible refine gate_dst (N:=2) rfl ?_);refine box_ev (N:=2) (cs:=#[.float .f64 0,.float .f64 0]) (t:=57) ?_;intro gb121 hg w6 hbox hb;have BK121:=Aside0.mk (hbox);have GW121:=ge_ HB hg;have GE121:=ge_ HB hg;replace HB:=bs_ HB hb;clear hb hbox hg)|((with_reducible refine gate_callee (f:=47) rfl ?_);refine goesM (some 7) Try.func47 #[.func (.func 49) #[] #[],.float .f64 4728779608772575232,.float .f64 a0] ?_;(with_reducible refine (pair_step.calls 49 4728779608772575232 a0 t122 _ A2.out).mono ?_);rintro e w' ⟨rfl,⟨nd,rfl⟩⟩;refine ⟨_,rfl,?_⟩;(try (rw [drewN_self w6];generalize hq_ : World.drewN w6 _ = w6;have n0_ : Aside0 (w6.heap[gb121]? = some (.cells #[.float .f64 0,.float .f64 0] 57 (0,0))):=⟨by rw [← hq_];exact (bk_ BK121)⟩;have n1_ : Aside0 (Below w.heap.size w w6):=⟨by rw [← hq_];exact (bl_ HB)⟩;clear BK121 HB hq_;have BK121:=n0_;have HB:=n1_;clear n0_ n1_)))|((with_reducible refine gate_callee (f:=47) rfl ?_);refine goesM (some 10) Try.func47 #[.func (.func 65) #[] #[],.float .f64 a0,.float .f64 t122] ?_;(with_reducible refine (pair_step.calls 65 a0 t122 t123 _ A3.out).mono ?_);rintro e w' ⟨rfl,⟨nd,rfl⟩⟩;refine ⟨_,rfl,?_⟩;(try (rw [drewN_self w6];generalize hq_ : World.drewN w6 _ = w6;have n0_ : Aside0 (w6.heap[gb121]? = some (.cells #[.float .f64 0,.float .f64 0] 57 (0,0))):=⟨by rw [← hq_];exact (bk_ BK121)⟩;have n1_ : Aside0 (Below w.heap.size w w6):=⟨by rw [← hq_];exact (bl_ HB)⟩;clear BK121 HB hq_;have BK121:=n0_;have HB:=n1_;clear n0_ n1_)))|((with_reducible refine gate_callee (f:=47) rfl ?_);refine goesM (some 13) Try.func47 #[.func (.func 48) #[] #[],.float .f64 t122,.float .f64 t123] ?_;(with_reducible refine (pair_step.calls 48 t122 t123 t124 _ A4.out).mono ?_);rintro e w' ⟨rfl,⟨nd,rfl⟩⟩;refine ⟨_,rfl,?_⟩;(try (rw [drewN_self w6];generalize hq_ : World.drewN w6 _ = w6;have n0_ : Aside0 (w6.heap[gb121]? = some (.cells #[.float .f64 0,.float .f64 0] 57 (0,0))):=⟨by rw [← hq_];exact (bk_ BK121)⟩;have n1_ : Aside0 (Below w.heap.size w w6):=⟨by rw [← hq_];exact (bl_ HB)⟩;clear BK121 HB hq_;have BK121:=n0_;have HB:=n1_;clear n0_ n1_)))|((with_reducible refine gate_callee (f:=47) rfl ?_);refine goesM (some 17) Try.func47 #[.func (.func 65) #[] #[],.float .f64 a0,.float .f64 t124] ?_;(with_reducible refine (pair_step.calls 65 a0 t124 t125 _ A5.out).mono ?_);rintro e w' ⟨rfl,⟨nd,rfl⟩⟩;refine ⟨_,rfl,?_⟩;(try (rw [drewN_self w6];generalize hq_ : World.drewN w6 _ = w6;have n0_ : Aside0 (w6.heap[gb121]? = some (.cells #[.float .f64 0,.float .f64 0] 57 (0,0))):=⟨by rw [← hq_];exact (bk_ BK121)⟩;have n1_ : Aside0 (Below w.heap.size w w6):=⟨by rw [← hq_];exact (bl_ HB)⟩;clear BK121 HB hq_;have BK121:=n0_;have HB:=n1_;clear n0_ n1_));have hcz7_0:=bc_ BK121 0;have hcz7_1:=bc_ BK121 1;have hfz7_0:=bz_ BK121 0;have hfz7_1:=bz_ BK121 1))
 refine bodyPost_ret (results_cell_row rfl _ _ gb121 57 #[.float .f64 t124,.float .f64 t125] (0,0) _ rfl (by (with_reducible repeat (first|apply bN|apply bD|apply bA));refine blk_put (cs:=#[.float .f64 t124,.float .f64 0]) ?_ 1 _ rfl;(with_reducible repeat (first|apply bN|apply bD|apply bA));refine blk_put (cs:=#[.float .f64 0,.float .f64 0]) ?_ 0 _ rfl;exact bk_ BK121) Try.underlying57 rfl (by kernel_rfl)) rfl ?_
 exact ⟨rf_,bl_ HB⟩

def pair_Halves.f (a0 : Nat) : Option (Nat × Nat) := (pair_halves.f a0).bind fun bt127 => ((pair_two_told.f bt127.1 bt127.2).bind fun bt129 => (some (bt129.1, bt129.2)))
set_option maxHeartbeats 3000000 in
set_option maxRecDepth 100000 in
theorem pair_Halves.calls (a0 : Nat) (r1 : Nat) (r2 : Nat) (w : World) (h : pair_Halves.f a0 = some (r1, r2)) :
  Calls Try.prog 13 #[.float .f64 a0] w fun e w'=>e = .returned (.agg #[.float .f64 r1,.float .f64 r2]) ∧ Below w.heap.size w w':=by
 have hu30:=Try.underlying30
 have HB:=Aside0.mk (Below.refl w.heap.size w)
 have H : ((pair_halves.f a0).bind fun bt127=>((pair_two_told.f bt127.1 bt127.2).bind fun bt129=>(some (bt129.1,bt129.2)))) = some (r1,r2):=h
 clear h
 obtain ⟨⟨t127,t128⟩,A2,H⟩:=ob_ H
 try dsimp only at H
 obtain ⟨⟨t129,t130⟩,A3,H⟩:=ob_ H
 try dsimp only at H
 simp only [Option.some.injEq,Prod.mk.injEq] at H
 obtain ⟨rfl,rfl⟩:=H
 go_enter Try.func13,Try.ntmps13
 go_wp2_with (first|((with_reducible refine gate_dst (N:=2) rfl ?_);refine box_ev (N:=2) (cs:=#[.float .f64 0,.float .f64 0]) (t:=30) ?_;intro gb126 hg w4 hbox hb;have BK126:=Aside0.mk (hbox);have GW126:=ge_ HB hg;have GE126:=ge_ HB hg;replace HB:=bs_ HB hb;clear hb hbox hg)|((with_reducible refine gate_callee (f:=41) rfl ?_);refine goesM (some 4) Try.func41 #[.float .f64 a0] ?_;(with_reducible refine (pair_halves.calls a0 t127 t128 _ A2.out).mono ?_);rintro e w5 ⟨rfl,hb⟩;refine ⟨_,rfl,?_⟩;replace BK126:=kb_ BK126 hb;replace HB:=bs_ HB hb;(try clear hb);(try clear hb2);(try clear hk);(try clear hi))|((with_reducible refine gate_callee (f:=40) rfl ?_);refine goesM (some 5) Try.func40 #[.agg #[.float .f64 t127,.float .f64 t128]] ?_;(with_reducible refine (pair_two_told.calls t127 t128 t129 t130 _ A3.out).mono ?_);rintro e w6 ⟨rfl,hb⟩;refine ⟨_,rfl,?_⟩;replace BK126:=kb_ BK126 hb;replace HB:=bs_ HB hb;(try clear hb);(try clear hb2);(try clear hk);(try clear hi);have hcz7_0:=bc_ BK126 0;have hcz7_1:=bc_ BK126 1;have hfz7_0:=bz_ BK126 0;have hfz7_1:=bz_ BK126 1))
 refine bodyPost_ret (results_cell_row rfl _ _ gb126 30 #[.float .f64 t129,.float .f64 t130] (0,0) _ rfl (by (with_reducible repeat (first|apply bN|apply bD|apply bA));refine blk_put (cs:=#[.float .f64 t129,.float .f64 0]) ?_ 1 _ rfl;(with_reducible repeat (first|apply bN|apply bD|apply bA));refine blk_put (cs:=#[.float .f64 0,.float .f64 0]) ?_ 0 _ rfl;exact bk_ BK126) Try.underlying30 rfl (by kernel_rfl)) rfl ?_
 exact ⟨rf_,bl_ HB⟩

end Go.Proofs.Ytdemanikmaafeaa.Pr
-- written by this session's own program (wip/fprint.py), which widens the kit's print by floats
namespace Go.Proofs.Ytdemanikmaafeaa.Pr
open Go.RowKit Go.Proofs.YtdemanikmaafeaaW.PrintWords Go.Proofs.YtdemanikmaafeaaW.PrintLast Go.Proofs.YtdemanikmaafeaaW.PrintMore
attribute [local go_sem] max2_int min2_int max_two min_two max_three min_three max_four min_four   -- for this text's walks alone
set_option linter.unusedVariables false
set_option linter.unusedSimpArgs false

def pair_product.f (a0 : Nat) (a1 : Nat) : Option (Nat × Nat) := (pair_step.f 49 a0 a1).bind fun t132 => ((pair_halves.f a0).bind fun bt133 => ((pair_halves.f a1).bind fun bt135 => ((pair_step.f 49 bt133.1 bt135.1).bind fun t139 => ((pair_step.f 65 t139 t132).bind fun t140 => ((pair_step.f 49 bt133.1 bt135.2).bind fun t141 => ((pair_step.f 48 t140 t141).bind fun t142 => ((pair_step.f 49 bt133.2 bt135.1).bind fun t143 => ((pair_step.f 48 t142 t143).bind fun t144 => ((pair_step.f 49 bt133.2 bt135.2).bind fun t145 => ((pair_step.f 48 t144 t145).bind fun t146 => (some (t132, t146))))))))))))
set_option maxHeartbeats 3000000 in
set_option maxRecDepth 100000 in
theorem pair_product.calls (a0 : Nat) (a1 : Nat) (r1 : Nat) (r2 : Nat) (w : World) (h : pair_product.f a0 a1 = some (r1, r2)) :
  Calls Try.prog 42 #[.float .f64 a0,.float .f64 a1] w fun e w'=>e = .returned (.agg #[.float .f64 r1,.float .f64 r2]) ∧ Below w.heap.size w w':=by
 have hu57:=Try.underlying57
 have HB:=Aside0.mk (Below.refl w.heap.size w)
 have H : ((pair_step.f 49 a0 a1).bind fun t132=>((pair_halves.f a0).bind fun bt133=>((pair_halves.f a1).bind fun bt135=>((pair_step.f 49 bt133.1 bt135.1).bind fun t139=>((pair_step.f 65 t139 t132).bind fun t140=>((pair_step.f 49 bt133.1 bt135.2).bind fun t141=>((pair_step.f 48 t140 t141).bind fun t142=>((pair_step.f 49 bt133.2 bt135.1).bind fun t143=>((pair_step.f 48 t142 t143).bind fun t144=>((pair_step.f 49 bt133.2 bt135.2).bind fun t145=>((pair_step.f 48 t144 t145).bind fun t146=>(some (t132,t146))))))))))))) = some (r1,r2):=h
 clear h
 obtain ⟨t132,A3,H⟩:=ob_ H
 try dsimp only at H
 obtain ⟨⟨t133,t134⟩,A4,H⟩:=ob_ H
 try dsimp only at H
 obtain ⟨⟨t135,t136⟩,A5,H⟩:=ob_ H
 try dsimp only at H
 obtain ⟨t139,A6,H⟩:=ob_ H
 try dsimp only at H
 obtain ⟨t140,A7,H⟩:=ob_ H
 try dsimp only at H
 obtain ⟨t141,A8,H⟩:=ob_ H
 try dsimp only at H
 obtain ⟨t142,A9,H⟩:=ob_ H
 try dsimp only at H
 obtain ⟨t143,A10,H⟩:=ob_ H
 try dsimp only at H
 obtain ⟨t144,A11,H⟩:=ob_ H
 try dsimp only at H
 obtain ⟨t145,A12,H⟩:=ob_ H
 try dsimp only at H
 obtain ⟨t146,A13,H⟩:=ob_ H
 try dsimp only at H
 simp only [Option.some.injEq,Prod.mk.injEq] at H
 obtain ⟨rfl,rfl⟩:=H
 go_enter Try.func42,Try.ntmps42
 go_wp2_with (first|((with_reducible refine gate_dst (N:=4) rfl ?_);refine box_ev (N:=4) (cs:=#[.float .f64 0,.float .f64 0]) (t:=57) ?_;intro gb131 hg w14 hbox hb;have BK131:=Aside0.mk (hbox);have GW131:=ge_ HB hg;have GE131:=ge_ HB hg;replace HB:=bs_ HB hb;clear hb hbox hg)|((with_reducible refine gate_callee (f:=47) rfl ?_);refine goesM (some 11) Try.func47 #[.func (.func 49) #[] #[],.float .f64 a0,.float .f64 a1] ?_;(with_reducible refine (pair_step.calls 49 a0 a1 t132 _ A3.out).mono ?_);rintro e w' ⟨rfl,⟨nd,rfl⟩⟩;refine ⟨_,rfl,?_⟩;(try (rw [drewN_self w14];generalize hq_ : World.drewN w14 _ = w14;have n0_ : Aside0 (w14.heap[gb131]? = some (.cells #[.float .f64 0,.float .f64 0] 57 (0,0))):=⟨by rw [← hq_];exact (bk_ BK131)⟩;have n1_ : Aside0 (Below w.heap.size w w14):=⟨by rw [← hq_];exact (bl_ HB)⟩;clear BK131 HB hq_;have BK131:=n0_;have HB:=n1_;clear n0_ n1_)))|((with_reducible refine gate_callee (f:=41) rfl ?_);refine goesM (some 13) Try.func41 #[.float .f64 a0] ?_;(with_reducible refine (pair_halves.calls a0 t133 t134 _ A4.out).mono ?_);rintro e w15 ⟨rfl,hb⟩;refine ⟨_,rfl,?_⟩;replace BK131:=kb_ BK131 hb;replace HB:=bs_ HB hb;(try clear hb);(try clear hb2);(try clear hk);(try clear hi))|((with_reducible refine gate_callee (f:=41) rfl ?_);refine goesM (some 15) Try.func41 #[.float .f64 a1] ?_;(with_reducible refine (pair_halves.calls a1 t135 t136 _ A5.out).mono ?_);rintro e w16 ⟨rfl,hb⟩;refine ⟨_,rfl,?_⟩;replace BK131:=kb_ BK131 hb;replace HB:=bs_ HB hb;(try clear hb);(try clear hb2);(try clear hk);(try clear hi))|((with_reducible refine gate_dst (N:=6) rfl ?_);refine box_ev (N:=6) (cs:=#[.float .f64 0,.float .f64 0]) (t:=57) ?_;intro gb137 hg w17 hbox hb;have BK137:=Aside0.mk (hbox);have GW137:=ge_ HB hg;have GE137:=ge_ HB hg;replace HB:=bs_ HB hb;have NB131_137:=nlt_ BK131 hg;have NB137_131:=ngt_ BK131 hg;replace BK131:=kb_ BK131 hb;clear hb hbox hg)|((with_reducible refine gate_dst (N:=7) rfl ?_);refine box_ev (N:=7) (cs:=#[.float .f64 0,.float .f64 0]) (t:=57) ?_;intro gb138 hg w18 hbox hb;have BK138:=Aside0.mk (hbox);have GW138:=ge_ HB hg;have GE138:=ge_ HB hg;replace HB:=bs_ HB hb;have NB131_138:=nlt_ BK131 hg;have NB138_131:=ngt_ BK131 hg;replace BK131:=kb_ BK131 hb;have NB137_138:=nlt_ BK137 hg;have NB138_137:=ngt_ BK137 hg;replace BK137:=kb_ BK137 hb;clear hb hbox hg;have hnb19:=NB137_131.out;have hnc19:=NB131_137.out;have hnb20:=NB137_138.out;have hnc20:=NB138_137.out;have hcz21_0:=bc_ BK137 0;have hcz21_1:=bc_ BK137 1;have hfz21_0:=bz_ BK137 0;have hfz21_1:=bz_ BK137 1;have hnb22:=NB138_131.out;have hnc22:=NB131_138.out;have hcz23_0:=bc_ BK138 0;have hcz23_1:=bc_ BK138 1;have hfz23_0:=bz_ BK138 0;have hfz23_1:=bz_ BK138 1)|((with_reducible refine gate_callee (f:=47) rfl ?_);refine goesM (some 20) Try.func47 #[.func (.func 49) #[] #[],.float .f64 t133,.float .f64 t135] ?_;(with_reducible refine (pair_step.calls 49 t133 t135 t139 _ A6.out).mono ?_);rintro e w' ⟨rfl,⟨nd,rfl⟩⟩;refine ⟨_,rfl,?_⟩)|((with_reducible refine gate_callee (f:=47) rfl ?_);refine goesM (some 22) Try.func47 #[.func (.func 65) #[] #[],.float .f64 t139,.float .f64 t132] ?_;(with_reducible refine (pair_step.calls 65 t139 t132 t140 _ A7.out).mono ?_);rintro e w' ⟨rfl,⟨nd,rfl⟩⟩;refine ⟨_,rfl,?_⟩)|((with_reducible refine gate_callee (f:=47) rfl ?_);refine goesM (some 28) Try.func47 #[.func (.func 49) #[] #[],.float .f64 t133,.float .f64 t136] ?_;(with_reducible refine (pair_step.calls 49 t133 t136 t141 _ A8.out).mono ?_);rintro e w' ⟨rfl,⟨nd,rfl⟩⟩;refine ⟨_,rfl,?_⟩)|((with_reducible refine gate_callee (f:=47) rfl ?_);refine goesM (some 29) Try.func47 #[.func (.func 48) #[] #[],.float .f64 t140,.float .f64 t141] ?_;(with_reducible refine (pair_step.calls 48 t140 t141 t142 _ A9.out).mono ?_);rintro e w' ⟨rfl,⟨nd,rfl⟩⟩;refine ⟨_,rfl,?_⟩)|((with_reducible refine gate_callee (f:=47) rfl ?_);refine goesM (some 35) Try.func47 #[.func (.func 49) #[] #[],.float .f64 t134,.float .f64 t135] ?_;(with_reducible refine (pair_step.calls 49 t134 t135 t143 _ A10.out).mono ?_);rintro e w' ⟨rfl,⟨nd,rfl⟩⟩;refine ⟨_,rfl,?_⟩)|((with_reducible refine gate_callee (f:=47) rfl ?_);refine goesM (some 36) Try.func47 #[.func (.func 48) #[] #[],.float .f64 t142,.float .f64 t143] ?_;(with_reducible refine (pair_step.calls 48 t142 t143 t144 _ A11.out).mono ?_);rintro e w' ⟨rfl,⟨nd,rfl⟩⟩;refine ⟨_,rfl,?_⟩)|((with_reducible refine gate_callee (f:=47) rfl ?_);refine goesM (some 42) Try.func47 #[.func (.func 49) #[] #[],.float .f64 t134,.float .f64 t136] ?_;(with_reducible refine (pair_step.calls 49 t134 t136 t145 _ A12.out).mono ?_);rintro e w' ⟨rfl,⟨nd,rfl⟩⟩;refine ⟨_,rfl,?_⟩)|((with_reducible refine gate_callee (f:=47) rfl ?_);refine goesM (some 43) Try.func47 #[.func (.func 48) #[] #[],.float .f64 t144,.float .f64 t145] ?_;(with_reducible refine (pair_step.calls 48 t144 t145 t146 _ A13.out).mono ?_);rintro e w' ⟨rfl,⟨nd,rfl⟩⟩;refine ⟨_,rfl,?_⟩;have hcz24_0:=bc_ BK131 0;have hcz24_1:=bc_ BK131 1;have hfz24_0:=bz_ BK131 0;have hfz24_1:=bz_ BK131 1))
 refine bodyPost_ret (results_cell_row rfl _ _ gb131 57 #[.float .f64 t132,.float .f64 t146] (0,0) _ rfl (by (with_reducible repeat (first|apply bN|apply bD|apply bA));refine blk_put (cs:=#[.float .f64 t132,.float .f64 0]) ?_ 1 _ rfl;(with_reducible repeat (first|apply bN|apply bD|apply bA));refine blk_put (cs:=#[.float .f64 0,.float .f64 0]) ?_ 0 _ rfl;(with_reducible repeat (first|apply bN|apply bD|apply bA));refine blk_far ?_ NB131_138.out _;(with_reducible repeat (first|apply bN|apply bD|apply bA));refine blk_far ?_ NB131_138.out _;(with_reducible repeat (first|apply bN|apply bD|apply bA));refine blk_far ?_ NB131_137.out _;(with_reducible repeat (first|apply bN|apply bD|apply bA));refine blk_far ?_ NB131_137.out _;exact bk_ BK131) Try.underlying57 rfl (by kernel_rfl)) rfl ?_
 exact ⟨rf_,bl_ HB⟩

def pair_Product.f (a0 : Nat) (a1 : Nat) : Option (Nat × Nat) := (pair_product.f a0 a1).bind fun bt148 => ((pair_two_told.f bt148.1 bt148.2).bind fun bt150 => (some (bt150.1, bt150.2)))
set_option maxHeartbeats 3000000 in
set_option maxRecDepth 100000 in
theorem pair_Product.calls (a0 : Nat) (a1 : Nat) (r1 : Nat) (r2 : Nat) (w : World) (h : pair_Product.f a0 a1 = some (r1, r2)) :
  Calls Try.prog 14 #[.float .f64 a0,.float .f64 a1] w fun e w'=>e = .returned (.agg #[.float .f64 r1,.float .f64 r2]) ∧ Below w.heap.size w w':=by
 have hu30:=Try.underlying30
 have HB:=Aside0.mk (Below.refl w.heap.size w)
 have H : ((pair_product.f a0 a1).bind fun bt148=>((pair_two_told.f bt148.1 bt148.2).bind fun bt150=>(some (bt150.1,bt150.2)))) = some (r1,r2):=h
 clear h
 obtain ⟨⟨t148,t149⟩,A3,H⟩:=ob_ H
 try dsimp only at H
 obtain ⟨⟨t150,t151⟩,A4,H⟩:=ob_ H
 try dsimp only at H
 simp only [Option.some.injEq,Prod.mk.injEq] at H
 obtain ⟨rfl,rfl⟩:=H
 go_enter Try.func14,Try.ntmps14
 go_wp2_with (first|((with_reducible refine gate_dst (N:=4) rfl ?_);refine box_ev (N:=4) (cs:=#[.float .f64 0,.float .f64 0]) (t:=30) ?_;intro gb147 hg w5 hbox hb;have BK147:=Aside0.mk (hbox);have GW147:=ge_ HB hg;have GE147:=ge_ HB hg;replace HB:=bs_ HB hb;clear hb hbox hg)|((with_reducible refine gate_callee (f:=42) rfl ?_);refine goesM (some 7) Try.func42 #[.float .f64 a0,.float .f64 a1] ?_;(with_reducible refine (pair_product.calls a0 a1 t148 t149 _ A3.out).mono ?_);rintro e w6 ⟨rfl,hb⟩;refine ⟨_,rfl,?_⟩;replace BK147:=kb_ BK147 hb;replace HB:=bs_ HB hb;(try clear hb);(try clear hb2);(try clear hk);(try clear hi))|((with_reducible refine gate_callee (f:=40) rfl ?_);refine goesM (some 8) Try.func40 #[.agg #[.float .f64 t148,.float .f64 t149]] ?_;(with_reducible refine (pair_two_told.calls t148 t149 t150 t151 _ A4.out).mono ?_);rintro e w7 ⟨rfl,hb⟩;refine ⟨_,rfl,?_⟩;replace BK147:=kb_ BK147 hb;replace HB:=bs_ HB hb;(try clear hb);(try clear hb2);(try clear hk);(try clear hi);have hcz8_0:=bc_ BK147 0;have hcz8_1:=bc_ BK147 1;have hfz8_0:=bz_ BK147 0;have hfz8_1:=bz_ BK147 1))
 refine bodyPost_ret (results_cell_row rfl _ _ gb147 30 #[.float .f64 t150,.float .f64 t151] (0,0) _ rfl (by (with_reducible repeat (first|apply bN|apply bD|apply bA));refine blk_put (cs:=#[.float .f64 t150,.float .f64 0]) ?_ 1 _ rfl;(with_reducible repeat (first|apply bN|apply bD|apply bA));refine blk_put (cs:=#[.float .f64 0,.float .f64 0]) ?_ 0 _ rfl;exact bk_ BK147) Try.underlying30 rfl (by kernel_rfl)) rfl ?_
 exact ⟨rf_,bl_ HB⟩

def l05_power.f (a0 : Int) : Option (Nat) := if a0 < (-1022) then (if 0 ≤ (IntKind.u64.wrap (wrap64 (a0 + 1074))) then (some ((shl .u64 1 (IntKind.u64.wrap (wrap64 (a0 + 1074))) : Int).toNat)) else (none)) else (some ((IntKind.u64.wrap ((IntKind.u64.wrap (wrap64 (a0 + 1023))) * 4503599627370496) : Int).toNat))
set_option maxHeartbeats 3000000 in
set_option maxRecDepth 100000 in
theorem l05_power.calls (a0 : Int) (r : Nat) (w : World) (h : l05_power.f a0 = some r) :
  Calls Try.prog 15 #[.int .i64 a0] w fun e w'=>e = .returned (.float .f64 r) ∧ Drawn0 w w':=by
 have H : (if a0 < (-1022) then (if 0 ≤ (IntKind.u64.wrap (wrap64 (a0 + 1074))) then (some ((shl .u64 1 (IntKind.u64.wrap (wrap64 (a0 + 1074))) : Int).toNat)) else (none)) else (some ((IntKind.u64.wrap ((IntKind.u64.wrap (wrap64 (a0 + 1023))) * 4503599627370496) : Int).toNat))) = some r:=h
 clear h
 by_cases c2 : a0 < (-1022)
 ·rw [if_pos c2] at H
  have c2b0 : decide (a0 < (-1022)) = true:=decide_eq_true c2
  clear c2
  obtain ⟨ji3,hji3⟩ : ∃ j_ : Int,(IntKind.u64.wrap (wrap64 (a0 + 1074))) = j_:=⟨_,rfl⟩
  replace H : (if 0 ≤ (ji3) then (some ((shl .u64 1 (ji3) : Int).toNat)) else (none)) = some r:=by first|(rw [hji3] at H;exact H)|(simp only [hji3] at H ⊢;exact H)
  by_cases c4 : 0 ≤ (ji3)
  ·rw [if_pos c4] at H
   have c4b0:=eq_true c4
   have c4b1 : decide (0 ≤ (ji3)) = true:=decide_eq_true c4
   clear c4
   obtain ⟨ji5,hji5⟩ : ∃ j_ : Int,(shl .u64 1 (ji3)) = j_:=⟨_,rfl⟩
   replace H : (some ((ji5 : Int).toNat)) = some r:=by first|(rw [hji5] at H;exact H)|(simp only [hji5] at H ⊢;exact H)
   have hji5_ : (IntKind.u64.wrap (1 * 2 ^ min (ji3).toNat 64)) = ji5:=hji5
   have hji5z : (ji3) ≤ 64 → (IntKind.u64.wrap (1 * 2 ^ (ji3).toNat)) = ji5:=shl_small hji5
   have hji5u : (IntKind.u64.wrap (2 ^ min (ji3).toNat 64)) = ji5:=by have h_:=hji5_;rw [Int.one_mul] at h_;exact h_
   have hji5v : (ji3) ≤ 64 → (IntKind.u64.wrap (2 ^ (ji3).toNat)) = ji5:=fun hle_=>by have h_:=hji5z hle_;rw [Int.one_mul] at h_;exact h_
   obtain rfl:=Option.some.inj H
   go_enter Try.func15,Try.ntmps15
   go_wp2
   go_ret
   exact ⟨by first|rfl|(simp;done)|(simp only [← hji3,← hji5] <;> (first|rfl|simp))|(simp [*];done),by repeat (first|exact Drawn0.refl _|apply Drawn0.step)⟩
  ·rw [if_neg c4] at H
   exact absurd H (by simp)
 ·rw [if_neg c2] at H
  have c2b0 : decide (a0 < (-1022)) = false:=decide_eq_false c2
  clear c2
  obtain rfl:=Option.some.inj H
  go_enter Try.func15,Try.ntmps15
  go_wp2
  go_ret
  exact ⟨by first|rfl|(simp;done)|(simp [*];done),by repeat (first|exact Drawn0.refl _|apply Drawn0.step)⟩

def pair_quick.f (a0 : Nat) (a1 : Nat) : Option (Nat × Nat) := (pair_step.f 48 a0 a1).bind fun t153 => ((pair_step.f 65 t153 a0).bind fun t154 => ((pair_step.f 65 a1 t154).bind fun t155 => (some (t153, t155))))
set_option maxHeartbeats 3000000 in
set_option maxRecDepth 100000 in
theorem pair_quick.calls (a0 : Nat) (a1 : Nat) (r1 : Nat) (r2 : Nat) (w : World) (h : pair_quick.f a0 a1 = some (r1, r2)) :
  Calls Try.prog 45 #[.float .f64 a0,.float .f64 a1] w fun e w'=>e = .returned (.agg #[.float .f64 r1,.float .f64 r2]) ∧ Below w.heap.size w w':=by
 have hu57:=Try.underlying57
 have HB:=Aside0.mk (Below.refl w.heap.size w)
 have H : ((pair_step.f 48 a0 a1).bind fun t153=>((pair_step.f 65 t153 a0).bind fun t154=>((pair_step.f 65 a1 t154).bind fun t155=>(some (t153,t155))))) = some (r1,r2):=h
 clear h
 obtain ⟨t153,A3,H⟩:=ob_ H
 try dsimp only at H
 obtain ⟨t154,A4,H⟩:=ob_ H
 try dsimp only at H
 obtain ⟨t155,A5,H⟩:=ob_ H
 try dsimp only at H
 simp only [Option.some.injEq,Prod.mk.injEq] at H
 obtain ⟨rfl,rfl⟩:=H
 go_enter Try.func45,Try.ntmps45
 go_wp2_with (first|((with_reducible refine gate_dst (N:=4) rfl ?_);refine box_ev (N:=4) (cs:=#[.float .f64 0,.float .f64 0]) (t:=57) ?_;intro gb152 hg w6 hbox hb;have BK152:=Aside0.mk (hbox);have GW152:=ge_ HB hg;have GE152:=ge_ HB hg;replace HB:=bs_ HB hb;clear hb hbox hg)|((with_reducible refine gate_callee (f:=47) rfl ?_);refine goesM (some 9) Try.func47 #[.func (.func 48) #[] #[],.float .f64 a0,.float .f64 a1] ?_;(with_reducible refine (pair_step.calls 48 a0 a1 t153 _ A3.out).mono ?_);rintro e w' ⟨rfl,⟨nd,rfl⟩⟩;refine ⟨_,rfl,?_⟩;(try (rw [drewN_self w6];generalize hq_ : World.drewN w6 _ = w6;have n0_ : Aside0 (w6.heap[gb152]? = some (.cells #[.float .f64 0,.float .f64 0] 57 (0,0))):=⟨by rw [← hq_];exact (bk_ BK152)⟩;have n1_ : Aside0 (Below w.heap.size w w6):=⟨by rw [← hq_];exact (bl_ HB)⟩;clear BK152 HB hq_;have BK152:=n0_;have HB:=n1_;clear n0_ n1_)))|((with_reducible refine gate_callee (f:=47) rfl ?_);refine goesM (some 12) Try.func47 #[.func (.func 65) #[] #[],.float .f64 t153,.float .f64 a0] ?_;(with_reducible refine (pair_step.calls 65 t153 a0 t154 _ A4.out).mono ?_);rintro e w' ⟨rfl,⟨nd,rfl⟩⟩;refine ⟨_,rfl,?_⟩;(try (rw [drewN_self w6];generalize hq_ : World.drewN w6 _ = w6;have n0_ : Aside0 (w6.heap[gb152]? = some (.cells #[.float .f64 0,.float .f64 0] 57 (0,0))):=⟨by rw [← hq_];exact (bk_ BK152)⟩;have n1_ : Aside0 (Below w.heap.size w w6):=⟨by rw [← hq_];exact (bl_ HB)⟩;clear BK152 HB hq_;have BK152:=n0_;have HB:=n1_;clear n0_ n1_)))|((with_reducible refine gate_callee (f:=47) rfl ?_);refine goesM (some 16) Try.func47 #[.func (.func 65) #[] #[],.float .f64 a1,.float .f64 t154] ?_;(with_reducible refine (pair_step.calls 65 a1 t154 t155 _ A5.out).mono ?_);rintro e w' ⟨rfl,⟨nd,rfl⟩⟩;refine ⟨_,rfl,?_⟩;(try (rw [drewN_self w6];generalize hq_ : World.drewN w6 _ = w6;have n0_ : Aside0 (w6.heap[gb152]? = some (.cells #[.float .f64 0,.float .f64 0] 57 (0,0))):=⟨by rw [← hq_];exact (bk_ BK152)⟩;have n1_ : Aside0 (Below w.heap.size w w6):=⟨by rw [← hq_];exact (bl_ HB)⟩;clear BK152 HB hq_;have BK152:=n0_;have HB:=n1_;clear n0_ n1_));have hcz7_0:=bc_ BK152 0;have hcz7_1:=bc_ BK152 1;have hfz7_0:=bz_ BK152 0;have hfz7_1:=bz_ BK152 1))
 refine bodyPost_ret (results_cell_row rfl _ _ gb152 57 #[.float .f64 t153,.float .f64 t155] (0,0) _ rfl (by (with_reducible repeat (first|apply bN|apply bD|apply bA));refine blk_put (cs:=#[.float .f64 t153,.float .f64 0]) ?_ 1 _ rfl;(with_reducible repeat (first|apply bN|apply bD|apply bA));refine blk_put (cs:=#[.float .f64 0,.float .f64 0]) ?_ 0 _ rfl;exact bk_ BK152) Try.underlying57 rfl (by kernel_rfl)) rfl ?_
 exact ⟨rf_,bl_ HB⟩

def pair_Quick.f (a0 : Nat) (a1 : Nat) : Option (Nat × Nat) := (pair_quick.f a0 a1).bind fun bt157 => ((pair_two_told.f bt157.1 bt157.2).bind fun bt159 => (some (bt159.1, bt159.2)))
set_option maxHeartbeats 3000000 in
set_option maxRecDepth 100000 in
theorem pair_Quick.calls (a0 : Nat) (a1 : Nat) (r1 : Nat) (r2 : Nat) (w : World) (h : pair_Quick.f a0 a1 = some (r1, r2)) :
  Calls Try.prog 18 #[.float .f64 a0,.float .f64 a1] w fun e w'=>e = .returned (.agg #[.float .f64 r1,.float .f64 r2]) ∧ Below w.heap.size w w':=by
 have hu30:=Try.underlying30
 have HB:=Aside0.mk (Below.refl w.heap.size w)
 have H : ((pair_quick.f a0 a1).bind fun bt157=>((pair_two_told.f bt157.1 bt157.2).bind fun bt159=>(some (bt159.1,bt159.2)))) = some (r1,r2):=h
 clear h
 obtain ⟨⟨t157,t158⟩,A3,H⟩:=ob_ H
 try dsimp only at H
 obtain ⟨⟨t159,t160⟩,A4,H⟩:=ob_ H
 try dsimp only at H
 simp only [Option.some.injEq,Prod.mk.injEq] at H
 obtain ⟨rfl,rfl⟩:=H
 go_enter Try.func18,Try.ntmps18
 go_wp2_with (first|((with_reducible refine gate_dst (N:=4) rfl ?_);refine box_ev (N:=4) (cs:=#[.float .f64 0,.float .f64 0]) (t:=30) ?_;intro gb156 hg w5 hbox hb;have BK156:=Aside0.mk (hbox);have GW156:=ge_ HB hg;have GE156:=ge_ HB hg;replace HB:=bs_ HB hb;clear hb hbox hg)|((with_reducible refine gate_callee (f:=45) rfl ?_);refine goesM (some 7) Try.func45 #[.float .f64 a0,.float .f64 a1] ?_;(with_reducible refine (pair_quick.calls a0 a1 t157 t158 _ A3.out).mono ?_);rintro e w6 ⟨rfl,hb⟩;refine ⟨_,rfl,?_⟩;replace BK156:=kb_ BK156 hb;replace HB:=bs_ HB hb;(try clear hb);(try clear hb2);(try clear hk);(try clear hi))|((with_reducible refine gate_callee (f:=40) rfl ?_);refine goesM (some 8) Try.func40 #[.agg #[.float .f64 t157,.float .f64 t158]] ?_;(with_reducible refine (pair_two_told.calls t157 t158 t159 t160 _ A4.out).mono ?_);rintro e w7 ⟨rfl,hb⟩;refine ⟨_,rfl,?_⟩;replace BK156:=kb_ BK156 hb;replace HB:=bs_ HB hb;(try clear hb);(try clear hb2);(try clear hk);(try clear hi);have hcz8_0:=bc_ BK156 0;have hcz8_1:=bc_ BK156 1;have hfz8_0:=bz_ BK156 0;have hfz8_1:=bz_ BK156 1))
 refine bodyPost_ret (results_cell_row rfl _ _ gb156 30 #[.float .f64 t159,.float .f64 t160] (0,0) _ rfl (by (with_reducible repeat (first|apply bN|apply bD|apply bA));refine blk_put (cs:=#[.float .f64 t159,.float .f64 0]) ?_ 1 _ rfl;(with_reducible repeat (first|apply bN|apply bD|apply bA));refine blk_put (cs:=#[.float .f64 0,.float .f64 0]) ?_ 0 _ rfl;exact bk_ BK156) Try.underlying30 rfl (by kernel_rfl)) rfl ?_
 exact ⟨rf_,bl_ HB⟩

def pair_num_plus.f (a0 : Nat) (a1 : Nat) : Option (Nat) := if (FloatKind.f64.format.add a0 a1).isSome = true then (some ((FloatKind.f64.format.add a0 a1).getD 0)) else (none)
set_option maxHeartbeats 3000000 in
set_option maxRecDepth 100000 in
theorem pair_num_plus.calls (a0 : Nat) (a1 : Nat) (r : Nat) (w : World) (h : pair_num_plus.f a0 a1 = some r) :
  Calls Try.prog 48 #[.float .f64 a0,.float .f64 a1] w fun e w'=>e = .returned (.float .f64 r) ∧ Drawn0 w w':=by
 have H : (if (FloatKind.f64.format.add a0 a1).isSome = true then (some ((FloatKind.f64.format.add a0 a1).getD 0)) else (none)) = some r:=h
 clear h
 by_cases c3 : (FloatKind.f64.format.add a0 a1).isSome = true
 ·rw [if_pos c3] at H
  have c3b0 : (FloatKind.f64.format.add a0 a1).isSome = true:=c3
  clear c3
  obtain rfl:=Option.some.inj H
  go_enter Try.func48,Try.ntmps48
  go_wp2
  go_ret
  exact ⟨by first|rfl|(simp;done)|(simp [*];done),by repeat (first|exact Drawn0.refl _|apply Drawn0.step)⟩
 ·rw [if_neg c3] at H
  exact absurd H (by simp)

end Go.Proofs.Ytdemanikmaafeaa.Pr
-- written by this session's own program (wip/fprint.py), which widens the kit's print by floats
namespace Go.Proofs.Ytdemanikmaafeaa.Pr
open Go.RowKit Go.Proofs.YtdemanikmaafeaaW.PrintWords Go.Proofs.YtdemanikmaafeaaW.PrintLast Go.Proofs.YtdemanikmaafeaaW.PrintMore
attribute [local go_sem] max2_int min2_int max_two min_two max_three min_three max_four min_four   -- for this text's walks alone
set_option linter.unusedVariables false
set_option linter.unusedSimpArgs false

def pair_Add.f (a0_0 : Nat) (a0_1 : Nat) (a1_0 : Nat) (a1_1 : Nat) : Option (Nat × Nat) := (pair_sum.f a0_0 a1_0).bind fun bt164 => ((pair_sum.f a0_1 a1_1).bind fun bt167 => ((pair_step.f 48 bt164.2 bt167.1).bind fun t170 => ((pair_quick.f bt164.1 t170).bind fun bt171 => ((pair_step.f 48 bt167.2 bt171.2).bind fun t174 => ((pair_quick.f bt171.1 t174).bind fun bt175 => ((pair_two_told.f bt175.1 bt175.2).bind fun bt177 => (some (bt177.1, bt177.2))))))))
def pair_Add.T3 : Bool × List (List Nat × List Nat) := (true, [([], []), ([0], [0]), ([], []), ([2], [2]), ([], []), ([4], [4]), ([3, 5], [3, 5]), ([1, 6, 6], [1, 6]), ([], []), ([8, 7, 7, 0, 1, 2, 3, 4, 5, 6, 7, 8], [7, 8])])
def pair_Add.B3 : List Nat := [0, 1, 0, 4, 0, 16, 60, 127, 0, 511]
theorem pair_Add.tab3 : rtab .any (opsOf Try.f22 3) = pair_Add.T3 := by kernel_rfl
theorem pair_Add.bits3 : waitsOk pair_Add.T3.2 pair_Add.B3 = true := by kernel_rfl
def pair_Add.T4 : Bool × List (List Nat × List Nat) := (true, [([], []), ([0], [0]), ([], []), ([2], [2]), ([], []), ([4], [4]), ([3, 5], [3, 5]), ([1, 6, 6], [1, 6]), ([7, 7], [7]), ([8, 8, 0, 1, 2, 3, 4, 5, 6, 7, 8], [8])])
def pair_Add.B4 : List Nat := [0, 1, 0, 4, 0, 16, 60, 127, 255, 511]
theorem pair_Add.tab4 : rtab .any (opsOf Try.f22 4) = pair_Add.T4 := by kernel_rfl
theorem pair_Add.bits4 : waitsOk pair_Add.T4.2 pair_Add.B4 = true := by kernel_rfl
set_option maxHeartbeats 3000000 in
set_option maxRecDepth 100000 in
theorem pair_Add.calls (a0_0 : Nat) (a0_1 : Nat) (a1_0 : Nat) (a1_1 : Nat) (r1 : Nat) (r2 : Nat) (w : World) (h : pair_Add.f a0_0 a0_1 a1_0 a1_1 = some (r1, r2)) :
  Calls Try.prog 22 #[.agg #[.float .f64 a0_0,.float .f64 a0_1],.agg #[.float .f64 a1_0,.float .f64 a1_1]] w fun e w'=>e = .returned (.agg #[.float .f64 r1,.float .f64 r2]) ∧ Below w.heap.size w w':=by
 have hu30:=Try.underlying30
 have hu57:=Try.underlying57
 have HB:=Aside0.mk (Below.refl w.heap.size w)
 have H : ((pair_sum.f a0_0 a1_0).bind fun bt164=>((pair_sum.f a0_1 a1_1).bind fun bt167=>((pair_step.f 48 bt164.2 bt167.1).bind fun t170=>((pair_quick.f bt164.1 t170).bind fun bt171=>((pair_step.f 48 bt167.2 bt171.2).bind fun t174=>((pair_quick.f bt171.1 t174).bind fun bt175=>((pair_two_told.f bt175.1 bt175.2).bind fun bt177=>(some (bt177.1,bt177.2))))))))) = some (r1,r2):=h
 clear h
 obtain ⟨⟨t164,t165⟩,A3,H⟩:=ob_ H
 try dsimp only at H
 obtain ⟨⟨t167,t168⟩,A4,H⟩:=ob_ H
 try dsimp only at H
 obtain ⟨t170,A5,H⟩:=ob_ H
 try dsimp only at H
 obtain ⟨⟨t171,t172⟩,A6,H⟩:=ob_ H
 try dsimp only at H
 obtain ⟨t174,A7,H⟩:=ob_ H
 try dsimp only at H
 obtain ⟨⟨t175,t176⟩,A8,H⟩:=ob_ H
 try dsimp only at H
 obtain ⟨⟨t177,t178⟩,A9,H⟩:=ob_ H
 try dsimp only at H
 simp only [Option.some.injEq,Prod.mk.injEq] at H
 obtain ⟨rfl,rfl⟩:=H
 go_enter Try.func22,Try.ntmps22
 try go_wp2_with (first|((with_reducible refine gate_dst (N:=2) rfl ?_);refine box_ev (N:=2) (cs:=#[.float .f64 a0_0,.float .f64 a0_1]) (t:=30) ?_;intro gb161 hg w10 hbox hb;have BK161:=Aside0.mk (hbox);have GW161:=ge_ HB hg;have GE161:=ge_ HB hg;replace HB:=bs_ HB hb;clear hb hbox hg)|((with_reducible refine gate_dst (N:=3) rfl ?_);refine box_ev (N:=3) (cs:=#[.float .f64 a1_0,.float .f64 a1_1]) (t:=30) ?_;intro gb162 hg w11 hbox hb;have BK162:=Aside0.mk (hbox);have GW162:=ge_ HB hg;have GE162:=ge_ HB hg;replace HB:=bs_ HB hb;have NB161_162:=nlt_ BK161 hg;have NB162_161:=ngt_ BK161 hg;replace BK161:=kb_ BK161 hb;clear hb hbox hg)|((with_reducible refine gate_dst (N:=4) rfl ?_);refine box_ev (N:=4) (cs:=#[.float .f64 0,.float .f64 0]) (t:=30) ?_;intro gb163 hg w12 hbox hb;have BK163:=Aside0.mk (hbox);have GW163:=ge_ HB hg;have GE163:=ge_ HB hg;replace HB:=bs_ HB hb;have NB161_163:=nlt_ BK161 hg;have NB163_161:=ngt_ BK161 hg;replace BK161:=kb_ BK161 hb;have NB162_163:=nlt_ BK162 hg;have NB163_162:=ngt_ BK162 hg;replace BK162:=kb_ BK162 hb;clear hb hbox hg;have hnb13:=NB161_162.out;have hnc13:=NB162_161.out;have hnb14:=NB161_163.out;have hnc14:=NB163_161.out;have hcz15_0:=bc_ BK161 0;have hcz15_1:=bc_ BK161 1;have hfz15_0:=bz_ BK161 0;have hfz15_1:=bz_ BK161 1;have hnb16:=NB162_163.out;have hnc16:=NB163_162.out;have hcz17_0:=bc_ BK162 0;have hcz17_1:=bc_ BK162 1;have hfz17_0:=bz_ BK162 0;have hfz17_1:=bz_ BK162 1)|((with_reducible refine gate_callee (f:=39) rfl ?_);refine goesM (some 12) Try.func39 #[.float .f64 a0_0,.float .f64 a1_0] ?_;(with_reducible refine (pair_sum.calls a0_0 a1_0 t164 t165 _ A3.out).mono ?_);rintro e w18 ⟨rfl,hb⟩;refine ⟨_,rfl,?_⟩;replace BK161:=kb_ BK161 hb;replace BK162:=kb_ BK162 hb;replace BK163:=kb_ BK163 hb;replace HB:=bs_ HB hb;(try clear hb);(try clear hb2);(try clear hk);(try clear hi))|((with_reducible refine gate_dst (N:=5) rfl ?_);refine box_ev (N:=5) (cs:=#[.float .f64 0,.float .f64 0]) (t:=57) ?_;intro gb166 hg w19 hbox hb;have BK166:=Aside0.mk (hbox);have GW166:=ge_ HB hg;have GE166:=ge_ HB hg;replace HB:=bs_ HB hb;have NB161_166:=nlt_ BK161 hg;have NB166_161:=ngt_ BK161 hg;replace BK161:=kb_ BK161 hb;have NB162_166:=nlt_ BK162 hg;have NB166_162:=ngt_ BK162 hg;replace BK162:=kb_ BK162 hb;have NB163_166:=nlt_ BK163 hg;have NB166_163:=ngt_ BK163 hg;replace BK163:=kb_ BK163 hb;clear hb hbox hg;have hnb20:=NB166_161.out;have hnc20:=NB161_166.out;have hnb21:=NB166_162.out;have hnc21:=NB162_166.out;have hnb22:=NB166_163.out;have hnc22:=NB163_166.out;have hcz23_0:=bc_ BK166 0;have hcz23_1:=bc_ BK166 1;have hfz23_0:=bz_ BK166 0;have hfz23_1:=bz_ BK166 1;have hcz24_0:=bc_ BK161 0;have hcz24_1:=bc_ BK161 1;have hfz24_0:=bz_ BK161 0;have hfz24_1:=bz_ BK161 1;have hcz25_0:=bc_ BK162 0;have hcz25_1:=bc_ BK162 1;have hfz25_0:=bz_ BK162 0;have hfz25_1:=bz_ BK162 1)|((with_reducible refine gate_callee (f:=39) rfl ?_);refine goesM (some 17) Try.func39 #[.float .f64 a0_1,.float .f64 a1_1] ?_;(with_reducible refine (pair_sum.calls a0_1 a1_1 t167 t168 _ A4.out).mono ?_);rintro e w26 ⟨rfl,hb⟩;refine ⟨_,rfl,?_⟩;replace BK161:=Aside0.mk (blk_below (g:=gb161) (o:=.cells #[.float .f64 a0_0,.float .f64 a0_1] 30 (0,0)) (by (with_reducible repeat (first|apply bN|apply bD|apply bA));refine blk_far ?_ NB161_166.out _;(with_reducible repeat (first|apply bN|apply bD|apply bA));refine blk_far ?_ NB161_166.out _;exact bk_ BK161) hb);replace BK162:=Aside0.mk (blk_below (g:=gb162) (o:=.cells #[.float .f64 a1_0,.float .f64 a1_1] 30 (0,0)) (by (with_reducible repeat (first|apply bN|apply bD|apply bA));refine blk_far ?_ NB162_166.out _;(with_reducible repeat (first|apply bN|apply bD|apply bA));refine blk_far ?_ NB162_166.out _;exact bk_ BK162) hb);replace BK163:=Aside0.mk (blk_below (g:=gb163) (o:=.cells #[.float .f64 0,.float .f64 0] 30 (0,0)) (by (with_reducible repeat (first|apply bN|apply bD|apply bA));refine blk_far ?_ NB163_166.out _;(with_reducible repeat (first|apply bN|apply bD|apply bA));refine blk_far ?_ NB163_166.out _;exact bk_ BK163) hb);replace BK166:=Aside0.mk (blk_below (g:=gb166) (o:=.cells #[.float .f64 t164,.float .f64 t165] 57 (0,0)) (by (with_reducible repeat (first|apply bN|apply bD|apply bA));refine blk_put (cs:=#[.float .f64 t164,.float .f64 0]) ?_ 1 _ rfl;(with_reducible repeat (first|apply bN|apply bD|apply bA));refine blk_put (cs:=#[.float .f64 0,.float .f64 0]) ?_ 0 _ rfl;exact bk_ BK166) hb);replace HB:=bs_ HB hb;(try clear hb);(try clear hb2);(try clear hk);(try clear hi))|((with_reducible refine gate_dst (N:=6) rfl ?_);refine box_ev (N:=6) (cs:=#[.float .f64 0,.float .f64 0]) (t:=57) ?_;intro gb169 hg w27 hbox hb;have BK169:=Aside0.mk (hbox);have GW169:=ge_ HB hg;have GE169:=ge_ HB hg;replace HB:=bs_ HB hb;have NB161_169:=nlt_ BK161 hg;have NB169_161:=ngt_ BK161 hg;replace BK161:=kb_ BK161 hb;have NB162_169:=nlt_ BK162 hg;have NB169_162:=ngt_ BK162 hg;replace BK162:=kb_ BK162 hb;have NB163_169:=nlt_ BK163 hg;have NB169_163:=ngt_ BK163 hg;replace BK163:=kb_ BK163 hb;have NB166_169:=nlt_ BK166 hg;have NB169_166:=ngt_ BK166 hg;replace BK166:=kb_ BK166 hb;clear hb hbox hg;have hnb28:=NB169_161.out;have hnc28:=NB161_169.out;have hnb29:=NB169_162.out;have hnc29:=NB162_169.out;have hnb30:=NB169_163.out;have hnc30:=NB163_169.out;have hnb31:=NB169_166.out;have hnc31:=NB166_169.out;have hcz32_0:=bc_ BK169 0;have hcz32_1:=bc_ BK169 1;have hfz32_0:=bz_ BK169 0;have hfz32_1:=bz_ BK169 1))
 have n0_ : Aside0 (((w27.setCell ⟨gb169,0,none⟩ (.float .f64 t167)).setCell ⟨gb169,1,none⟩ (.float .f64 t168)).heap[gb161]? = some (.cells #[.float .f64 a0_0,.float .f64 a0_1] 30 (0,0))):=⟨by (with_reducible repeat (first|apply bN|apply bD|apply bA));refine blk_far ?_ NB161_169.out _;(with_reducible repeat (first|apply bN|apply bD|apply bA));refine blk_far ?_ NB161_169.out _;exact bk_ BK161⟩
 have n1_ : Aside0 (((w27.setCell ⟨gb169,0,none⟩ (.float .f64 t167)).setCell ⟨gb169,1,none⟩ (.float .f64 t168)).heap[gb162]? = some (.cells #[.float .f64 a1_0,.float .f64 a1_1] 30 (0,0))):=⟨by (with_reducible repeat (first|apply bN|apply bD|apply bA));refine blk_far ?_ NB162_169.out _;(with_reducible repeat (first|apply bN|apply bD|apply bA));refine blk_far ?_ NB162_169.out _;exact bk_ BK162⟩
 have n2_ : Aside0 (((w27.setCell ⟨gb169,0,none⟩ (.float .f64 t167)).setCell ⟨gb169,1,none⟩ (.float .f64 t168)).heap[gb163]? = some (.cells #[.float .f64 0,.float .f64 0] 30 (0,0))):=⟨by (with_reducible repeat (first|apply bN|apply bD|apply bA));refine blk_far ?_ NB163_169.out _;(with_reducible repeat (first|apply bN|apply bD|apply bA));refine blk_far ?_ NB163_169.out _;exact bk_ BK163⟩
 have n3_ : Aside0 (((w27.setCell ⟨gb169,0,none⟩ (.float .f64 t167)).setCell ⟨gb169,1,none⟩ (.float .f64 t168)).heap[gb166]? = some (.cells #[.float .f64 t164,.float .f64 t165] 57 (0,0))):=⟨by (with_reducible repeat (first|apply bN|apply bD|apply bA));refine blk_far ?_ NB166_169.out _;(with_reducible repeat (first|apply bN|apply bD|apply bA));refine blk_far ?_ NB166_169.out _;exact bk_ BK166⟩
 have n4_ : Aside0 (((w27.setCell ⟨gb169,0,none⟩ (.float .f64 t167)).setCell ⟨gb169,1,none⟩ (.float .f64 t168)).heap[gb169]? = some (.cells #[.float .f64 t167,.float .f64 t168] 57 (0,0))):=⟨by (with_reducible repeat (first|apply bN|apply bD|apply bA));refine blk_put (cs:=#[.float .f64 t167,.float .f64 0]) ?_ 1 _ rfl;(with_reducible repeat (first|apply bN|apply bD|apply bA));refine blk_put (cs:=#[.float .f64 0,.float .f64 0]) ?_ 0 _ rfl;exact bk_ BK169⟩
 have n5_ : Aside0 (Below w.heap.size w ((w27.setCell ⟨gb169,0,none⟩ (.float .f64 t167)).setCell ⟨gb169,1,none⟩ (.float .f64 t168))):=⟨bl_ HB⟩
 (try clear BK161)
 (try clear BK162)
 (try clear BK163)
 (try clear BK166)
 (try clear BK169)
 (try clear HB)
 generalize ((w27.setCell ⟨gb169,0,none⟩ (.float .f64 t167)).setCell ⟨gb169,1,none⟩ (.float .f64 t168)) = w33 at n0_ n1_ n2_ n3_ n4_ n5_ ⊢
 have BK161:=n0_
 have BK162:=n1_
 have BK163:=n2_
 have BK166:=n3_
 have BK169:=n4_
 have HB:=n5_
 clear n0_ n1_ n2_ n3_ n4_ n5_
 have n0_:=Aside0.mk (blk_drew BK161.out)
 have n1_:=Aside0.mk (blk_drew BK162.out)
 have n2_:=Aside0.mk (blk_drew BK163.out)
 have n3_:=Aside0.mk (blk_drew BK166.out)
 have n4_:=Aside0.mk (blk_drew BK169.out)
 have n5_:=Aside0.mk (below_drew1 HB.out)
 clear BK161
 clear BK162
 clear BK163
 clear BK166
 clear BK169
 clear HB
 have BK161:=n0_
 have BK162:=n1_
 have BK163:=n2_
 have BK166:=n3_
 have BK169:=n4_
 have HB:=n5_
 clear n0_ n1_ n2_ n3_ n4_ n5_
 refine start_ (n:=10) (S:=fun w'=>w'.cell? ⟨gb166,0,none⟩ = some (.float .f64 t164) ∧ w'.cell? ⟨gb166,1,none⟩ = some (.float .f64 t165) ∧ w'.cell? ⟨gb169,0,none⟩ = some (.float .f64 t167) ∧ w'.cell? ⟨gb169,1,none⟩ = some (.float .f64 t168)) (ds:=[]) #[false,false,false,false,false,false,false,false,false,false] (by kernel_rfl) rfl rfl ⟨(bc_ BK166 0),(bc_ BK166 1),(bc_ BK169 0),(bc_ BK169 1)⟩ (fun hHeld=>?_);refine with_tabW pair_Add.tab3 pair_Add.bits3 (fun HT_ HW_=>?_)
 generalize w33.drew = w34 at BK161 BK162 BK163 BK166 BK169 HB hHeld ⊢
 refine pure_ (i:=0) (N:=some 18) (v:=?_) (a':=?_) #[true,false,false,false,false,false,false,false,false,false] rfl rfl (any_of HT_.out (by kernel_rfl)) (fun _ _ _ h=>h) (Or.inl ⟨by rfl,?_⟩) ?_ ?_
 rotate_left
 ·intro w'
  go_simp
  with_reducible rfl
 rotate_left
 ·exact nf_
 refine pure_ (i:=2) (N:=some 20) (v:=?_) (a':=?_) #[true,false,true,false,false,false,false,false,false,false] rfl rfl (any_of HT_.out (by kernel_rfl)) (fun _ _ _ h=>h) (Or.inl ⟨by rfl,?_⟩) ?_ ?_
 rotate_left
 ·intro w'
  go_simp
  with_reducible rfl
 rotate_left
 ·exact nf_
 refine pure_ (i:=4) (N:=some 22) (v:=?_) (a':=?_) #[true,false,true,false,true,false,false,false,false,false] rfl rfl (any_of HT_.out (by kernel_rfl)) (fun _ _ _ h=>h) (Or.inl ⟨by rfl,?_⟩) ?_ ?_
 rotate_left
 ·intro w'
  go_simp
  with_reducible rfl
 rotate_left
 ·exact nf_
 refine take_ (i:=1) (N:=some 19) (v:=?_) (a':=?_) #[true,true,true,false,true,false,false,false,false,false] rfl rfl (take_ofW HT_.out HW_.out (by kernel_rfl)) (fun _ _ _ h=>h) (Or.inl ⟨by rfl,?_⟩) hHeld ?_ ?_
 rotate_left
 ·rintro w' ⟨s0,s1,s2,s3⟩
  go_simp
  with_reducible rfl
 rotate_left
 ·exact nf_
 refine take_ (i:=3) (N:=some 21) (v:=?_) (a':=?_) #[true,true,true,true,true,false,false,false,false,false] rfl rfl (take_ofW HT_.out HW_.out (by kernel_rfl)) (fun _ _ _ h=>h) (Or.inl ⟨by rfl,?_⟩) hHeld ?_ ?_
 rotate_left
 ·rintro w' ⟨s0,s1,s2,s3⟩
  go_simp
  with_reducible rfl
 rotate_left
 ·exact nf_
 refine take_ (i:=5) (N:=some 23) (v:=?_) (a':=?_) #[true,true,true,true,true,true,false,false,false,false] rfl rfl (take_ofW HT_.out HW_.out (by kernel_rfl)) (fun _ _ _ h=>h) (Or.inl ⟨by rfl,?_⟩) hHeld ?_ ?_
 rotate_left
 ·rintro w' ⟨s0,s1,s2,s3⟩
  go_simp
  with_reducible rfl
 rotate_left
 ·exact nf_
 refine join_ (σ:=Nat) 1 #[true,true,true,true,true,true,true,true,true,false] (fun s_=>[(24,.float .f64 t170),(25,.agg #[.float .f64 t171,.float .f64 t172]),(7,.pointer (some ⟨s_,0,none⟩))]) (fun s_ w'=>(w'.cell? ⟨gb166,0,none⟩ = some (.float .f64 t164) ∧ w'.cell? ⟨gb166,1,none⟩ = some (.float .f64 t165) ∧ w'.cell? ⟨gb169,0,none⟩ = some (.float .f64 t167) ∧ w'.cell? ⟨gb169,1,none⟩ = some (.float .f64 t168)) ∧ (w'.heap[gb161]? = some (.cells #[.float .f64 a0_0,.float .f64 a0_1] 30 (0,0))) ∧ (w'.heap[gb162]? = some (.cells #[.float .f64 a1_0,.float .f64 a1_1] 30 (0,0))) ∧ (w'.heap[gb163]? = some (.cells #[.float .f64 0,.float .f64 0] 30 (0,0))) ∧ (w'.heap[gb166]? = some (.cells #[.float .f64 t164,.float .f64 t165] 57 (0,0))) ∧ (w'.heap[gb169]? = some (.cells #[.float .f64 t167,.float .f64 t168] 57 (0,0))) ∧ (w'.heap[s_]? = some (.cells #[.float .f64 0,.float .f64 0] 57 (0,0))) ∧ (w.heap.size ≤ s_) ∧ (w.heap.size ≤ s_) ∧ (gb161 ≠ s_) ∧ (s_ ≠ gb161) ∧ (gb162 ≠ s_) ∧ (s_ ≠ gb162) ∧ (gb163 ≠ s_) ∧ (s_ ≠ gb163) ∧ (gb166 ≠ s_) ∧ (s_ ≠ gb166) ∧ (gb169 ≠ s_) ∧ (s_ ≠ gb169) ∧ (Below w.heap.size w w')) ?_ ?_
 rotate_left
 ·intro hCont
  refine two_ (i:=6) (j:=8) (Ni:=some 24) (Nj:=some 7) #[true,true,true,true,true,true,true,false,false,false] #[true,true,true,true,true,true,false,false,true,false] rfl rfl rfl rfl (two_of HT_.out (by kernel_rfl)) (by decide) (by decide) (fun K hK=>?_) (fun K hK=>?_)
  ·skip
   refine goes_ Try.func47 (by kernel_rfl) rfl #[.func (.func 48) #[] #[],.float .f64 t165,.float .f64 t167] (by rfl) rfl rfl (by (try simp only [List.map_toArray,List.map_cons,List.map_nil]);first|done|rfl|(simp only [List.length_drop,List.length_take];rfl)) ?_
   with_reducible refine (pair_step.calls 48 t165 t167 t170 _ A5.out).mono ?_
   rintro e w' ⟨rfl,⟨nd,rfl⟩⟩
   refine ⟨_,rfl,?_⟩
   refine hK.out _ _ ⟨(bc_ BK166 0),(bc_ BK166 1),(bc_ BK169 0),(bc_ BK169 1)⟩ (fun hHeld=>?_)
   clear hK K
   refine norm_ (a':=?_) ?_ ?_
   rotate_left
   ·show Act.put _ (some 24) _ = _
    simp only [Act.put,List.setIfInBounds_toArray,List.set_cons_zero,List.set_cons_succ,i64_w,i32_w]
    rfl
   refine two_ (i:=7) (j:=8) (Ni:=some 25) (Nj:=some 7) #[true,true,true,true,true,true,true,true,false,false] #[true,true,true,true,true,true,true,false,true,false] rfl rfl rfl rfl (two_of HT_.out (by kernel_rfl)) (by decide) (by decide) (fun K hK=>?_) (fun K hK=>?_)
   ·skip
    refine goes_ Try.func45 (by kernel_rfl) rfl #[.float .f64 t164,.float .f64 t170] (by rfl) rfl rfl (by (try simp only [List.map_toArray,List.map_cons,List.map_nil]);first|done|rfl|(simp only [List.length_drop,List.length_take];rfl)) ?_
    with_reducible refine (pair_quick.calls t164 t170 t171 t172 _ A6.out).mono ?_
    rintro e w35 ⟨rfl,hb⟩
    refine ⟨_,rfl,?_⟩
    have n0_:=kb_ BK161 hb
    have n1_:=kb_ BK162 hb
    have n2_:=kb_ BK163 hb
    have n3_:=kb_ BK166 hb
    have n4_:=kb_ BK169 hb
    have n5_:=bs_ HB hb
    clear BK161
    clear BK162
    clear BK163
    clear BK166
    clear BK169
    clear HB
    have BK161:=n0_
    have BK162:=n1_
    have BK163:=n2_
    have BK166:=n3_
    have BK169:=n4_
    have HB:=n5_
    clear n0_ n1_ n2_ n3_ n4_ n5_
    (try clear hb)
    (try clear hb2)
    (try clear hk)
    (try clear hi)
    refine hK.out _ _ ⟨(bc_ BK166 0),(bc_ BK166 1),(bc_ BK169 0),(bc_ BK169 1)⟩ (fun hHeld=>?_)
    clear hK K
    refine norm_ (a':=?_) ?_ ?_
    rotate_left
    ·show Act.put _ (some 25) _ = _
     simp only [Act.put,List.setIfInBounds_toArray,List.set_cons_zero,List.set_cons_succ,i64_w,i32_w]
     rfl
    refine one_ (i:=8) (N:=some 7) #[true,true,true,true,true,true,true,true,true,false] rfl rfl (one_of HT_.out (by kernel_rfl)) (by decide) (fun K hK=>?_)
    refine box_step ?hg (N:=7) ?hd (cs:=#[.float .f64 0,.float .f64 0]) (t:=57) ?hr ?_;(case hd=>rfl);(case hg=>rfl);(case hr=>first|(go_simp;done)|(go_simp;rfl))
    intro gb173 hg w36 hbox hb
    have n0_:=kb_ BK161 hb
    have n1_:=kb_ BK162 hb
    have n2_:=kb_ BK163 hb
    have n3_:=kb_ BK166 hb
    have n4_:=kb_ BK169 hb
    have n5_:=bs_ HB hb
    have n6_:=Aside0.mk (hbox)
    have n7_:=ge_ HB hg
    have n8_:=ge_ HB hg
    have n9_:=nlt_ BK161 hg
    have n10_:=ngt_ BK161 hg
    have n11_:=nlt_ BK162 hg
    have n12_:=ngt_ BK162 hg
    have n13_:=nlt_ BK163 hg
    have n14_:=ngt_ BK163 hg
    have n15_:=nlt_ BK166 hg
    have n16_:=ngt_ BK166 hg
    have n17_:=nlt_ BK169 hg
    have n18_:=ngt_ BK169 hg
    clear BK161
    clear BK162
    clear BK163
    clear BK166
    clear BK169
    clear HB
    have BK161:=n0_
    have BK162:=n1_
    have BK163:=n2_
    have BK166:=n3_
    have BK169:=n4_
    have HB:=n5_
    have BK173:=n6_
    have GW173:=n7_
    have GE173:=n8_
    have NB161_173:=n9_
    have NB173_161:=n10_
    have NB162_173:=n11_
    have NB173_162:=n12_
    have NB163_173:=n13_
    have NB173_163:=n14_
    have NB166_173:=n15_
    have NB173_166:=n16_
    have NB169_173:=n17_
    have NB173_169:=n18_
    clear n0_ n1_ n2_ n3_ n4_ n5_ n6_ n7_ n8_ n9_ n10_ n11_ n12_ n13_ n14_ n15_ n16_ n17_ n18_
    clear hb hbox hg
    refine hK.out _ _ ⟨(bc_ BK166 0),(bc_ BK166 1),(bc_ BK169 0),(bc_ BK169 1)⟩ (fun hHeld=>?_)
    clear hK K
    refine norm_ (a':=?_) ?_ ?_
    rotate_left
    ·show Act.put _ (some 7) _ = _
     simp only [Act.put,List.setIfInBounds_toArray,List.set_cons_zero,List.set_cons_succ,i64_w,i32_w]
     rfl
    exact norm_ (by simp only [putAll,Act.put,List.setIfInBounds_toArray,List.set_cons_zero,List.set_cons_succ]) (hCont (gb173) _ ⟨hHeld,(bk_ BK161),(bk_ BK162),(bk_ BK163),(bk_ BK166),(bk_ BK169),(bk_ BK173),GW173.out,GE173.out,NB161_173.out,NB173_161.out,NB162_173.out,NB173_162.out,NB163_173.out,NB173_163.out,NB166_173.out,NB173_166.out,NB169_173.out,NB173_169.out,(bl_ HB)⟩)
   ·skip
    refine box_step ?hg (N:=7) ?hd (cs:=#[.float .f64 0,.float .f64 0]) (t:=57) ?hr ?_;(case hd=>rfl);(case hg=>rfl);(case hr=>first|(go_simp;done)|(go_simp;rfl))
    intro gb173 hg w35 hbox hb
    have n0_:=kb_ BK161 hb
    have n1_:=kb_ BK162 hb
    have n2_:=kb_ BK163 hb
    have n3_:=kb_ BK166 hb
    have n4_:=kb_ BK169 hb
    have n5_:=bs_ HB hb
    have n6_:=Aside0.mk (hbox)
    have n7_:=ge_ HB hg
    have n8_:=ge_ HB hg
    have n9_:=nlt_ BK161 hg
    have n10_:=ngt_ BK161 hg
    have n11_:=nlt_ BK162 hg
    have n12_:=ngt_ BK162 hg
    have n13_:=nlt_ BK163 hg
    have n14_:=ngt_ BK163 hg
    have n15_:=nlt_ BK166 hg
    have n16_:=ngt_ BK166 hg
    have n17_:=nlt_ BK169 hg
    have n18_:=ngt_ BK169 hg
    clear BK161
    clear BK162
    clear BK163
    clear BK166
    clear BK169
    clear HB
    have BK161:=n0_
    have BK162:=n1_
    have BK163:=n2_
    have BK166:=n3_
    have BK169:=n4_
    have HB:=n5_
    have BK173:=n6_
    have GW173:=n7_
    have GE173:=n8_
    have NB161_173:=n9_
    have NB173_161:=n10_
    have NB162_173:=n11_
    have NB173_162:=n12_
    have NB163_173:=n13_
    have NB173_163:=n14_
    have NB166_173:=n15_
    have NB173_166:=n16_
    have NB169_173:=n17_
    have NB173_169:=n18_
    clear n0_ n1_ n2_ n3_ n4_ n5_ n6_ n7_ n8_ n9_ n10_ n11_ n12_ n13_ n14_ n15_ n16_ n17_ n18_
    clear hb hbox hg
    refine hK.out _ _ ⟨(bc_ BK166 0),(bc_ BK166 1),(bc_ BK169 0),(bc_ BK169 1)⟩ (fun hHeld=>?_)
    clear hK K
    refine norm_ (a':=?_) ?_ ?_
    rotate_left
    ·show Act.put _ (some 7) _ = _
     simp only [Act.put,List.setIfInBounds_toArray,List.set_cons_zero,List.set_cons_succ,i64_w,i32_w]
     rfl
    refine one_ (i:=7) (N:=some 25) #[true,true,true,true,true,true,true,true,true,false] rfl rfl (one_of HT_.out (by kernel_rfl)) (by decide) (fun K hK=>?_)
    refine goes_ Try.func45 (by kernel_rfl) rfl #[.float .f64 t164,.float .f64 t170] (by rfl) rfl rfl (by (try simp only [List.map_toArray,List.map_cons,List.map_nil]);first|done|rfl|(simp only [List.length_drop,List.length_take];rfl)) ?_
    with_reducible refine (pair_quick.calls t164 t170 t171 t172 _ A6.out).mono ?_
    rintro e w36 ⟨rfl,hb⟩
    refine ⟨_,rfl,?_⟩
    have n0_:=kb_ BK161 hb
    have n1_:=kb_ BK162 hb
    have n2_:=kb_ BK163 hb
    have n3_:=kb_ BK166 hb
    have n4_:=kb_ BK169 hb
    have n5_:=kb_ BK173 hb
    have n6_:=bs_ HB hb
    clear BK161
    clear BK162
    clear BK163
    clear BK166
    clear BK169
    clear BK173
    clear HB
    have BK161:=n0_
    have BK162:=n1_
    have BK163:=n2_
    have BK166:=n3_
    have BK169:=n4_
    have BK173:=n5_
    have HB:=n6_
    clear n0_ n1_ n2_ n3_ n4_ n5_ n6_
    (try clear hb)
    (try clear hb2)
    (try clear hk)
    (try clear hi)
    refine hK.out _ _ ⟨(bc_ BK166 0),(bc_ BK166 1),(bc_ BK169 0),(bc_ BK169 1)⟩ (fun hHeld=>?_)
    clear hK K
    refine norm_ (a':=?_) ?_ ?_
    rotate_left
    ·show Act.put _ (some 25) _ = _
     simp only [Act.put,List.setIfInBounds_toArray,List.set_cons_zero,List.set_cons_succ,i64_w,i32_w]
     rfl
    exact norm_ (by simp only [putAll,Act.put,List.setIfInBounds_toArray,List.set_cons_zero,List.set_cons_succ]) (hCont (gb173) _ ⟨hHeld,(bk_ BK161),(bk_ BK162),(bk_ BK163),(bk_ BK166),(bk_ BK169),(bk_ BK173),GW173.out,GE173.out,NB161_173.out,NB173_161.out,NB162_173.out,NB173_162.out,NB163_173.out,NB173_163.out,NB166_173.out,NB173_166.out,NB169_173.out,NB173_169.out,(bl_ HB)⟩)
  ·skip
   refine box_step ?hg (N:=7) ?hd (cs:=#[.float .f64 0,.float .f64 0]) (t:=57) ?hr ?_;(case hd=>rfl);(case hg=>rfl);(case hr=>first|(go_simp;done)|(go_simp;rfl))
   intro gb173 hg w35 hbox hb
   have n0_:=kb_ BK161 hb
   have n1_:=kb_ BK162 hb
   have n2_:=kb_ BK163 hb
   have n3_:=kb_ BK166 hb
   have n4_:=kb_ BK169 hb
   have n5_:=bs_ HB hb
   have n6_:=Aside0.mk (hbox)
   have n7_:=ge_ HB hg
   have n8_:=ge_ HB hg
   have n9_:=nlt_ BK161 hg
   have n10_:=ngt_ BK161 hg
   have n11_:=nlt_ BK162 hg
   have n12_:=ngt_ BK162 hg
   have n13_:=nlt_ BK163 hg
   have n14_:=ngt_ BK163 hg
   have n15_:=nlt_ BK166 hg
   have n16_:=ngt_ BK166 hg
   have n17_:=nlt_ BK169 hg
   have n18_:=ngt_ BK169 hg
   clear BK161
   clear BK162
   clear BK163
   clear BK166
   clear BK169
   clear HB
   have BK161:=n0_
   have BK162:=n1_
   have BK163:=n2_
   have BK166:=n3_
   have BK169:=n4_
   have HB:=n5_
   have BK173:=n6_
   have GW173:=n7_
   have GE173:=n8_
   have NB161_173:=n9_
   have NB173_161:=n10_
   have NB162_173:=n11_
   have NB173_162:=n12_
   have NB163_173:=n13_
   have NB173_163:=n14_
   have NB166_173:=n15_
   have NB173_166:=n16_
   have NB169_173:=n17_
   have NB173_169:=n18_
   clear n0_ n1_ n2_ n3_ n4_ n5_ n6_ n7_ n8_ n9_ n10_ n11_ n12_ n13_ n14_ n15_ n16_ n17_ n18_
   clear hb hbox hg
   refine hK.out _ _ ⟨(bc_ BK166 0),(bc_ BK166 1),(bc_ BK169 0),(bc_ BK169 1)⟩ (fun hHeld=>?_)
   clear hK K
   refine norm_ (a':=?_) ?_ ?_
   rotate_left
   ·show Act.put _ (some 7) _ = _
    simp only [Act.put,List.setIfInBounds_toArray,List.set_cons_zero,List.set_cons_succ,i64_w,i32_w]
    rfl
   refine one_ (i:=6) (N:=some 24) #[true,true,true,true,true,true,true,false,true,false] rfl rfl (one_of HT_.out (by kernel_rfl)) (by decide) (fun K hK=>?_)
   refine goes_ Try.func47 (by kernel_rfl) rfl #[.func (.func 48) #[] #[],.float .f64 t165,.float .f64 t167] (by rfl) rfl rfl (by (try simp only [List.map_toArray,List.map_cons,List.map_nil]);first|done|rfl|(simp only [List.length_drop,List.length_take];rfl)) ?_
   with_reducible refine (pair_step.calls 48 t165 t167 t170 _ A5.out).mono ?_
   rintro e w' ⟨rfl,⟨nd,rfl⟩⟩
   refine ⟨_,rfl,?_⟩
   refine hK.out _ _ ⟨(bc_ BK166 0),(bc_ BK166 1),(bc_ BK169 0),(bc_ BK169 1)⟩ (fun hHeld=>?_)
   clear hK K
   refine norm_ (a':=?_) ?_ ?_
   rotate_left
   ·show Act.put _ (some 24) _ = _
    simp only [Act.put,List.setIfInBounds_toArray,List.set_cons_zero,List.set_cons_succ,i64_w,i32_w]
    rfl
   refine one_ (i:=7) (N:=some 25) #[true,true,true,true,true,true,true,true,true,false] rfl rfl (one_of HT_.out (by kernel_rfl)) (by decide) (fun K hK=>?_)
   refine goes_ Try.func45 (by kernel_rfl) rfl #[.float .f64 t164,.float .f64 t170] (by rfl) rfl rfl (by (try simp only [List.map_toArray,List.map_cons,List.map_nil]);first|done|rfl|(simp only [List.length_drop,List.length_take];rfl)) ?_
   with_reducible refine (pair_quick.calls t164 t170 t171 t172 _ A6.out).mono ?_
   rintro e w36 ⟨rfl,hb⟩
   refine ⟨_,rfl,?_⟩
   have n0_:=kb_ BK161 hb
   have n1_:=kb_ BK162 hb
   have n2_:=kb_ BK163 hb
   have n3_:=kb_ BK166 hb
   have n4_:=kb_ BK169 hb
   have n5_:=kb_ BK173 hb
   have n6_:=bs_ HB hb
   clear BK161
   clear BK162
   clear BK163
   clear BK166
   clear BK169
   clear BK173
   clear HB
   have BK161:=n0_
   have BK162:=n1_
   have BK163:=n2_
   have BK166:=n3_
   have BK169:=n4_
   have BK173:=n5_
   have HB:=n6_
   clear n0_ n1_ n2_ n3_ n4_ n5_ n6_
   (try clear hb)
   (try clear hb2)
   (try clear hk)
   (try clear hi)
   refine hK.out _ _ ⟨(bc_ BK166 0),(bc_ BK166 1),(bc_ BK169 0),(bc_ BK169 1)⟩ (fun hHeld=>?_)
   clear hK K
   refine norm_ (a':=?_) ?_ ?_
   rotate_left
   ·show Act.put _ (some 25) _ = _
    simp only [Act.put,List.setIfInBounds_toArray,List.set_cons_zero,List.set_cons_succ,i64_w,i32_w]
    rfl
   exact norm_ (by simp only [putAll,Act.put,List.setIfInBounds_toArray,List.set_cons_zero,List.set_cons_succ]) (hCont (gb173) _ ⟨hHeld,(bk_ BK161),(bk_ BK162),(bk_ BK163),(bk_ BK166),(bk_ BK169),(bk_ BK173),GW173.out,GE173.out,NB161_173.out,NB173_161.out,NB162_173.out,NB173_162.out,NB163_173.out,NB173_163.out,NB166_173.out,NB173_166.out,NB169_173.out,NB173_169.out,(bl_ HB)⟩)
 rintro gb173 w37 ⟨hS_,h0_,h1_,h2_,h3_,h4_,h5_,h6_,h7_,h8_,h9_,h10_,h11_,h12_,h13_,h14_,h15_,h16_,h17_,h18_⟩
 have n0_ : Aside0 (w37.heap[gb161]? = some (.cells #[.float .f64 a0_0,.float .f64 a0_1] 30 (0,0))):=⟨h0_⟩
 have n1_ : Aside0 (w37.heap[gb162]? = some (.cells #[.float .f64 a1_0,.float .f64 a1_1] 30 (0,0))):=⟨h1_⟩
 have n2_ : Aside0 (w37.heap[gb163]? = some (.cells #[.float .f64 0,.float .f64 0] 30 (0,0))):=⟨h2_⟩
 have n3_ : Aside0 (w37.heap[gb166]? = some (.cells #[.float .f64 t164,.float .f64 t165] 57 (0,0))):=⟨h3_⟩
 have n4_ : Aside0 (w37.heap[gb169]? = some (.cells #[.float .f64 t167,.float .f64 t168] 57 (0,0))):=⟨h4_⟩
 have n5_ : Aside0 (w37.heap[gb173]? = some (.cells #[.float .f64 0,.float .f64 0] 57 (0,0))):=⟨h5_⟩
 have n6_ : Aside0 (w.heap.size ≤ gb173):=⟨h6_⟩
 have n7_ : Aside0 (w.heap.size ≤ gb173):=⟨h7_⟩
 have n8_ : Aside0 (gb161 ≠ gb173):=⟨h8_⟩
 have n9_ : Aside0 (gb173 ≠ gb161):=⟨h9_⟩
 have n10_ : Aside0 (gb162 ≠ gb173):=⟨h10_⟩
 have n11_ : Aside0 (gb173 ≠ gb162):=⟨h11_⟩
 have n12_ : Aside0 (gb163 ≠ gb173):=⟨h12_⟩
 have n13_ : Aside0 (gb173 ≠ gb163):=⟨h13_⟩
 have n14_ : Aside0 (gb166 ≠ gb173):=⟨h14_⟩
 have n15_ : Aside0 (gb173 ≠ gb166):=⟨h15_⟩
 have n16_ : Aside0 (gb169 ≠ gb173):=⟨h16_⟩
 have n17_ : Aside0 (gb173 ≠ gb169):=⟨h17_⟩
 have n18_ : Aside0 (Below w.heap.size w w37):=⟨h18_⟩
 clear BK161
 clear BK162
 clear BK163
 clear BK166
 clear BK169
 clear HB
 clear h0_ h1_ h2_ h3_ h4_ h5_ h6_ h7_ h8_ h9_ h10_ h11_ h12_ h13_ h14_ h15_ h16_ h17_ h18_
 have BK161:=n0_
 have BK162:=n1_
 have BK163:=n2_
 have BK166:=n3_
 have BK169:=n4_
 have BK173:=n5_
 have GW173:=n6_
 have GE173:=n7_
 have NB161_173:=n8_
 have NB173_161:=n9_
 have NB162_173:=n10_
 have NB173_162:=n11_
 have NB163_173:=n12_
 have NB173_163:=n13_
 have NB166_173:=n14_
 have NB173_166:=n15_
 have NB169_173:=n16_
 have NB173_169:=n17_
 have HB:=n18_
 clear n0_ n1_ n2_ n3_ n4_ n5_ n6_ n7_ n8_ n9_ n10_ n11_ n12_ n13_ n14_ n15_ n16_ n17_ n18_
 have hHeld : w37.cell? ⟨gb166,0,none⟩ = some (.float .f64 t164) ∧ w37.cell? ⟨gb166,1,none⟩ = some (.float .f64 t165) ∧ w37.cell? ⟨gb169,0,none⟩ = some (.float .f64 t167) ∧ w37.cell? ⟨gb169,1,none⟩ = some (.float .f64 t168):=hS_
 refine norm_ (a':=?_) ?_ ?_
 rotate_left
 ·simp only [putAll,Act.put,List.setIfInBounds_toArray,List.set_cons_zero,List.set_cons_succ]
  rfl
 refine one_ (i:=9) (N:=none) #[true,true,true,true,true,true,true,true,true,true] rfl rfl (one_of HT_.out (by kernel_rfl)) (by decide) (fun K hK=>?_)
 have hs38 : w37.cell? ⟨gb173,0,none⟩ = some (.float .f64 0):=bc_ BK173 0
 have hfs38:=bz_ BK173 0
 have hns38_0:=NB161_173.out
 have hns38_1:=NB162_173.out
 have hns38_2:=NB163_173.out
 have hns38_3:=NB166_173.out
 have hns38_4:=NB169_173.out
 have hms38_0:=NB173_161.out
 have hms38_1:=NB173_162.out
 have hms38_2:=NB173_163.out
 have hms38_3:=NB173_166.out
 have hms38_4:=NB173_169.out
 have hs39 : w37.cell? ⟨gb173,1,none⟩ = some (.float .f64 0):=bc_ BK173 1
 have hfs39:=bz_ BK173 1
 have hns39_0:=NB161_173.out
 have hns39_1:=NB162_173.out
 have hns39_2:=NB163_173.out
 have hns39_3:=NB166_173.out
 have hns39_4:=NB169_173.out
 have hms39_0:=NB173_161.out
 have hms39_1:=NB173_162.out
 have hms39_2:=NB173_163.out
 have hms39_3:=NB173_166.out
 have hms39_4:=NB173_169.out
 refine skip_ (w1:=?_) (by rfl) rfl ?_ ?_
 rotate_left
 ·go_simp
  rfl
 refine hK.out _ _ ⟨((cell_far (p:=⟨gb173,_,none⟩) NB166_173.out _).trans (((cell_far (p:=⟨gb173,_,none⟩) NB166_173.out _).trans (hHeld.1)))),((cell_far (p:=⟨gb173,_,none⟩) NB166_173.out _).trans (((cell_far (p:=⟨gb173,_,none⟩) NB166_173.out _).trans (hHeld.2.1)))),((cell_far (p:=⟨gb173,_,none⟩) NB169_173.out _).trans (((cell_far (p:=⟨gb173,_,none⟩) NB169_173.out _).trans (hHeld.2.2.1)))),((cell_far (p:=⟨gb173,_,none⟩) NB169_173.out _).trans (((cell_far (p:=⟨gb173,_,none⟩) NB169_173.out _).trans (hHeld.2.2.2))))⟩ (fun hHeld=>?_)
 clear hK K
 refine done_ (done_of HT_.out (by kernel_rfl)) ?_
 try go_wp2
 have n0_ : Aside0 (((w37.setCell ⟨gb173,0,none⟩ (.float .f64 t171)).setCell ⟨gb173,1,none⟩ (.float .f64 t172)).heap[gb161]? = some (.cells #[.float .f64 a0_0,.float .f64 a0_1] 30 (0,0))):=⟨by (with_reducible repeat (first|apply bN|apply bD|apply bA));refine blk_far ?_ NB161_173.out _;(with_reducible repeat (first|apply bN|apply bD|apply bA));refine blk_far ?_ NB161_173.out _;exact bk_ BK161⟩
 have n1_ : Aside0 (((w37.setCell ⟨gb173,0,none⟩ (.float .f64 t171)).setCell ⟨gb173,1,none⟩ (.float .f64 t172)).heap[gb162]? = some (.cells #[.float .f64 a1_0,.float .f64 a1_1] 30 (0,0))):=⟨by (with_reducible repeat (first|apply bN|apply bD|apply bA));refine blk_far ?_ NB162_173.out _;(with_reducible repeat (first|apply bN|apply bD|apply bA));refine blk_far ?_ NB162_173.out _;exact bk_ BK162⟩
 have n2_ : Aside0 (((w37.setCell ⟨gb173,0,none⟩ (.float .f64 t171)).setCell ⟨gb173,1,none⟩ (.float .f64 t172)).heap[gb163]? = some (.cells #[.float .f64 0,.float .f64 0] 30 (0,0))):=⟨by (with_reducible repeat (first|apply bN|apply bD|apply bA));refine blk_far ?_ NB163_173.out _;(with_reducible repeat (first|apply bN|apply bD|apply bA));refine blk_far ?_ NB163_173.out _;exact bk_ BK163⟩
 have n3_ : Aside0 (((w37.setCell ⟨gb173,0,none⟩ (.float .f64 t171)).setCell ⟨gb173,1,none⟩ (.float .f64 t172)).heap[gb166]? = some (.cells #[.float .f64 t164,.float .f64 t165] 57 (0,0))):=⟨by (with_reducible repeat (first|apply bN|apply bD|apply bA));refine blk_far ?_ NB166_173.out _;(with_reducible repeat (first|apply bN|apply bD|apply bA));refine blk_far ?_ NB166_173.out _;exact bk_ BK166⟩
 have n4_ : Aside0 (((w37.setCell ⟨gb173,0,none⟩ (.float .f64 t171)).setCell ⟨gb173,1,none⟩ (.float .f64 t172)).heap[gb169]? = some (.cells #[.float .f64 t167,.float .f64 t168] 57 (0,0))):=⟨by (with_reducible repeat (first|apply bN|apply bD|apply bA));refine blk_far ?_ NB169_173.out _;(with_reducible repeat (first|apply bN|apply bD|apply bA));refine blk_far ?_ NB169_173.out _;exact bk_ BK169⟩
 have n5_ : Aside0 (((w37.setCell ⟨gb173,0,none⟩ (.float .f64 t171)).setCell ⟨gb173,1,none⟩ (.float .f64 t172)).heap[gb173]? = some (.cells #[.float .f64 t171,.float .f64 t172] 57 (0,0))):=⟨by (with_reducible repeat (first|apply bN|apply bD|apply bA));refine blk_put (cs:=#[.float .f64 t171,.float .f64 0]) ?_ 1 _ rfl;(with_reducible repeat (first|apply bN|apply bD|apply bA));refine blk_put (cs:=#[.float .f64 0,.float .f64 0]) ?_ 0 _ rfl;exact bk_ BK173⟩
 have n6_ : Aside0 (Below w.heap.size w ((w37.setCell ⟨gb173,0,none⟩ (.float .f64 t171)).setCell ⟨gb173,1,none⟩ (.float .f64 t172))):=⟨bl_ HB⟩
 (try clear BK161)
 (try clear BK162)
 (try clear BK163)
 (try clear BK166)
 (try clear BK169)
 (try clear BK173)
 (try clear HB)
 generalize ((w37.setCell ⟨gb173,0,none⟩ (.float .f64 t171)).setCell ⟨gb173,1,none⟩ (.float .f64 t172)) = w40 at n0_ n1_ n2_ n3_ n4_ n5_ n6_ ⊢
 have BK161:=n0_
 have BK162:=n1_
 have BK163:=n2_
 have BK166:=n3_
 have BK169:=n4_
 have BK173:=n5_
 have HB:=n6_
 clear n0_ n1_ n2_ n3_ n4_ n5_ n6_
 have n0_:=Aside0.mk (blk_drew BK161.out)
 have n1_:=Aside0.mk (blk_drew BK162.out)
 have n2_:=Aside0.mk (blk_drew BK163.out)
 have n3_:=Aside0.mk (blk_drew BK166.out)
 have n4_:=Aside0.mk (blk_drew BK169.out)
 have n5_:=Aside0.mk (blk_drew BK173.out)
 have n6_:=Aside0.mk (below_drew1 HB.out)
 clear BK161
 clear BK162
 clear BK163
 clear BK166
 clear BK169
 clear BK173
 clear HB
 have BK161:=n0_
 have BK162:=n1_
 have BK163:=n2_
 have BK166:=n3_
 have BK169:=n4_
 have BK173:=n5_
 have HB:=n6_
 clear n0_ n1_ n2_ n3_ n4_ n5_ n6_
 refine start_ (n:=10) (S:=fun w'=>w'.cell? ⟨gb173,0,none⟩ = some (.float .f64 t171) ∧ w'.cell? ⟨gb173,1,none⟩ = some (.float .f64 t172) ∧ w'.cell? ⟨gb169,0,none⟩ = some (.float .f64 t167) ∧ w'.cell? ⟨gb169,1,none⟩ = some (.float .f64 t168)) (ds:=[]) #[false,false,false,false,false,false,false,false,false,false] (by kernel_rfl) rfl rfl ⟨(bc_ BK173 0),(bc_ BK173 1),(bc_ BK169 0),(bc_ BK169 1)⟩ (fun hHeld=>?_);refine with_tabW pair_Add.tab4 pair_Add.bits4 (fun HT_ HW_=>?_)
 generalize w40.drew = w41 at BK161 BK162 BK163 BK166 BK169 BK173 HB hHeld ⊢
 refine pure_ (i:=0) (N:=some 26) (v:=?_) (a':=?_) #[true,false,false,false,false,false,false,false,false,false] rfl rfl (any_of HT_.out (by kernel_rfl)) (fun _ _ _ h=>h) (Or.inl ⟨by rfl,?_⟩) ?_ ?_
 rotate_left
 ·intro w'
  go_simp
  with_reducible rfl
 rotate_left
 ·exact nf_
 refine pure_ (i:=2) (N:=some 28) (v:=?_) (a':=?_) #[true,false,true,false,false,false,false,false,false,false] rfl rfl (any_of HT_.out (by kernel_rfl)) (fun _ _ _ h=>h) (Or.inl ⟨by rfl,?_⟩) ?_ ?_
 rotate_left
 ·intro w'
  go_simp
  with_reducible rfl
 rotate_left
 ·exact nf_
 refine pure_ (i:=4) (N:=some 30) (v:=?_) (a':=?_) #[true,false,true,false,true,false,false,false,false,false] rfl rfl (any_of HT_.out (by kernel_rfl)) (fun _ _ _ h=>h) (Or.inl ⟨by rfl,?_⟩) ?_ ?_
 rotate_left
 ·intro w'
  go_simp
  with_reducible rfl
 rotate_left
 ·exact nf_
 refine take_ (i:=1) (N:=some 27) (v:=?_) (a':=?_) #[true,true,true,false,true,false,false,false,false,false] rfl rfl (take_ofW HT_.out HW_.out (by kernel_rfl)) (fun _ _ _ h=>h) (Or.inl ⟨by rfl,?_⟩) hHeld ?_ ?_
 rotate_left
 ·rintro w' ⟨s0,s1,s2,s3⟩
  go_simp
  with_reducible rfl
 rotate_left
 ·exact nf_
 refine take_ (i:=3) (N:=some 29) (v:=?_) (a':=?_) #[true,true,true,true,true,false,false,false,false,false] rfl rfl (take_ofW HT_.out HW_.out (by kernel_rfl)) (fun _ _ _ h=>h) (Or.inl ⟨by rfl,?_⟩) hHeld ?_ ?_
 rotate_left
 ·rintro w' ⟨s0,s1,s2,s3⟩
  go_simp
  with_reducible rfl
 rotate_left
 ·exact nf_
 refine take_ (i:=5) (N:=some 31) (v:=?_) (a':=?_) #[true,true,true,true,true,true,false,false,false,false] rfl rfl (take_ofW HT_.out HW_.out (by kernel_rfl)) (fun _ _ _ h=>h) (Or.inl ⟨by rfl,?_⟩) hHeld ?_ ?_
 rotate_left
 ·rintro w' ⟨s0,s1,s2,s3⟩
  go_simp
  with_reducible rfl
 rotate_left
 ·exact nf_
 refine one_ (i:=6) (N:=some 32) #[true,true,true,true,true,true,true,false,false,false] rfl rfl (one_of HT_.out (by kernel_rfl)) (by decide) (fun K hK=>?_)
 refine goes_ Try.func47 (by kernel_rfl) rfl #[.func (.func 48) #[] #[],.float .f64 t168,.float .f64 t172] (by rfl) rfl rfl (by (try simp only [List.map_toArray,List.map_cons,List.map_nil]);first|done|rfl|(simp only [List.length_drop,List.length_take];rfl)) ?_
 with_reducible refine (pair_step.calls 48 t168 t172 t174 _ A7.out).mono ?_
 rintro e w' ⟨rfl,⟨nd,rfl⟩⟩
 refine ⟨_,rfl,?_⟩
 refine hK.out _ _ ⟨(bc_ BK173 0),(bc_ BK173 1),(bc_ BK169 0),(bc_ BK169 1)⟩ (fun hHeld=>?_)
 clear hK K
 refine norm_ (a':=?_) ?_ ?_
 rotate_left
 ·show Act.put _ (some 32) _ = _
  simp only [Act.put,List.setIfInBounds_toArray,List.set_cons_zero,List.set_cons_succ,i64_w,i32_w]
  rfl
 refine one_ (i:=7) (N:=some 33) #[true,true,true,true,true,true,true,true,false,false] rfl rfl (one_of HT_.out (by kernel_rfl)) (by decide) (fun K hK=>?_)
 refine goes_ Try.func45 (by kernel_rfl) rfl #[.float .f64 t171,.float .f64 t174] (by rfl) rfl rfl (by (try simp only [List.map_toArray,List.map_cons,List.map_nil]);first|done|rfl|(simp only [List.length_drop,List.length_take];rfl)) ?_
 with_reducible refine (pair_quick.calls t171 t174 t175 t176 _ A8.out).mono ?_
 rintro e w42 ⟨rfl,hb⟩
 refine ⟨_,rfl,?_⟩
 have n0_:=kb_ BK161 hb
 have n1_:=kb_ BK162 hb
 have n2_:=kb_ BK163 hb
 have n3_:=kb_ BK166 hb
 have n4_:=kb_ BK169 hb
 have n5_:=kb_ BK173 hb
 have n6_:=bs_ HB hb
 clear BK161
 clear BK162
 clear BK163
 clear BK166
 clear BK169
 clear BK173
 clear HB
 have BK161:=n0_
 have BK162:=n1_
 have BK163:=n2_
 have BK166:=n3_
 have BK169:=n4_
 have BK173:=n5_
 have HB:=n6_
 clear n0_ n1_ n2_ n3_ n4_ n5_ n6_
 (try clear hb)
 (try clear hb2)
 (try clear hk)
 (try clear hi)
 refine hK.out _ _ ⟨(bc_ BK173 0),(bc_ BK173 1),(bc_ BK169 0),(bc_ BK169 1)⟩ (fun hHeld=>?_)
 clear hK K
 refine norm_ (a':=?_) ?_ ?_
 rotate_left
 ·show Act.put _ (some 33) _ = _
  simp only [Act.put,List.setIfInBounds_toArray,List.set_cons_zero,List.set_cons_succ,i64_w,i32_w]
  rfl
 refine one_ (i:=8) (N:=some 34) #[true,true,true,true,true,true,true,true,true,false] rfl rfl (one_of HT_.out (by kernel_rfl)) (by decide) (fun K hK=>?_)
 refine goes_ Try.func40 (by kernel_rfl) rfl #[.agg #[.float .f64 t175,.float .f64 t176]] (by rfl) rfl rfl (by (try simp only [List.map_toArray,List.map_cons,List.map_nil]);first|done|rfl|(simp only [List.length_drop,List.length_take];rfl)) ?_
 with_reducible refine (pair_two_told.calls t175 t176 t177 t178 _ A9.out).mono ?_
 rintro e w43 ⟨rfl,hb⟩
 refine ⟨_,rfl,?_⟩
 have n0_:=kb_ BK161 hb
 have n1_:=kb_ BK162 hb
 have n2_:=kb_ BK163 hb
 have n3_:=kb_ BK166 hb
 have n4_:=kb_ BK169 hb
 have n5_:=kb_ BK173 hb
 have n6_:=bs_ HB hb
 clear BK161
 clear BK162
 clear BK163
 clear BK166
 clear BK169
 clear BK173
 clear HB
 have BK161:=n0_
 have BK162:=n1_
 have BK163:=n2_
 have BK166:=n3_
 have BK169:=n4_
 have BK173:=n5_
 have HB:=n6_
 clear n0_ n1_ n2_ n3_ n4_ n5_ n6_
 (try clear hb)
 (try clear hb2)
 (try clear hk)
 (try clear hi)
 refine hK.out _ _ ⟨(bc_ BK173 0),(bc_ BK173 1),(bc_ BK169 0),(bc_ BK169 1)⟩ (fun hHeld=>?_)
 clear hK K
 refine norm_ (a':=?_) ?_ ?_
 rotate_left
 ·show Act.put _ (some 34) _ = _
  simp only [Act.put,List.setIfInBounds_toArray,List.set_cons_zero,List.set_cons_succ,i64_w,i32_w]
  rfl
 refine one_ (i:=9) (N:=none) #[true,true,true,true,true,true,true,true,true,true] rfl rfl (one_of HT_.out (by kernel_rfl)) (by decide) (fun K hK=>?_)
 have hs44 : w43.cell? ⟨gb163,0,none⟩ = some (.float .f64 0):=bc_ BK163 0
 have hfs44:=bz_ BK163 0
 have hns44_0:=NB161_163.out
 have hns44_1:=NB162_163.out
 have hns44_3:=NB166_163.out
 have hns44_4:=NB169_163.out
 have hns44_5:=NB173_163.out
 have hms44_0:=NB163_161.out
 have hms44_1:=NB163_162.out
 have hms44_3:=NB163_166.out
 have hms44_4:=NB163_169.out
 have hms44_5:=NB163_173.out
 have hs45 : w43.cell? ⟨gb163,1,none⟩ = some (.float .f64 0):=bc_ BK163 1
 have hfs45:=bz_ BK163 1
 have hns45_0:=NB161_163.out
 have hns45_1:=NB162_163.out
 have hns45_3:=NB166_163.out
 have hns45_4:=NB169_163.out
 have hns45_5:=NB173_163.out
 have hms45_0:=NB163_161.out
 have hms45_1:=NB163_162.out
 have hms45_3:=NB163_166.out
 have hms45_4:=NB163_169.out
 have hms45_5:=NB163_173.out
 refine skip_ (w1:=?_) (by rfl) rfl ?_ ?_
 rotate_left
 ·go_simp
  rfl
 refine hK.out _ _ ⟨((cell_far (p:=⟨gb163,_,none⟩) NB173_163.out _).trans (((cell_far (p:=⟨gb163,_,none⟩) NB173_163.out _).trans (hHeld.1)))),((cell_far (p:=⟨gb163,_,none⟩) NB173_163.out _).trans (((cell_far (p:=⟨gb163,_,none⟩) NB173_163.out _).trans (hHeld.2.1)))),((cell_far (p:=⟨gb163,_,none⟩) NB169_163.out _).trans (((cell_far (p:=⟨gb163,_,none⟩) NB169_163.out _).trans (hHeld.2.2.1)))),((cell_far (p:=⟨gb163,_,none⟩) NB169_163.out _).trans (((cell_far (p:=⟨gb163,_,none⟩) NB169_163.out _).trans (hHeld.2.2.2))))⟩ (fun hHeld=>?_)
 clear hK K
 refine done_ (done_of HT_.out (by kernel_rfl)) ?_
 try go_wp2
 refine bodyPost_ret (results_cell_row rfl _ _ gb163 30 #[.float .f64 t177,.float .f64 t178] (0,0) _ rfl (by (with_reducible repeat (first|apply bN|apply bD|apply bA));refine blk_put (cs:=#[.float .f64 t177,.float .f64 0]) ?_ 1 _ rfl;(with_reducible repeat (first|apply bN|apply bD|apply bA));refine blk_put (cs:=#[.float .f64 0,.float .f64 0]) ?_ 0 _ rfl;exact bk_ BK163) Try.underlying30 rfl (by kernel_rfl)) rfl ?_
 exact ⟨rf_,bl_ HB⟩

end Go.Proofs.Ytdemanikmaafeaa.Pr
-- written by this session's own program (wip/fprint.py), which widens the kit's print by floats
namespace Go.Proofs.Ytdemanikmaafeaa.Pr
open Go.RowKit Go.Proofs.YtdemanikmaafeaaW.PrintWords Go.Proofs.YtdemanikmaafeaaW.PrintLast Go.Proofs.YtdemanikmaafeaaW.PrintMore
attribute [local go_sem] max2_int min2_int max_two min_two max_three min_three max_four min_four   -- for this text's walks alone
set_option linter.unusedVariables false
set_option linter.unusedSimpArgs false

def pair_Mul.f (a0_0 : Nat) (a0_1 : Nat) (a1_0 : Nat) (a1_1 : Nat) : Option (Nat × Nat) := (pair_product.f a0_0 a1_0).bind fun bt182 => ((pair_step.f 49 a0_0 a1_1).bind fun t185 => ((pair_step.f 49 a0_1 a1_0).bind fun t186 => ((pair_step.f 48 t185 t186).bind fun t187 => ((pair_step.f 48 bt182.2 t187).bind fun t188 => ((pair_quick.f bt182.1 t188).bind fun bt189 => ((pair_two_told.f bt189.1 bt189.2).bind fun bt191 => (some (bt191.1, bt191.2))))))))
def pair_Mul.T4 : Bool × List (List Nat × List Nat) := (true, [([], []), ([0], [0]), ([], []), ([2], [2]), ([], []), ([], []), ([4, 5], [4, 5]), ([3, 6, 6], [3, 6]), ([1, 7, 7], [1, 7]), ([8, 8], [8]), ([9, 9, 0, 1, 2, 3, 4, 5, 6, 7, 8, 9], [9])])
def pair_Mul.B4 : List Nat := [0, 1, 0, 4, 0, 0, 48, 124, 255, 511, 1023]
theorem pair_Mul.tab4 : rtab .any (opsOf Try.f24 4) = pair_Mul.T4 := by kernel_rfl
theorem pair_Mul.bits4 : waitsOk pair_Mul.T4.2 pair_Mul.B4 = true := by kernel_rfl
set_option maxHeartbeats 3000000 in
set_option maxRecDepth 100000 in
theorem pair_Mul.calls (a0_0 : Nat) (a0_1 : Nat) (a1_0 : Nat) (a1_1 : Nat) (r1 : Nat) (r2 : Nat) (w : World) (h : pair_Mul.f a0_0 a0_1 a1_0 a1_1 = some (r1, r2)) :
  Calls Try.prog 24 #[.agg #[.float .f64 a0_0,.float .f64 a0_1],.agg #[.float .f64 a1_0,.float .f64 a1_1]] w fun e w'=>e = .returned (.agg #[.float .f64 r1,.float .f64 r2]) ∧ Below w.heap.size w w':=by
 have hu30:=Try.underlying30
 have hu57:=Try.underlying57
 have HB:=Aside0.mk (Below.refl w.heap.size w)
 have H : ((pair_product.f a0_0 a1_0).bind fun bt182=>((pair_step.f 49 a0_0 a1_1).bind fun t185=>((pair_step.f 49 a0_1 a1_0).bind fun t186=>((pair_step.f 48 t185 t186).bind fun t187=>((pair_step.f 48 bt182.2 t187).bind fun t188=>((pair_quick.f bt182.1 t188).bind fun bt189=>((pair_two_told.f bt189.1 bt189.2).bind fun bt191=>(some (bt191.1,bt191.2))))))))) = some (r1,r2):=h
 clear h
 obtain ⟨⟨t182,t183⟩,A3,H⟩:=ob_ H
 try dsimp only at H
 obtain ⟨t185,A4,H⟩:=ob_ H
 try dsimp only at H
 obtain ⟨t186,A5,H⟩:=ob_ H
 try dsimp only at H
 obtain ⟨t187,A6,H⟩:=ob_ H
 try dsimp only at H
 obtain ⟨t188,A7,H⟩:=ob_ H
 try dsimp only at H
 obtain ⟨⟨t189,t190⟩,A8,H⟩:=ob_ H
 try dsimp only at H
 obtain ⟨⟨t191,t192⟩,A9,H⟩:=ob_ H
 try dsimp only at H
 simp only [Option.some.injEq,Prod.mk.injEq] at H
 obtain ⟨rfl,rfl⟩:=H
 go_enter Try.func24,Try.ntmps24
 try go_wp2_with (first|((with_reducible refine gate_dst (N:=2) rfl ?_);refine box_ev (N:=2) (cs:=#[.float .f64 a0_0,.float .f64 a0_1]) (t:=30) ?_;intro gb179 hg w10 hbox hb;have BK179:=Aside0.mk (hbox);have GW179:=ge_ HB hg;have GE179:=ge_ HB hg;replace HB:=bs_ HB hb;clear hb hbox hg)|((with_reducible refine gate_dst (N:=3) rfl ?_);refine box_ev (N:=3) (cs:=#[.float .f64 a1_0,.float .f64 a1_1]) (t:=30) ?_;intro gb180 hg w11 hbox hb;have BK180:=Aside0.mk (hbox);have GW180:=ge_ HB hg;have GE180:=ge_ HB hg;replace HB:=bs_ HB hb;have NB179_180:=nlt_ BK179 hg;have NB180_179:=ngt_ BK179 hg;replace BK179:=kb_ BK179 hb;clear hb hbox hg)|((with_reducible refine gate_dst (N:=4) rfl ?_);refine box_ev (N:=4) (cs:=#[.float .f64 0,.float .f64 0]) (t:=30) ?_;intro gb181 hg w12 hbox hb;have BK181:=Aside0.mk (hbox);have GW181:=ge_ HB hg;have GE181:=ge_ HB hg;replace HB:=bs_ HB hb;have NB179_181:=nlt_ BK179 hg;have NB181_179:=ngt_ BK179 hg;replace BK179:=kb_ BK179 hb;have NB180_181:=nlt_ BK180 hg;have NB181_180:=ngt_ BK180 hg;replace BK180:=kb_ BK180 hb;clear hb hbox hg;have hnb13:=NB179_180.out;have hnc13:=NB180_179.out;have hnb14:=NB179_181.out;have hnc14:=NB181_179.out;have hcz15_0:=bc_ BK179 0;have hcz15_1:=bc_ BK179 1;have hfz15_0:=bz_ BK179 0;have hfz15_1:=bz_ BK179 1;have hnb16:=NB180_181.out;have hnc16:=NB181_180.out;have hcz17_0:=bc_ BK180 0;have hcz17_1:=bc_ BK180 1;have hfz17_0:=bz_ BK180 0;have hfz17_1:=bz_ BK180 1)|((with_reducible refine gate_callee (f:=42) rfl ?_);refine goesM (some 12) Try.func42 #[.float .f64 a0_0,.float .f64 a1_0] ?_;(with_reducible refine (pair_product.calls a0_0 a1_0 t182 t183 _ A3.out).mono ?_);rintro e w18 ⟨rfl,hb⟩;refine ⟨_,rfl,?_⟩;replace BK179:=kb_ BK179 hb;replace BK180:=kb_ BK180 hb;replace BK181:=kb_ BK181 hb;replace HB:=bs_ HB hb;(try clear hb);(try clear hb2);(try clear hk);(try clear hi))|((with_reducible refine gate_dst (N:=5) rfl ?_);refine box_ev (N:=5) (cs:=#[.float .f64 0,.float .f64 0]) (t:=57) ?_;intro gb184 hg w19 hbox hb;have BK184:=Aside0.mk (hbox);have GW184:=ge_ HB hg;have GE184:=ge_ HB hg;replace HB:=bs_ HB hb;have NB179_184:=nlt_ BK179 hg;have NB184_179:=ngt_ BK179 hg;replace BK179:=kb_ BK179 hb;have NB180_184:=nlt_ BK180 hg;have NB184_180:=ngt_ BK180 hg;replace BK180:=kb_ BK180 hb;have NB181_184:=nlt_ BK181 hg;have NB184_181:=ngt_ BK181 hg;replace BK181:=kb_ BK181 hb;clear hb hbox hg;have hnb20:=NB184_179.out;have hnc20:=NB179_184.out;have hnb21:=NB184_180.out;have hnc21:=NB180_184.out;have hnb22:=NB184_181.out;have hnc22:=NB181_184.out;have hcz23_0:=bc_ BK184 0;have hcz23_1:=bc_ BK184 1;have hfz23_0:=bz_ BK184 0;have hfz23_1:=bz_ BK184 1;have hcz24_0:=bc_ BK179 0;have hcz24_1:=bc_ BK179 1;have hfz24_0:=bz_ BK179 0;have hfz24_1:=bz_ BK179 1;have hcz25_0:=bc_ BK180 0;have hcz25_1:=bc_ BK180 1;have hfz25_0:=bz_ BK180 0;have hfz25_1:=bz_ BK180 1)|((with_reducible refine gate_callee (f:=47) rfl ?_);refine goesM (some 17) Try.func47 #[.func (.func 49) #[] #[],.float .f64 a0_0,.float .f64 a1_1] ?_;(with_reducible refine (pair_step.calls 49 a0_0 a1_1 t185 _ A4.out).mono ?_);rintro e w' ⟨rfl,⟨nd,rfl⟩⟩;refine ⟨_,rfl,?_⟩)|((with_reducible refine gate_callee (f:=47) rfl ?_);refine goesM (some 22) Try.func47 #[.func (.func 49) #[] #[],.float .f64 a0_1,.float .f64 a1_0] ?_;(with_reducible refine (pair_step.calls 49 a0_1 a1_0 t186 _ A5.out).mono ?_);rintro e w' ⟨rfl,⟨nd,rfl⟩⟩;refine ⟨_,rfl,?_⟩))
 have n0_ : Aside0 (((w19.setCell ⟨gb184,0,none⟩ (.float .f64 t182)).setCell ⟨gb184,1,none⟩ (.float .f64 t183)).heap[gb179]? = some (.cells #[.float .f64 a0_0,.float .f64 a0_1] 30 (0,0))):=⟨by (with_reducible repeat (first|apply bN|apply bD|apply bA));refine blk_far ?_ NB179_184.out _;(with_reducible repeat (first|apply bN|apply bD|apply bA));refine blk_far ?_ NB179_184.out _;exact bk_ BK179⟩
 have n1_ : Aside0 (((w19.setCell ⟨gb184,0,none⟩ (.float .f64 t182)).setCell ⟨gb184,1,none⟩ (.float .f64 t183)).heap[gb180]? = some (.cells #[.float .f64 a1_0,.float .f64 a1_1] 30 (0,0))):=⟨by (with_reducible repeat (first|apply bN|apply bD|apply bA));refine blk_far ?_ NB180_184.out _;(with_reducible repeat (first|apply bN|apply bD|apply bA));refine blk_far ?_ NB180_184.out _;exact bk_ BK180⟩
 have n2_ : Aside0 (((w19.setCell ⟨gb184,0,none⟩ (.float .f64 t182)).setCell ⟨gb184,1,none⟩ (.float .f64 t183)).heap[gb181]? = some (.cells #[.float .f64 0,.float .f64 0] 30 (0,0))):=⟨by (with_reducible repeat (first|apply bN|apply bD|apply bA));refine blk_far ?_ NB181_184.out _;(with_reducible repeat (first|apply bN|apply bD|apply bA));refine blk_far ?_ NB181_184.out _;exact bk_ BK181⟩
 have n3_ : Aside0 (((w19.setCell ⟨gb184,0,none⟩ (.float .f64 t182)).setCell ⟨gb184,1,none⟩ (.float .f64 t183)).heap[gb184]? = some (.cells #[.float .f64 t182,.float .f64 t183] 57 (0,0))):=⟨by (with_reducible repeat (first|apply bN|apply bD|apply bA));refine blk_put (cs:=#[.float .f64 t182,.float .f64 0]) ?_ 1 _ rfl;(with_reducible repeat (first|apply bN|apply bD|apply bA));refine blk_put (cs:=#[.float .f64 0,.float .f64 0]) ?_ 0 _ rfl;exact bk_ BK184⟩
 have n4_ : Aside0 (Below w.heap.size w ((w19.setCell ⟨gb184,0,none⟩ (.float .f64 t182)).setCell ⟨gb184,1,none⟩ (.float .f64 t183))):=⟨bl_ HB⟩
 (try clear BK179)
 (try clear BK180)
 (try clear BK181)
 (try clear BK184)
 (try clear HB)
 generalize ((w19.setCell ⟨gb184,0,none⟩ (.float .f64 t182)).setCell ⟨gb184,1,none⟩ (.float .f64 t183)) = w26 at n0_ n1_ n2_ n3_ n4_ ⊢
 have BK179:=n0_
 have BK180:=n1_
 have BK181:=n2_
 have BK184:=n3_
 have HB:=n4_
 clear n0_ n1_ n2_ n3_ n4_
 (try (rw [drewN_self w26];generalize hq_ : World.drewN w26 _ = w26;have n0_ : Aside0 (w26.heap[gb179]? = some (.cells #[.float .f64 a0_0,.float .f64 a0_1] 30 (0,0))):=⟨by rw [← hq_];exact (bk_ BK179)⟩;have n1_ : Aside0 (w26.heap[gb180]? = some (.cells #[.float .f64 a1_0,.float .f64 a1_1] 30 (0,0))):=⟨by rw [← hq_];exact (bk_ BK180)⟩;have n2_ : Aside0 (w26.heap[gb181]? = some (.cells #[.float .f64 0,.float .f64 0] 30 (0,0))):=⟨by rw [← hq_];exact (bk_ BK181)⟩;have n3_ : Aside0 (w26.heap[gb184]? = some (.cells #[.float .f64 t182,.float .f64 t183] 57 (0,0))):=⟨by rw [← hq_];exact (bk_ BK184)⟩;have n4_ : Aside0 (Below w.heap.size w w26):=⟨by rw [← hq_];exact (bl_ HB)⟩;clear BK179 BK180 BK181 BK184 HB hq_;have BK179:=n0_;have BK180:=n1_;have BK181:=n2_;have BK184:=n3_;have HB:=n4_;clear n0_ n1_ n2_ n3_ n4_))
 have n0_:=Aside0.mk (blk_drew BK179.out)
 have n1_:=Aside0.mk (blk_drew BK180.out)
 have n2_:=Aside0.mk (blk_drew BK181.out)
 have n3_:=Aside0.mk (blk_drew BK184.out)
 have n4_:=Aside0.mk (below_drew1 HB.out)
 clear BK179
 clear BK180
 clear BK181
 clear BK184
 clear HB
 have BK179:=n0_
 have BK180:=n1_
 have BK181:=n2_
 have BK184:=n3_
 have HB:=n4_
 clear n0_ n1_ n2_ n3_ n4_
 refine start_ (n:=11) (S:=fun w'=>w'.cell? ⟨gb184,0,none⟩ = some (.float .f64 t182) ∧ w'.cell? ⟨gb184,1,none⟩ = some (.float .f64 t183)) (ds:=[]) #[false,false,false,false,false,false,false,false,false,false,false] (by kernel_rfl) rfl rfl ⟨(bc_ BK184 0),(bc_ BK184 1)⟩ (fun hHeld=>?_);refine with_tabW pair_Mul.tab4 pair_Mul.bits4 (fun HT_ HW_=>?_)
 generalize w26.drew = w27 at BK179 BK180 BK181 BK184 HB hHeld ⊢
 refine pure_ (i:=0) (N:=some 23) (v:=?_) (a':=?_) #[true,false,false,false,false,false,false,false,false,false,false] rfl rfl (any_of HT_.out (by kernel_rfl)) (fun _ _ _ h=>h) (Or.inl ⟨by rfl,?_⟩) ?_ ?_
 rotate_left
 ·intro w'
  go_simp
  with_reducible rfl
 rotate_left
 ·exact nf_
 refine pure_ (i:=2) (N:=some 25) (v:=?_) (a':=?_) #[true,false,true,false,false,false,false,false,false,false,false] rfl rfl (any_of HT_.out (by kernel_rfl)) (fun _ _ _ h=>h) (Or.inl ⟨by rfl,?_⟩) ?_ ?_
 rotate_left
 ·intro w'
  go_simp
  with_reducible rfl
 rotate_left
 ·exact nf_
 refine pure_ (i:=4) (N:=some 27) (v:=?_) (a':=?_) #[true,false,true,false,true,false,false,false,false,false,false] rfl rfl (any_of HT_.out (by kernel_rfl)) (fun _ _ _ h=>h) (Or.inl ⟨by rfl,?_⟩) ?_ ?_
 rotate_left
 ·intro w'
  go_simp
  with_reducible rfl
 rotate_left
 ·exact nf_
 refine pure_ (i:=5) (N:=some 28) (v:=?_) (a':=?_) #[true,false,true,false,true,true,false,false,false,false,false] rfl rfl (any_of HT_.out (by kernel_rfl)) (fun _ _ _ h=>h) (Or.inl ⟨by rfl,?_⟩) ?_ ?_
 rotate_left
 ·intro w'
  go_simp
  with_reducible rfl
 rotate_left
 ·exact nf_
 refine take_ (i:=1) (N:=some 24) (v:=?_) (a':=?_) #[true,true,true,false,true,true,false,false,false,false,false] rfl rfl (take_ofW HT_.out HW_.out (by kernel_rfl)) (fun _ _ _ h=>h) (Or.inl ⟨by rfl,?_⟩) hHeld ?_ ?_
 rotate_left
 ·rintro w' ⟨s0,s1⟩
  go_simp
  with_reducible rfl
 rotate_left
 ·exact nf_
 refine take_ (i:=3) (N:=some 26) (v:=?_) (a':=?_) #[true,true,true,true,true,true,false,false,false,false,false] rfl rfl (take_ofW HT_.out HW_.out (by kernel_rfl)) (fun _ _ _ h=>h) (Or.inl ⟨by rfl,?_⟩) hHeld ?_ ?_
 rotate_left
 ·rintro w' ⟨s0,s1⟩
  go_simp
  with_reducible rfl
 rotate_left
 ·exact nf_
 refine one_ (i:=6) (N:=some 29) #[true,true,true,true,true,true,true,false,false,false,false] rfl rfl (one_of HT_.out (by kernel_rfl)) (by decide) (fun K hK=>?_)
 refine goes_ Try.func47 (by kernel_rfl) rfl #[.func (.func 48) #[] #[],.float .f64 t185,.float .f64 t186] (by rfl) rfl rfl (by (try simp only [List.map_toArray,List.map_cons,List.map_nil]);first|done|rfl|(simp only [List.length_drop,List.length_take];rfl)) ?_
 with_reducible refine (pair_step.calls 48 t185 t186 t187 _ A6.out).mono ?_
 rintro e w' ⟨rfl,⟨nd,rfl⟩⟩
 refine ⟨_,rfl,?_⟩
 refine hK.out _ _ ⟨(bc_ BK184 0),(bc_ BK184 1)⟩ (fun hHeld=>?_)
 clear hK K
 refine norm_ (a':=?_) ?_ ?_
 rotate_left
 ·show Act.put _ (some 29) _ = _
  simp only [Act.put,List.setIfInBounds_toArray,List.set_cons_zero,List.set_cons_succ,i64_w,i32_w]
  rfl
 refine one_ (i:=7) (N:=some 30) #[true,true,true,true,true,true,true,true,false,false,false] rfl rfl (one_of HT_.out (by kernel_rfl)) (by decide) (fun K hK=>?_)
 refine goes_ Try.func47 (by kernel_rfl) rfl #[.func (.func 48) #[] #[],.float .f64 t183,.float .f64 t187] (by rfl) rfl rfl (by (try simp only [List.map_toArray,List.map_cons,List.map_nil]);first|done|rfl|(simp only [List.length_drop,List.length_take];rfl)) ?_
 with_reducible refine (pair_step.calls 48 t183 t187 t188 _ A7.out).mono ?_
 rintro e w' ⟨rfl,⟨nd,rfl⟩⟩
 refine ⟨_,rfl,?_⟩
 refine hK.out _ _ ⟨(bc_ BK184 0),(bc_ BK184 1)⟩ (fun hHeld=>?_)
 clear hK K
 refine norm_ (a':=?_) ?_ ?_
 rotate_left
 ·show Act.put _ (some 30) _ = _
  simp only [Act.put,List.setIfInBounds_toArray,List.set_cons_zero,List.set_cons_succ,i64_w,i32_w]
  rfl
 refine one_ (i:=8) (N:=some 31) #[true,true,true,true,true,true,true,true,true,false,false] rfl rfl (one_of HT_.out (by kernel_rfl)) (by decide) (fun K hK=>?_)
 refine goes_ Try.func45 (by kernel_rfl) rfl #[.float .f64 t182,.float .f64 t188] (by rfl) rfl rfl (by (try simp only [List.map_toArray,List.map_cons,List.map_nil]);first|done|rfl|(simp only [List.length_drop,List.length_take];rfl)) ?_
 with_reducible refine (pair_quick.calls t182 t188 t189 t190 _ A8.out).mono ?_
 rintro e w28 ⟨rfl,hb⟩
 refine ⟨_,rfl,?_⟩
 have n0_:=kb_ BK179 hb
 have n1_:=kb_ BK180 hb
 have n2_:=kb_ BK181 hb
 have n3_:=kb_ BK184 hb
 have n4_:=bs_ HB hb
 clear BK179
 clear BK180
 clear BK181
 clear BK184
 clear HB
 have BK179:=n0_
 have BK180:=n1_
 have BK181:=n2_
 have BK184:=n3_
 have HB:=n4_
 clear n0_ n1_ n2_ n3_ n4_
 (try clear hb)
 (try clear hb2)
 (try clear hk)
 (try clear hi)
 refine hK.out _ _ ⟨(bc_ BK184 0),(bc_ BK184 1)⟩ (fun hHeld=>?_)
 clear hK K
 refine norm_ (a':=?_) ?_ ?_
 rotate_left
 ·show Act.put _ (some 31) _ = _
  simp only [Act.put,List.setIfInBounds_toArray,List.set_cons_zero,List.set_cons_succ,i64_w,i32_w]
  rfl
 refine one_ (i:=9) (N:=some 32) #[true,true,true,true,true,true,true,true,true,true,false] rfl rfl (one_of HT_.out (by kernel_rfl)) (by decide) (fun K hK=>?_)
 refine goes_ Try.func40 (by kernel_rfl) rfl #[.agg #[.float .f64 t189,.float .f64 t190]] (by rfl) rfl rfl (by (try simp only [List.map_toArray,List.map_cons,List.map_nil]);first|done|rfl|(simp only [List.length_drop,List.length_take];rfl)) ?_
 with_reducible refine (pair_two_told.calls t189 t190 t191 t192 _ A9.out).mono ?_
 rintro e w29 ⟨rfl,hb⟩
 refine ⟨_,rfl,?_⟩
 have n0_:=kb_ BK179 hb
 have n1_:=kb_ BK180 hb
 have n2_:=kb_ BK181 hb
 have n3_:=kb_ BK184 hb
 have n4_:=bs_ HB hb
 clear BK179
 clear BK180
 clear BK181
 clear BK184
 clear HB
 have BK179:=n0_
 have BK180:=n1_
 have BK181:=n2_
 have BK184:=n3_
 have HB:=n4_
 clear n0_ n1_ n2_ n3_ n4_
 (try clear hb)
 (try clear hb2)
 (try clear hk)
 (try clear hi)
 refine hK.out _ _ ⟨(bc_ BK184 0),(bc_ BK184 1)⟩ (fun hHeld=>?_)
 clear hK K
 refine norm_ (a':=?_) ?_ ?_
 rotate_left
 ·show Act.put _ (some 32) _ = _
  simp only [Act.put,List.setIfInBounds_toArray,List.set_cons_zero,List.set_cons_succ,i64_w,i32_w]
  rfl
 refine one_ (i:=10) (N:=none) #[true,true,true,true,true,true,true,true,true,true,true] rfl rfl (one_of HT_.out (by kernel_rfl)) (by decide) (fun K hK=>?_)
 have hs30 : w29.cell? ⟨gb181,0,none⟩ = some (.float .f64 0):=bc_ BK181 0
 have hfs30:=bz_ BK181 0
 have hns30_0:=NB179_181.out
 have hns30_1:=NB180_181.out
 have hns30_3:=NB184_181.out
 have hms30_0:=NB181_179.out
 have hms30_1:=NB181_180.out
 have hms30_3:=NB181_184.out
 have hs31 : w29.cell? ⟨gb181,1,none⟩ = some (.float .f64 0):=bc_ BK181 1
 have hfs31:=bz_ BK181 1
 have hns31_0:=NB179_181.out
 have hns31_1:=NB180_181.out
 have hns31_3:=NB184_181.out
 have hms31_0:=NB181_179.out
 have hms31_1:=NB181_180.out
 have hms31_3:=NB181_184.out
 refine skip_ (w1:=?_) (by rfl) rfl ?_ ?_
 rotate_left
 ·go_simp
  rfl
 refine hK.out _ _ ⟨((cell_far (p:=⟨gb181,_,none⟩) NB184_181.out _).trans (((cell_far (p:=⟨gb181,_,none⟩) NB184_181.out _).trans (hHeld.1)))),((cell_far (p:=⟨gb181,_,none⟩) NB184_181.out _).trans (((cell_far (p:=⟨gb181,_,none⟩) NB184_181.out _).trans (hHeld.2))))⟩ (fun hHeld=>?_)
 clear hK K
 refine done_ (done_of HT_.out (by kernel_rfl)) ?_
 try go_wp2
 refine bodyPost_ret (results_cell_row rfl _ _ gb181 30 #[.float .f64 t191,.float .f64 t192] (0,0) _ rfl (by (with_reducible repeat (first|apply bN|apply bD|apply bA));refine blk_put (cs:=#[.float .f64 t191,.float .f64 0]) ?_ 1 _ rfl;(with_reducible repeat (first|apply bN|apply bD|apply bA));refine blk_put (cs:=#[.float .f64 0,.float .f64 0]) ?_ 0 _ rfl;exact bk_ BK181) Try.underlying30 rfl (by kernel_rfl)) rfl ?_
 exact ⟨rf_,bl_ HB⟩

def pair_Value.f (a0_0 : Nat) (a0_1 : Nat) : Option (Nat) := (pair_step.f 48 a0_0 a0_1).bind fun t194 => (some t194)
set_option maxHeartbeats 3000000 in
set_option maxRecDepth 100000 in
theorem pair_Value.calls (a0_0 : Nat) (a0_1 : Nat) (r : Nat) (w : World) (h : pair_Value.f a0_0 a0_1 = some r) :
  Calls Try.prog 27 #[.agg #[.float .f64 a0_0,.float .f64 a0_1]] w fun e w'=>e = .returned (.float .f64 r) ∧ Below w.heap.size w w':=by
 have hu30:=Try.underlying30
 have HB:=Aside0.mk (Below.refl w.heap.size w)
 have H : ((pair_step.f 48 a0_0 a0_1).bind fun t194=>(some t194)) = some r:=h
 clear h
 obtain ⟨t194,A2,H⟩:=ob_ H
 try dsimp only at H
 obtain rfl:=Option.some.inj H
 go_enter Try.func27,Try.ntmps27
 go_wp2_with (first|((with_reducible refine gate_dst (N:=1) rfl ?_);refine box_ev (N:=1) (cs:=#[.float .f64 a0_0,.float .f64 a0_1]) (t:=30) ?_;intro gb193 hg w3 hbox hb;have BK193:=Aside0.mk (hbox);have GW193:=ge_ HB hg;have GE193:=ge_ HB hg;replace HB:=bs_ HB hb;clear hb hbox hg;have hcz4_0:=bc_ BK193 0;have hcz4_1:=bc_ BK193 1;have hfz4_0:=bz_ BK193 0;have hfz4_1:=bz_ BK193 1)|((with_reducible refine gate_callee (f:=47) rfl ?_);refine goesM (some 7) Try.func47 #[.func (.func 48) #[] #[],.float .f64 a0_0,.float .f64 a0_1] ?_;(with_reducible refine (pair_step.calls 48 a0_0 a0_1 t194 _ A2.out).mono ?_);rintro e w' ⟨rfl,⟨nd,rfl⟩⟩;refine ⟨_,rfl,?_⟩))
 go_ret
 exact ⟨rf_,bl_ HB⟩

end Go.Proofs.Ytdemanikmaafeaa.Pr
-- written by this session's own program (wip/fprint.py), which widens the kit's print by floats
namespace Go.Proofs.Ytdemanikmaafeaa.Pr
open Go.RowKit Go.Proofs.YtdemanikmaafeaaW.PrintWords Go.Proofs.YtdemanikmaafeaaW.PrintLast Go.Proofs.YtdemanikmaafeaaW.PrintMore
attribute [local go_sem] max2_int min2_int max_two min_two max_three min_three max_four min_four   -- for this text's walks alone
set_option linter.unusedVariables false
set_option linter.unusedSimpArgs false

def l05_awake.f  : Option (Bool) := (l05_power.f 27).bind fun t195 => (if (FloatKind.f64.format.add t195 4607182418800017408).isSome = true then ((r05_Turned.f 0).bind fun t196 => ((r05_Odd.f).bind fun t197 => ((l05_power.f (-60)).bind fun t198 => ((pair_Sum.f 4607182418800017408 t198).bind fun bt199 => ((l05_power.f (-60)).bind fun t201 => ((l05_is.f bt199.1 bt199.2 4607182418800017408 t201).bind fun t202 => ((l05_power.f 60).bind fun t203 => (if (FloatKind.f64.format.add t203 4643211215818981376).isSome = true then ((pair_Quick.f 4607182418800017408 ((FloatKind.f64.format.add t203 4643211215818981376).getD 0)).bind fun bt204 => ((l05_power.f 60).bind fun t206 => (if (FloatKind.f64.format.add t206 4643211215818981376).isSome = true then ((l05_is.f bt204.1 bt204.2 ((FloatKind.f64.format.add t206 4643211215818981376).getD 0) 0).bind fun t207 => ((pair_Sum.f t196 t196).bind fun bt208 => ((l05_is.f bt208.1 bt208.2 t196 0).bind fun t210 => ((pair_Sum.f t197 4607182418800017408).bind fun bt211 => ((l05_is.f bt211.1 bt211.2 t197 t197).bind fun t213 => ((pair_Halves.f ((FloatKind.f64.format.add t195 4607182418800017408).getD 0)).bind fun bt214 => ((l05_power.f 27).bind fun t216 => ((l05_is.f bt214.1 bt214.2 t216 4607182418800017408).bind fun t217 => ((pair_Product.f ((FloatKind.f64.format.add t195 4607182418800017408).getD 0) ((FloatKind.f64.format.add t195 4607182418800017408).getD 0)).bind fun bt218 => ((l05_power.f 54).bind fun t220 => ((l05_power.f 28).bind fun t221 => (if (FloatKind.f64.format.add t220 t221).isSome = true then ((l05_is.f bt218.1 bt218.2 ((FloatKind.f64.format.add t220 t221).getD 0) 4607182418800017408).bind fun t222 => ((l05_power.f (-60)).bind fun t223 => ((pair_Add.f 4607182418800017408 t223 13830554455654793216 0).bind fun bt224 => ((l05_power.f (-60)).bind fun t226 => ((l05_is.f bt224.1 bt224.2 t226 0).bind fun t227 => ((l05_power.f 53).bind fun t228 => ((pair_Mul.f t228 4607182418800017408 4611686018427387904 0).bind fun bt229 => ((l05_power.f 54).bind fun t231 => ((l05_is.f bt229.1 bt229.2 t231 4611686018427387904).bind fun t232 => ((l05_power.f (-60)).bind fun t233 => ((pair_Value.f 4607182418800017408 t233).bind fun t234 => ((r05_Same.f t234 4607182418800017408).bind fun t235 => (if t202 = true then (if t207 = true then (if t210 = true then (if t213 = true then (if t217 = true then (if t222 = true then (if t227 = true then (if t232 = true then (some t235) else (none)) else (none)) else (none)) else (none)) else (none)) else (none)) else (none)) else (none)))))))))))))) else (none))))))))))))) else (none)))) else (none))))))))) else (none))
set_option maxHeartbeats 3000000 in
set_option maxRecDepth 100000 in
theorem l05_awake.calls  (r : Bool) (w : World) (h : l05_awake.f  = some r) :
  Calls Try.prog 7 #[] w fun e w'=>e = .returned (.bool r) ∧ Below w.heap.size w w':=by
 have hu30:=Try.underlying30
 have HB:=Aside0.mk (Below.refl w.heap.size w)
 have H : ((l05_power.f 27).bind fun t195=>(if (FloatKind.f64.format.add t195 4607182418800017408).isSome = true then ((r05_Turned.f 0).bind fun t196=>((r05_Odd.f).bind fun t197=>((l05_power.f (-60)).bind fun t198=>((pair_Sum.f 4607182418800017408 t198).bind fun bt199=>((l05_power.f (-60)).bind fun t201=>((l05_is.f bt199.1 bt199.2 4607182418800017408 t201).bind fun t202=>((l05_power.f 60).bind fun t203=>(if (FloatKind.f64.format.add t203 4643211215818981376).isSome = true then ((pair_Quick.f 4607182418800017408 ((FloatKind.f64.format.add t203 4643211215818981376).getD 0)).bind fun bt204=>((l05_power.f 60).bind fun t206=>(if (FloatKind.f64.format.add t206 4643211215818981376).isSome = true then ((l05_is.f bt204.1 bt204.2 ((FloatKind.f64.format.add t206 4643211215818981376).getD 0) 0).bind fun t207=>((pair_Sum.f t196 t196).bind fun bt208=>((l05_is.f bt208.1 bt208.2 t196 0).bind fun t210=>((pair_Sum.f t197 4607182418800017408).bind fun bt211=>((l05_is.f bt211.1 bt211.2 t197 t197).bind fun t213=>((pair_Halves.f ((FloatKind.f64.format.add t195 4607182418800017408).getD 0)).bind fun bt214=>((l05_power.f 27).bind fun t216=>((l05_is.f bt214.1 bt214.2 t216 4607182418800017408).bind fun t217=>((pair_Product.f ((FloatKind.f64.format.add t195 4607182418800017408).getD 0) ((FloatKind.f64.format.add t195 4607182418800017408).getD 0)).bind fun bt218=>((l05_power.f 54).bind fun t220=>((l05_power.f 28).bind fun t221=>(if (FloatKind.f64.format.add t220 t221).isSome = true then ((l05_is.f bt218.1 bt218.2 ((FloatKind.f64.format.add t220 t221).getD 0) 4607182418800017408).bind fun t222=>((l05_power.f (-60)).bind fun t223=>((pair_Add.f 4607182418800017408 t223 13830554455654793216 0).bind fun bt224=>((l05_power.f (-60)).bind fun t226=>((l05_is.f bt224.1 bt224.2 t226 0).bind fun t227=>((l05_power.f 53).bind fun t228=>((pair_Mul.f t228 4607182418800017408 4611686018427387904 0).bind fun bt229=>((l05_power.f 54).bind fun t231=>((l05_is.f bt229.1 bt229.2 t231 4611686018427387904).bind fun t232=>((l05_power.f (-60)).bind fun t233=>((pair_Value.f 4607182418800017408 t233).bind fun t234=>((r05_Same.f t234 4607182418800017408).bind fun t235=>(if t202 = true then (if t207 = true then (if t210 = true then (if t213 = true then (if t217 = true then (if t222 = true then (if t227 = true then (if t232 = true then (some t235) else (none)) else (none)) else (none)) else (none)) else (none)) else (none)) else (none)) else (none)))))))))))))) else (none))))))))))))) else (none)))) else (none))))))))) else (none))) = some r:=h
 clear h
 obtain ⟨t195,A1,H⟩:=ob_ H
 try dsimp only at H
 by_cases c2 : (FloatKind.f64.format.add t195 4607182418800017408).isSome = true
 ·rw [if_pos c2] at H
  have c2b0 : (FloatKind.f64.format.add t195 4607182418800017408).isSome = true:=c2
  clear c2
  obtain ⟨t196,A3,H⟩:=ob_ H
  try dsimp only at H
  obtain ⟨t197,A4,H⟩:=ob_ H
  try dsimp only at H
  obtain ⟨t198,A5,H⟩:=ob_ H
  try dsimp only at H
  obtain ⟨⟨t199,t200⟩,A6,H⟩:=ob_ H
  try dsimp only at H
  obtain ⟨t201,A7,H⟩:=ob_ H
  try dsimp only at H
  obtain ⟨t202,A8,H⟩:=ob_ H
  try dsimp only at H
  obtain ⟨t203,A9,H⟩:=ob_ H
  try dsimp only at H
  by_cases c10 : (FloatKind.f64.format.add t203 4643211215818981376).isSome = true
  ·rw [if_pos c10] at H
   have c10b0 : (FloatKind.f64.format.add t203 4643211215818981376).isSome = true:=c10
   clear c10
   obtain ⟨⟨t204,t205⟩,A11,H⟩:=ob_ H
   try dsimp only at H
   obtain ⟨t206,A12,H⟩:=ob_ H
   try dsimp only at H
   by_cases c13 : (FloatKind.f64.format.add t206 4643211215818981376).isSome = true
   ·rw [if_pos c13] at H
    have c13b0 : (FloatKind.f64.format.add t206 4643211215818981376).isSome = true:=c13
    clear c13
    obtain ⟨t207,A14,H⟩:=ob_ H
    try dsimp only at H
    obtain ⟨⟨t208,t209⟩,A15,H⟩:=ob_ H
    try dsimp only at H
    obtain ⟨t210,A16,H⟩:=ob_ H
    try dsimp only at H
    obtain ⟨⟨t211,t212⟩,A17,H⟩:=ob_ H
    try dsimp only at H
    obtain ⟨t213,A18,H⟩:=ob_ H
    try dsimp only at H
    obtain ⟨⟨t214,t215⟩,A19,H⟩:=ob_ H
    try dsimp only at H
    obtain ⟨t216,A20,H⟩:=ob_ H
    try dsimp only at H
    obtain ⟨t217,A21,H⟩:=ob_ H
    try dsimp only at H
    obtain ⟨⟨t218,t219⟩,A22,H⟩:=ob_ H
    try dsimp only at H
    obtain ⟨t220,A23,H⟩:=ob_ H
    try dsimp only at H
    obtain ⟨t221,A24,H⟩:=ob_ H
    try dsimp only at H
    by_cases c25 : (FloatKind.f64.format.add t220 t221).isSome = true
    ·rw [if_pos c25] at H
     have c25b0 : (FloatKind.f64.format.add t220 t221).isSome = true:=c25
     clear c25
     obtain ⟨t222,A26,H⟩:=ob_ H
     try dsimp only at H
     obtain ⟨t223,A27,H⟩:=ob_ H
     try dsimp only at H
     obtain ⟨⟨t224,t225⟩,A28,H⟩:=ob_ H
     try dsimp only at H
     obtain ⟨t226,A29,H⟩:=ob_ H
     try dsimp only at H
     obtain ⟨t227,A30,H⟩:=ob_ H
     try dsimp only at H
     obtain ⟨t228,A31,H⟩:=ob_ H
     try dsimp only at H
     obtain ⟨⟨t229,t230⟩,A32,H⟩:=ob_ H
     try dsimp only at H
     obtain ⟨t231,A33,H⟩:=ob_ H
     try dsimp only at H
     obtain ⟨t232,A34,H⟩:=ob_ H
     try dsimp only at H
     obtain ⟨t233,A35,H⟩:=ob_ H
     try dsimp only at H
     obtain ⟨t234,A36,H⟩:=ob_ H
     try dsimp only at H
     obtain ⟨t235,A37,H⟩:=ob_ H
     try dsimp only at H
     by_cases c38 : t202 = true
     ·subst c38
      have H1 : (if t207 = true then (if t210 = true then (if t213 = true then (if t217 = true then (if t222 = true then (if t227 = true then (if t232 = true then (some t235) else (none)) else (none)) else (none)) else (none)) else (none)) else (none)) else (none)) = some r:=by rw [if_pos rfl] at H;exact H
      clear H
      have H:=H1
      clear H1
      by_cases c39 : t207 = true
      ·subst c39
       have H1 : (if t210 = true then (if t213 = true then (if t217 = true then (if t222 = true then (if t227 = true then (if t232 = true then (some t235) else (none)) else (none)) else (none)) else (none)) else (none)) else (none)) = some r:=by rw [if_pos rfl] at H;exact H
       clear H
       have H:=H1
       clear H1
       by_cases c40 : t210 = true
       ·subst c40
        have H1 : (if t213 = true then (if t217 = true then (if t222 = true then (if t227 = true then (if t232 = true then (some t235) else (none)) else (none)) else (none)) else (none)) else (none)) = some r:=by rw [if_pos rfl] at H;exact H
        clear H
        have H:=H1
        clear H1
        by_cases c41 : t213 = true
        ·subst c41
         have H1 : (if t217 = true then (if t222 = true then (if t227 = true then (if t232 = true then (some t235) else (none)) else (none)) else (none)) else (none)) = some r:=by rw [if_pos rfl] at H;exact H
         clear H
         have H:=H1
         clear H1
         by_cases c42 : t217 = true
         ·subst c42
          have H1 : (if t222 = true then (if t227 = true then (if t232 = true then (some t235) else (none)) else (none)) else (none)) = some r:=by rw [if_pos rfl] at H;exact H
          clear H
          have H:=H1
          clear H1
          by_cases c43 : t222 = true
          ·subst c43
           have H1 : (if t227 = true then (if t232 = true then (some t235) else (none)) else (none)) = some r:=by rw [if_pos rfl] at H;exact H
           clear H
           have H:=H1
           clear H1
           by_cases c44 : t227 = true
           ·subst c44
            have H1 : (if t232 = true then (some t235) else (none)) = some r:=by rw [if_pos rfl] at H;exact H
            clear H
            have H:=H1
            clear H1
            by_cases c45 : t232 = true
            ·subst c45
             have H1 : (some t235) = some r:=by rw [if_pos rfl] at H;exact H
             clear H
             have H:=H1
             clear H1
             obtain rfl:=Option.some.inj H
             go_enter Try.func7,Try.ntmps7
             go_wp2_with (first|((with_reducible refine gate_callee (f:=15) rfl ?_);refine goesM (some 13) Try.func15 #[.int .i64 27] ?_;(with_reducible refine (l05_power.calls 27 t195 _ A1.out).mono ?_);rintro e w' ⟨rfl,⟨nd,rfl⟩⟩;refine ⟨_,rfl,?_⟩)|((with_reducible refine gate_callee (f:=10) rfl ?_);refine goesM (some 15) Try.func10 #[.float .f64 0] ?_;(with_reducible refine (r05_Turned.calls 0 t196 _ A3.out).mono ?_);rintro e w' ⟨rfl,⟨nd,rfl⟩⟩;refine ⟨_,rfl,?_⟩)|((with_reducible refine gate_callee (f:=9) rfl ?_);refine goesM (some 16) Try.func9 #[] ?_;(with_reducible refine (r05_Odd.calls  t197 _ A4.out).mono ?_);rintro e w' ⟨rfl,⟨nd,rfl⟩⟩;refine ⟨_,rfl,?_⟩)|((with_reducible refine gate_callee (f:=15) rfl ?_);refine goesM (some 17) Try.func15 #[.int .i64 (-60)] ?_;(with_reducible refine (l05_power.calls (-60) t198 _ A5.out).mono ?_);rintro e w' ⟨rfl,⟨nd,rfl⟩⟩;refine ⟨_,rfl,?_⟩)|((with_reducible refine gate_callee (f:=12) rfl ?_);refine goesM (some 18) Try.func12 #[.float .f64 4607182418800017408,.float .f64 t198] ?_;(with_reducible refine (pair_Sum.calls 4607182418800017408 t198 t199 t200 _ A6.out).mono ?_);rintro e w46 ⟨rfl,hb⟩;refine ⟨_,rfl,?_⟩;replace HB:=bs_ HB hb;(try clear hb);(try clear hb2);(try clear hk);(try clear hi))|((with_reducible refine gate_callee (f:=15) rfl ?_);refine goesM (some 19) Try.func15 #[.int .i64 (-60)] ?_;(with_reducible refine (l05_power.calls (-60) t201 _ A7.out).mono ?_);rintro e w' ⟨rfl,⟨nd,rfl⟩⟩;refine ⟨_,rfl,?_⟩)|((with_reducible refine gate_callee (f:=11) rfl ?_);refine goesM (some 20) Try.func11 #[.agg #[.float .f64 t199,.float .f64 t200],.float .f64 4607182418800017408,.float .f64 t201] ?_;(with_reducible refine (l05_is.calls t199 t200 4607182418800017408 t201 true _ A8.out).mono ?_);rintro e w47 ⟨rfl,hb⟩;refine ⟨_,rfl,?_⟩;replace HB:=bs_ HB hb;(try clear hb);(try clear hb2);(try clear hk);(try clear hi))|((with_reducible refine gate_callee (f:=15) rfl ?_);refine goesM (some 21) Try.func15 #[.int .i64 60] ?_;(with_reducible refine (l05_power.calls 60 t203 _ A9.out).mono ?_);rintro e w' ⟨rfl,⟨nd,rfl⟩⟩;refine ⟨_,rfl,?_⟩)|((with_reducible refine gate_callee (f:=18) rfl ?_);refine goesM (some 23) Try.func18 #[.float .f64 4607182418800017408,.float .f64 ((FloatKind.f64.format.add t203 4643211215818981376).getD 0)] ?_;(with_reducible refine (pair_Quick.calls 4607182418800017408 ((FloatKind.f64.format.add t203 4643211215818981376).getD 0) t204 t205 _ A11.out).mono ?_);rintro e w48 ⟨rfl,hb⟩;refine ⟨_,rfl,?_⟩;replace HB:=bs_ HB hb;(try clear hb);(try clear hb2);(try clear hk);(try clear hi))|((with_reducible refine gate_callee (f:=15) rfl ?_);refine goesM (some 24) Try.func15 #[.int .i64 60] ?_;(with_reducible refine (l05_power.calls 60 t206 _ A12.out).mono ?_);rintro e w' ⟨rfl,⟨nd,rfl⟩⟩;refine ⟨_,rfl,?_⟩)|((with_reducible refine gate_callee (f:=11) rfl ?_);refine goesM (some 26) Try.func11 #[.agg #[.float .f64 t204,.float .f64 t205],.float .f64 ((FloatKind.f64.format.add t206 4643211215818981376).getD 0),.float .f64 0] ?_;(with_reducible refine (l05_is.calls t204 t205 ((FloatKind.f64.format.add t206 4643211215818981376).getD 0) 0 true _ A14.out).mono ?_);rintro e w49 ⟨rfl,hb⟩;refine ⟨_,rfl,?_⟩;replace HB:=bs_ HB hb;(try clear hb);(try clear hb2);(try clear hk);(try clear hi))|((with_reducible refine gate_callee (f:=12) rfl ?_);refine goesM (some 29) Try.func12 #[.float .f64 t196,.float .f64 t196] ?_;(with_reducible refine (pair_Sum.calls t196 t196 t208 t209 _ A15.out).mono ?_);rintro e w50 ⟨rfl,hb⟩;refine ⟨_,rfl,?_⟩;replace HB:=bs_ HB hb;(try clear hb);(try clear hb2);(try clear hk);(try clear hi))|((with_reducible refine gate_callee (f:=11) rfl ?_);refine goesM (some 31) Try.func11 #[.agg #[.float .f64 t208,.float .f64 t209],.float .f64 t196,.float .f64 0] ?_;(with_reducible refine (l05_is.calls t208 t209 t196 0 true _ A16.out).mono ?_);rintro e w51 ⟨rfl,hb⟩;refine ⟨_,rfl,?_⟩;replace HB:=bs_ HB hb;(try clear hb);(try clear hb2);(try clear hk);(try clear hi))|((with_reducible refine gate_callee (f:=12) rfl ?_);refine goesM (some 33) Try.func12 #[.float .f64 t197,.float .f64 4607182418800017408] ?_;(with_reducible refine (pair_Sum.calls t197 4607182418800017408 t211 t212 _ A17.out).mono ?_);rintro e w52 ⟨rfl,hb⟩;refine ⟨_,rfl,?_⟩;replace HB:=bs_ HB hb;(try clear hb);(try clear hb2);(try clear hk);(try clear hi))|((with_reducible refine gate_callee (f:=11) rfl ?_);refine goesM (some 36) Try.func11 #[.agg #[.float .f64 t211,.float .f64 t212],.float .f64 t197,.float .f64 t197] ?_;(with_reducible refine (l05_is.calls t211 t212 t197 t197 true _ A18.out).mono ?_);rintro e w53 ⟨rfl,hb⟩;refine ⟨_,rfl,?_⟩;replace HB:=bs_ HB hb;(try clear hb);(try clear hb2);(try clear hk);(try clear hi))|((with_reducible refine gate_callee (f:=13) rfl ?_);refine goesM (some 38) Try.func13 #[.float .f64 ((FloatKind.f64.format.add t195 4607182418800017408).getD 0)] ?_;(with_reducible refine (pair_Halves.calls ((FloatKind.f64.format.add t195 4607182418800017408).getD 0) t214 t215 _ A19.out).mono ?_);rintro e w54 ⟨rfl,hb⟩;refine ⟨_,rfl,?_⟩;replace HB:=bs_ HB hb;(try clear hb);(try clear hb2);(try clear hk);(try clear hi))|((with_reducible refine gate_callee (f:=15) rfl ?_);refine goesM (some 39) Try.func15 #[.int .i64 27] ?_;(with_reducible refine (l05_power.calls 27 t216 _ A20.out).mono ?_);rintro e w' ⟨rfl,⟨nd,rfl⟩⟩;refine ⟨_,rfl,?_⟩)|((with_reducible refine gate_callee (f:=11) rfl ?_);refine goesM (some 40) Try.func11 #[.agg #[.float .f64 t214,.float .f64 t215],.float .f64 t216,.float .f64 4607182418800017408] ?_;(with_reducible refine (l05_is.calls t214 t215 t216 4607182418800017408 true _ A21.out).mono ?_);rintro e w55 ⟨rfl,hb⟩;refine ⟨_,rfl,?_⟩;replace HB:=bs_ HB hb;(try clear hb);(try clear hb2);(try clear hk);(try clear hi))|((with_reducible refine gate_callee (f:=14) rfl ?_);refine goesM (some 43) Try.func14 #[.float .f64 ((FloatKind.f64.format.add t195 4607182418800017408).getD 0),.float .f64 ((FloatKind.f64.format.add t195 4607182418800017408).getD 0)] ?_;(with_reducible refine (pair_Product.calls ((FloatKind.f64.format.add t195 4607182418800017408).getD 0) ((FloatKind.f64.format.add t195 4607182418800017408).getD 0) t218 t219 _ A22.out).mono ?_);rintro e w56 ⟨rfl,hb⟩;refine ⟨_,rfl,?_⟩;replace HB:=bs_ HB hb;(try clear hb);(try clear hb2);(try clear hk);(try clear hi))|((with_reducible refine gate_callee (f:=15) rfl ?_);refine goesM (some 44) Try.func15 #[.int .i64 54] ?_;(with_reducible refine (l05_power.calls 54 t220 _ A23.out).mono ?_);rintro e w' ⟨rfl,⟨nd,rfl⟩⟩;refine ⟨_,rfl,?_⟩)|((with_reducible refine gate_callee (f:=15) rfl ?_);refine goesM (some 45) Try.func15 #[.int .i64 28] ?_;(with_reducible refine (l05_power.calls 28 t221 _ A24.out).mono ?_);rintro e w' ⟨rfl,⟨nd,rfl⟩⟩;refine ⟨_,rfl,?_⟩)|((with_reducible refine gate_callee (f:=11) rfl ?_);refine goesM (some 47) Try.func11 #[.agg #[.float .f64 t218,.float .f64 t219],.float .f64 ((FloatKind.f64.format.add t220 t221).getD 0),.float .f64 4607182418800017408] ?_;(with_reducible refine (l05_is.calls t218 t219 ((FloatKind.f64.format.add t220 t221).getD 0) 4607182418800017408 true _ A26.out).mono ?_);rintro e w57 ⟨rfl,hb⟩;refine ⟨_,rfl,?_⟩;replace HB:=bs_ HB hb;(try clear hb);(try clear hb2);(try clear hk);(try clear hi))|((with_reducible refine gate_callee (f:=15) rfl ?_);refine goesM (some 48) Try.func15 #[.int .i64 (-60)] ?_;(with_reducible refine (l05_power.calls (-60) t223 _ A27.out).mono ?_);rintro e w' ⟨rfl,⟨nd,rfl⟩⟩;refine ⟨_,rfl,?_⟩)|((with_reducible refine gate_callee (f:=22) rfl ?_);refine goesM (some 51) Try.func22 #[.agg #[.float .f64 4607182418800017408,.float .f64 t223],.agg #[.float .f64 13830554455654793216,.float .f64 0]] ?_;(with_reducible refine (pair_Add.calls 4607182418800017408 t223 13830554455654793216 0 t224 t225 _ A28.out).mono ?_);rintro e w58 ⟨rfl,hb⟩;refine ⟨_,rfl,?_⟩;replace HB:=bs_ HB hb;(try clear hb);(try clear hb2);(try clear hk);(try clear hi))|((with_reducible refine gate_callee (f:=15) rfl ?_);refine goesM (some 52) Try.func15 #[.int .i64 (-60)] ?_;(with_reducible refine (l05_power.calls (-60) t226 _ A29.out).mono ?_);rintro e w' ⟨rfl,⟨nd,rfl⟩⟩;refine ⟨_,rfl,?_⟩)|((with_reducible refine gate_callee (f:=11) rfl ?_);refine goesM (some 53) Try.func11 #[.agg #[.float .f64 t224,.float .f64 t225],.float .f64 t226,.float .f64 0] ?_;(with_reducible refine (l05_is.calls t224 t225 t226 0 true _ A30.out).mono ?_);rintro e w59 ⟨rfl,hb⟩;refine ⟨_,rfl,?_⟩;replace HB:=bs_ HB hb;(try clear hb);(try clear hb2);(try clear hk);(try clear hi))|((with_reducible refine gate_callee (f:=15) rfl ?_);refine goesM (some 54) Try.func15 #[.int .i64 53] ?_;(with_reducible refine (l05_power.calls 53 t228 _ A31.out).mono ?_);rintro e w' ⟨rfl,⟨nd,rfl⟩⟩;refine ⟨_,rfl,?_⟩)|((with_reducible refine gate_callee (f:=24) rfl ?_);refine goesM (some 57) Try.func24 #[.agg #[.float .f64 t228,.float .f64 4607182418800017408],.agg #[.float .f64 4611686018427387904,.float .f64 0]] ?_;(with_reducible refine (pair_Mul.calls t228 4607182418800017408 4611686018427387904 0 t229 t230 _ A32.out).mono ?_);rintro e w60 ⟨rfl,hb⟩;refine ⟨_,rfl,?_⟩;replace HB:=bs_ HB hb;(try clear hb);(try clear hb2);(try clear hk);(try clear hi))|((with_reducible refine gate_callee (f:=15) rfl ?_);refine goesM (some 58) Try.func15 #[.int .i64 54] ?_;(with_reducible refine (l05_power.calls 54 t231 _ A33.out).mono ?_);rintro e w' ⟨rfl,⟨nd,rfl⟩⟩;refine ⟨_,rfl,?_⟩)|((with_reducible refine gate_callee (f:=11) rfl ?_);refine goesM (some 59) Try.func11 #[.agg #[.float .f64 t229,.float .f64 t230],.float .f64 t231,.float .f64 4611686018427387904] ?_;(with_reducible refine (l05_is.calls t229 t230 t231 4611686018427387904 true _ A34.out).mono ?_);rintro e w61 ⟨rfl,hb⟩;refine ⟨_,rfl,?_⟩;replace HB:=bs_ HB hb;(try clear hb);(try clear hb2);(try clear hk);(try clear hi))|((with_reducible refine gate_callee (f:=15) rfl ?_);refine goesM (some 60) Try.func15 #[.int .i64 (-60)] ?_;(with_reducible refine (l05_power.calls (-60) t233 _ A35.out).mono ?_);rintro e w' ⟨rfl,⟨nd,rfl⟩⟩;refine ⟨_,rfl,?_⟩)|((with_reducible refine gate_callee (f:=27) rfl ?_);refine goesM (some 62) Try.func27 #[.agg #[.float .f64 4607182418800017408,.float .f64 t233]] ?_;(with_reducible refine (pair_Value.calls 4607182418800017408 t233 t234 _ A36.out).mono ?_);rintro e w62 ⟨rfl,hb⟩;refine ⟨_,rfl,?_⟩;replace HB:=bs_ HB hb;(try clear hb);(try clear hb2);(try clear hk);(try clear hi))|((with_reducible refine gate_callee (f:=26) rfl ?_);refine goesM (some 63) Try.func26 #[.float .f64 t234,.float .f64 4607182418800017408] ?_;(with_reducible refine (r05_Same.calls t234 4607182418800017408 t235 _ A37.out).mono ?_);rintro e w' ⟨rfl,⟨nd,rfl⟩⟩;refine ⟨_,rfl,?_⟩))
             go_ret
             exact ⟨rf_,bl_ HB⟩
            ·replace c45:=Bool.eq_false_iff.mpr c45
             subst c45
             have H1 : (none) = some r:=by rw [if_neg (show ¬ (false = true) by decide)] at H;exact H
             clear H
             have H:=H1
             clear H1
             exact absurd H (by simp)
           ·replace c44:=Bool.eq_false_iff.mpr c44
            subst c44
            have H1 : (none) = some r:=by rw [if_neg (show ¬ (false = true) by decide)] at H;exact H
            clear H
            have H:=H1
            clear H1
            exact absurd H (by simp)
          ·replace c43:=Bool.eq_false_iff.mpr c43
           subst c43
           have H1 : (none) = some r:=by rw [if_neg (show ¬ (false = true) by decide)] at H;exact H
           clear H
           have H:=H1
           clear H1
           exact absurd H (by simp)
         ·replace c42:=Bool.eq_false_iff.mpr c42
          subst c42
          have H1 : (none) = some r:=by rw [if_neg (show ¬ (false = true) by decide)] at H;exact H
          clear H
          have H:=H1
          clear H1
          exact absurd H (by simp)
        ·replace c41:=Bool.eq_false_iff.mpr c41
         subst c41
         have H1 : (none) = some r:=by rw [if_neg (show ¬ (false = true) by decide)] at H;exact H
         clear H
         have H:=H1
         clear H1
         exact absurd H (by simp)
       ·replace c40:=Bool.eq_false_iff.mpr c40
        subst c40
        have H1 : (none) = some r:=by rw [if_neg (show ¬ (false = true) by decide)] at H;exact H
        clear H
        have H:=H1
        clear H1
        exact absurd H (by simp)
      ·replace c39:=Bool.eq_false_iff.mpr c39
       subst c39
       have H1 : (none) = some r:=by rw [if_neg (show ¬ (false = true) by decide)] at H;exact H
       clear H
       have H:=H1
       clear H1
       exact absurd H (by simp)
     ·replace c38:=Bool.eq_false_iff.mpr c38
      subst c38
      have H1 : (none) = some r:=by rw [if_neg (show ¬ (false = true) by decide)] at H;exact H
      clear H
      have H:=H1
      clear H1
      exact absurd H (by simp)
    ·rw [if_neg c25] at H
     exact absurd H (by simp)
   ·rw [if_neg c13] at H
    exact absurd H (by simp)
  ·rw [if_neg c10] at H
   exact absurd H (by simp)
 ·rw [if_neg c2] at H
  exact absurd H (by simp)

end Go.Proofs.Ytdemanikmaafeaa.Pr
-- written by this session's own program (wip/fprint.py), which widens the kit's print by floats
namespace Go.Proofs.Ytdemanikmaafeaa.Pr
open Go.RowKit Go.Proofs.YtdemanikmaafeaaW.PrintWords Go.Proofs.YtdemanikmaafeaaW.PrintLast Go.Proofs.YtdemanikmaafeaaW.PrintMore
attribute [local go_sem] max2_int min2_int max_two min_two max_three min_three max_four min_four   -- for this text's walks alone
set_option linter.unusedVariables false
set_option linter.unusedSimpArgs false

def r02_size.l0 : Nat → List Int → Int → Option (Int)
 | 0, _, _ => none
 | k + 1, x0, x3 => if x3 > 0 then (if 0 ≤ (wrap64 (x3 - 1)) then (if (wrap64 (x3 - 1)) < (x0.length : Int) then (if (rd x0 (wrap64 (x3 - 1))) = 0 then (r02_size.l0 k x0 (wrap64 (x3 - 1))) else (some x3)) else (none)) else (none)) else (some x3)
def r02_size.f (k : Nat) (l0 : List Int) : Option (Int) := r02_size.l0 k l0 (l0.length : Int)
theorem r02_size.mono_l : ∀ k, (∀ y0 y1, LeO (r02_size.l0 k y0 y1) (r02_size.l0 (k + 1) y0 y1))
 | 0 => fun _ _ r h => by simp [r02_size.l0] at h
 | k + 1 => by
  have ih0:=r02_size.mono_l k
  ·intro y0 y1
   unfold r02_size.l0
   repeat' first
   | (with_reducible exact ih0 _ _)
   | (with_reducible exact LeO.refl _)
   | (with_reducible exact LeO.none _)
   | (with_reducible refine LeO.ite ?_ ?_)
   | (with_reducible refine LeO.bind ?_ (fun _ => ?_))
   | exact ih0 _ _
   | exact LeO.none _
   | refine LeO.ite ?_ ?_
   | refine LeO.bind ?_ (fun _ => ?_)
theorem r02_size.mono : ∀ a0 k, LeO (r02_size.f k a0) (r02_size.f (k + 1) a0) := by
 intro a0 k
 have ih0:=r02_size.mono_l k
 unfold r02_size.f
 repeat' first
   | (with_reducible exact ih0 _ _)
   | (with_reducible exact LeO.refl _)
   | (with_reducible exact LeO.none _)
   | (with_reducible refine LeO.ite ?_ ?_)
   | (with_reducible refine LeO.bind ?_ (fun _ => ?_))
   | exact ih0 _ _
   | exact LeO.none _
   | refine LeO.ite ?_ ?_
   | refine LeO.bind ?_ (fun _ => ?_)
set_option maxHeartbeats 3000000 in
set_option maxRecDepth 100000 in
theorem r02_size.calls (k : Nat) (A0 : Option Addr) (c0 : Nat) (l0 : List Int) (r : Int) (w : World) (hr0 : Kd.C (Kd.int .u32) w A0 l0.length l0) (hc0 : l0.length ≤ c0) (h : r02_size.f k l0 = some r) :
  Calls Try.prog 75 #[.slice A0 l0.length c0] w fun e w'=>e = .returned (.int .i64 r) ∧ Drawn0 w w':=by
 have HR0:=Aside0.mk hr0
 have HC0:=Aside0.mk hc0
 clear hr0 hc0
 have H : (r02_size.l0 k l0 (l0.length : Int)) = some r:=h
 clear h
 have H':=Aside0.mk H
 clear H
 go_enter Try.func75,Try.ntmps75
 go_wp2
 go_loopg [3] k (fun kq v3 w'=>∃ (x3_1 : Int),v3 = .int .i64 x3_1 ∧ Aside0 (r02_size.l0 kq l0 x3_1 = some r) ∧ Aside0 (kq ≤ k) ∧ Drawn0 w w')
 case atStart=>exact ⟨((l0.length : Int)),(by first|rfl|(simp;done)|(simp [*];done)),H',⟨Nat.le_refl _⟩,by repeat (first|exact Drawn0.refl _|apply Drawn0.step)⟩
 case round =>
  clear H'
  obtain ⟨x3_1,rfl,HA,HK1,⟨m1,rfl⟩⟩:=hrel
  cases gk with
  | zero => exact absurd HA.out (by simp [r02_size.l0])
  | succ k1 =>
   have H:=HA.out
   clear HA
   simp only [r02_size.l0] at H
   by_cases c2 : x3_1 > 0
   ·rw [if_pos c2] at H
    have c2b0 : decide (0 < x3_1) = true:=decide_eq_true c2
    clear c2
    obtain ⟨ji3,hji3⟩ : ∃ j_ : Int,(wrap64 (x3_1 - 1)) = j_:=⟨_,rfl⟩
    replace H : (if 0 ≤ (ji3) then (if (ji3) < (l0.length : Int) then (if (rd l0 (ji3)) = 0 then (r02_size.l0 k1 l0 ji3) else (some x3_1)) else (none)) else (none)) = some r:=by first|(rw [hji3] at H;exact H)|(simp only [hji3] at H ⊢;exact H)
    have hji3w : (IntKind.i64.wrap (x3_1 - 1)) = ji3:=(i64_w _).trans hji3
    by_cases c4 : 0 ≤ (ji3)
    ·rw [if_pos c4] at H
     have c4b0 : decide (0 ≤ (ji3)) = true:=decide_eq_true c4
     clear c4
     by_cases c5 : (ji3) < (l0.length : Int)
     ·rw [if_pos c5] at H
      have c5b0 : decide ((ji3) < (l0.length : Int)) = true:=decide_eq_true c5
      clear c5
      by_cases c6 : (rd l0 (ji3)) = 0
      ·rw [if_pos c6] at H
       have c6b0 : ((rd l0 (ji3)) == 0) = true:=beq_iff_eq.mpr c6
       have c6b1 : ((rd l0 (ji3)) != 0) = false:=bne_eq_false_iff_eq.mpr c6
       clear c6
       have H':=Aside0.mk H
       clear H
       have p236 : 0 ≤ ((ji3) : Int):=of_decide_eq_true (by first|(with_reducible assumption)|assumption)
       have q236 : (ji3) < (l0.length : Int):=of_decide_eq_true (by first|(with_reducible assumption)|assumption)
       obtain ⟨ad236,e236,hx236_0⟩:=Kd.at_int HR0.out (ji3) p236 q236
       cases e236
       replace p236:=eq_true p236
       replace q236:=eq_true q236
       go_wp2
       go_roundg k1
       case measure=>have:=HK1.out;omega
       case rel=>exact ⟨(ji3),(by first|rfl|(simp;done)|(simp only [← hji3] <;> (first|rfl|simp))|(simp [*];done)),H',⟨by have:=HK1.out;omega⟩,by repeat (first|exact Drawn0.refl _|apply Drawn0.step)⟩
      ·rw [if_neg c6] at H
       have c6b0 : ((rd l0 (ji3)) == 0) = false:=beq_eq_false_iff_ne.mpr c6
       have c6b1 : ((rd l0 (ji3)) != 0) = true:=bne_iff_ne.mpr c6
       obtain rfl:=Option.some.inj H
       have p236 : 0 ≤ ((ji3) : Int):=of_decide_eq_true (by first|(with_reducible assumption)|assumption)
       have q236 : (ji3) < (l0.length : Int):=of_decide_eq_true (by first|(with_reducible assumption)|assumption)
       obtain ⟨ad236,e236,hx236_0⟩:=Kd.at_int HR0.out (ji3) p236 q236
       cases e236
       replace p236:=eq_true p236
       replace q236:=eq_true q236
       go_wp2
       go_ret
       exact ⟨by first|rfl|(simp;done)|(simp only [← hji3] <;> (first|rfl|simp))|(simp [*];done),by repeat (first|exact Drawn0.refl _|apply Drawn0.step)⟩
     ·rw [if_neg c5] at H
      exact absurd H (by simp)
    ·rw [if_neg c4] at H
     exact absurd H (by simp)
   ·rw [if_neg c2] at H
    have c2b0 : decide (0 < x3_1) = false:=decide_eq_false c2
    clear c2
    obtain rfl:=Option.some.inj H
    go_wp2
    go_ret
    exact ⟨by first|rfl|(simp;done)|(simp [*];done),by repeat (first|exact Drawn0.refl _|apply Drawn0.step)⟩

def r02_Norm.f (k : Nat) (l0 : List Int) : Option (List Int) := (r02_size.f k l0).bind fun t237 => (if 0 ≤ t237 then (if t237 ≤ (l0.length : Int) then (if ([] : List Int).length + (l0.take (t237 : Int).toNat).length < 35184372088832 then (some (([] : List Int) ++ (l0.take (t237 : Int).toNat))) else (none)) else (none)) else (none))
theorem r02_Norm.mono : ∀ a0 k, LeO (r02_Norm.f k a0) (r02_Norm.f (k + 1) a0) := by
 intro a0 k
 unfold r02_Norm.f
 repeat' first
   | (with_reducible exact r02_size.mono _ _)
   | (with_reducible exact LeO.refl _)
   | (with_reducible exact LeO.none _)
   | (with_reducible refine LeO.ite ?_ ?_)
   | (with_reducible refine LeO.bind ?_ (fun _ => ?_))
   | exact r02_size.mono _ _
   | exact LeO.none _
   | refine LeO.ite ?_ ?_
   | refine LeO.bind ?_ (fun _ => ?_)
set_option maxHeartbeats 3000000 in
set_option maxRecDepth 100000 in
theorem r02_Norm.calls (k : Nat) (A0 : Option Addr) (c0 : Nat) (l0 : List Int) (r : List Int) (w : World) (hr0 : Kd.C (Kd.int .u32) w A0 l0.length l0) (hc0 : l0.length ≤ c0) (h : r02_Norm.f k l0 = some r) :
  Calls Try.prog 78 #[.slice A0 l0.length c0] w fun e w'=>∃ v0_ : Value,e = .returned (v0_) ∧ Kd.R (Kd.int .u32) 72 w' w.heap.size (fun _=>True) v0_ r ∧ Below w.heap.size w w':=by
 have HR0:=Aside0.mk hr0
 have HC0:=Aside0.mk hc0
 clear hr0 hc0
 have HB:=Aside0.mk (Below.refl w.heap.size w)
 have H : ((r02_size.f k l0).bind fun t237=>(if 0 ≤ t237 then (if t237 ≤ (l0.length : Int) then (if ([] : List Int).length + (l0.take (t237 : Int).toNat).length < 35184372088832 then (some (([] : List Int) ++ (l0.take (t237 : Int).toNat))) else (none)) else (none)) else (none))) = some r:=h
 clear h
 obtain ⟨t237,A2,H⟩:=ob_ H
 try dsimp only at H
 by_cases c3 : 0 ≤ t237
 ·rw [if_pos c3] at H
  have c3b0:=eq_true c3
  have c3b1 : decide (0 ≤ t237) = true:=decide_eq_true c3
  clear c3
  by_cases c4 : t237 ≤ (l0.length : Int)
  ·rw [if_pos c4] at H
   have c4b0:=eq_true c4
   have c4b1 : decide (t237 ≤ (l0.length : Int)) = true:=decide_eq_true c4
   clear c4
   by_cases c5 : ([] : List Int).length + (l0.take (t237 : Int).toNat).length < 35184372088832
   ·rw [if_pos c5] at H
    have LMc5:=Aside0.mk c5
    clear c5
    obtain ⟨y239,hy239⟩ : ∃ y_ : List Int,y_ = (([] : List Int) ++ (l0.take (t237 : Int).toNat)):=⟨_,rfl⟩
    replace H : (some y239) = some r:=by first|(rw [hy239];with_reducible exact H)|(have H2_:=(Option.bind_some _ _).symm.trans H;rw [hy239];with_reducible exact H2_)|(have H2_:=(Option.bind_some _ _).symm.trans H;with_reducible exact H2_)|with_reducible exact H|(rw [hy239];exact H)|exact H
    have Ny239:=Aside0.mk hy239
    clear hy239
    obtain rfl:=Option.some.inj H
    go_enter Try.func78,Try.ntmps78
    go_wp2_with (first|((with_reducible refine gate_callee (f:=75) rfl ?_);refine goesM (some 7) Try.func75 #[.slice A0 l0.length c0] ?_;(with_reducible refine (r02_size.calls k _ _ l0 t237 _ ?side1 ?side2 A2.out).mono ?_);(case side1=>repeat (first|exact HR0.out|(with_reducible first|apply cA|apply cN|apply cD)));(case side2=>exact HC0.out);rintro e w' ⟨rfl,⟨nd,rfl⟩⟩;refine ⟨_,rfl,?_⟩;obtain ⟨i06,hi06,_,hsz6,_⟩:=info_parts info72;obtain ⟨hcut6,hA6,hC6⟩:=print_take_of (P:=Try.prog) (Value.int .u32) 0 41 72 .i64 Try.underlying41 hi06 hsz6 A0 c0 l0 t237 (of_decide_eq_true (by first|(with_reducible assumption)|assumption)) (of_decide_eq_true (by first|(with_reducible assumption)|assumption)) HC0.out;have HR238:=Aside0.mk (Kd.C_of_reads (h1:=fun _=>rfl) (hA6 _ (Kd.reads_of_C HR0.out)));have HC238:=Aside0.mk hC6;clear hA6 hC6 hi06 hsz6)|((with_reducible refine gate_builtin (b:=.append) (xs:=#[.tmp 4,.tmp 8]) rfl ?_);at_builtin;refine Kd.R_append_rows (Kd.int .u32) (w0:=w) w.heap.size rfl (.tmp 4) (.tmp 8) 41 72 (.int .u32 0) 4 rfl Try.underlying41 info72 rfl (by decide) (by omega) (.slice none 0 0) ([] : List Int) (l0.take (t237 : Int).toNat) _ _ _ (fun _=>True) (fun _=>False) rfl rfl ?aO ?aR (fun _ _ h=>h) (fun _ h=>h.elim) ?aF ?aB ?aS ?aL ?_;(case aR=>first|(refine reads_cast (show (l0.take (t237 : Int).toNat).length = t237.toNat from (by rw [List.length_take];have h_ : (t237 : Int) ≤ (l0.length : Int):=of_decide_eq_true (by first|(with_reducible assumption)|assumption);omega)) ?_;repeat (first|exact HR238.out|(with_reducible first|apply cA|apply cN|apply cD)))|(repeat (first|exact HR238.out|(with_reducible first|apply cA|apply cN|apply cD))));(case aB=>exact (bl_ HB));(case aF=>exact (fun _ _=>trivial));(case aO=>exact ((Kd.R_nil _ _ _ _ (fun _=>True))));(case aS=>exact (below_size (bl_ HB)));(case aL=>have:=LMc5.out;have hlx_:=(show (l0.take (t237 : Int).toNat).length = t237.toNat from (by rw [List.length_take];have h_ : (t237 : Int) ≤ (l0.length : Int):=of_decide_eq_true (by first|(with_reducible assumption)|assumption);omega));omega);intro v240 w7 ho hb hg hat;rw [← Ny239.out] at ho;replace HB:=Aside0.mk (hb);have HO241:=Aside0.mk (ho);clear ho hb hg hat))
    go_ret
    exact ⟨_,rf_,rr_ HO241,bl_ HB⟩
   ·rw [if_neg c5] at H
    exact absurd H (by simp)
  ·rw [if_neg c4] at H
   exact absurd H (by simp)
 ·rw [if_neg c3] at H
  exact absurd H (by simp)

end Go.Proofs.Ytdemanikmaafeaa.Pr
-- written by this session's own program (wip/fprint.py), which widens the kit's print by floats
namespace Go.Proofs.Ytdemanikmaafeaa.Pr
open Go.RowKit Go.Proofs.YtdemanikmaafeaaW.PrintWords Go.Proofs.YtdemanikmaafeaaW.PrintLast Go.Proofs.YtdemanikmaafeaaW.PrintMore
attribute [local go_sem] max2_int min2_int max_two min_two max_three min_three max_four min_four   -- for this text's walks alone
set_option linter.unusedVariables false
set_option linter.unusedSimpArgs false

def r02_Cmp.l0 : Nat → List Int → List Int → Int → Option (Int)
 | 0, _, _, _ => none
 | k + 1, x0, x1, x5 => if x5 ≥ 0 then (if 0 ≤ x5 then (if x5 < (x0.length : Int) then (if x5 < (x1.length : Int) then (if (rd x0 x5) < (rd x1 x5) then (some (-1)) else (if (rd x0 x5) > (rd x1 x5) then (some 1) else (r02_Cmp.l0 k x0 x1 (wrap64 (x5 - 1))))) else (none)) else (none)) else (none)) else (some 0)
def r02_Cmp.f (k : Nat) (l0 : List Int) (l1 : List Int) : Option (Int) := (r02_size.f k l0).bind fun t253 => ((r02_size.f k l1).bind fun t254 => (if t253 = t254 then (r02_Cmp.l0 k l0 l1 (wrap64 (t253 - 1))) else (if t253 < t254 then (some (-1)) else (some 1))))
theorem r02_Cmp.mono_l : ∀ k, (∀ y0 y1 y2, LeO (r02_Cmp.l0 k y0 y1 y2) (r02_Cmp.l0 (k + 1) y0 y1 y2))
 | 0 => fun _ _ _ r h => by simp [r02_Cmp.l0] at h
 | k + 1 => by
  have ih0:=r02_Cmp.mono_l k
  ·intro y0 y1 y2
   unfold r02_Cmp.l0
   repeat' first
   | (with_reducible exact ih0 _ _ _)
   | (with_reducible exact r02_size.mono _ _)
   | (with_reducible exact LeO.refl _)
   | (with_reducible exact LeO.none _)
   | (with_reducible refine LeO.ite ?_ ?_)
   | (with_reducible refine LeO.bind ?_ (fun _ => ?_))
   | exact ih0 _ _ _
   | exact r02_size.mono _ _
   | exact LeO.none _
   | refine LeO.ite ?_ ?_
   | refine LeO.bind ?_ (fun _ => ?_)
theorem r02_Cmp.mono : ∀ a0 a1 k, LeO (r02_Cmp.f k a0 a1) (r02_Cmp.f (k + 1) a0 a1) := by
 intro a0 a1 k
 have ih0:=r02_Cmp.mono_l k
 unfold r02_Cmp.f
 repeat' first
   | (with_reducible exact ih0 _ _ _)
   | (with_reducible exact r02_size.mono _ _)
   | (with_reducible exact LeO.refl _)
   | (with_reducible exact LeO.none _)
   | (with_reducible refine LeO.ite ?_ ?_)
   | (with_reducible refine LeO.bind ?_ (fun _ => ?_))
   | exact ih0 _ _ _
   | exact r02_size.mono _ _
   | exact LeO.none _
   | refine LeO.ite ?_ ?_
   | refine LeO.bind ?_ (fun _ => ?_)
set_option maxHeartbeats 3000000 in
set_option maxRecDepth 100000 in
theorem r02_Cmp.calls (k : Nat) (A0 : Option Addr) (c0 : Nat) (l0 : List Int) (A1 : Option Addr) (c1 : Nat) (l1 : List Int) (r : Int) (w : World) (hr0 : Kd.C (Kd.int .u32) w A0 l0.length l0) (hc0 : l0.length ≤ c0) (hr1 : Kd.C (Kd.int .u32) w A1 l1.length l1) (hc1 : l1.length ≤ c1) (h : r02_Cmp.f k l0 l1 = some r) :
  Calls Try.prog 61 #[.slice A0 l0.length c0,.slice A1 l1.length c1] w fun e w'=>e = .returned (.int .i64 r) ∧ Drawn0 w w':=by
 have HR0:=Aside0.mk hr0
 have HC0:=Aside0.mk hc0
 clear hr0 hc0
 have HR1:=Aside0.mk hr1
 have HC1:=Aside0.mk hc1
 clear hr1 hc1
 have H : ((r02_size.f k l0).bind fun t253=>((r02_size.f k l1).bind fun t254=>(if t253 = t254 then (r02_Cmp.l0 k l0 l1 (wrap64 (t253 - 1))) else (if t253 < t254 then (some (-1)) else (some 1))))) = some r:=h
 clear h
 obtain ⟨t253,A3,H⟩:=ob_ H
 try dsimp only at H
 obtain ⟨t254,A4,H⟩:=ob_ H
 try dsimp only at H
 by_cases c5 : t253 = t254
 ·rw [if_pos c5] at H
  have c5b0 : (t253 == t254) = true:=beq_iff_eq.mpr c5
  have c5b1 : (t253 != t254) = false:=bne_eq_false_iff_eq.mpr c5
  clear c5
  have H':=Aside0.mk H
  clear H
  go_enter Try.func61,Try.ntmps61
  go_wp2_with (first|(go_at_call 75;(with_reducible refine (r02_size.calls k _ _ l0 t253 _ ?side1 ?side2 A3.out).mono ?_);(case side1=>repeat (first|exact HR0.out|(with_reducible first|apply cA|apply cN|apply cD)));(case side2=>exact HC0.out);rintro e w' ⟨rfl,⟨nd,rfl⟩⟩;(try first|exact ⟨rfl,_,World.drewN_drewN _ _ _⟩|exact ⟨rfl,_,Eq.trans (World.drewN_drewN _ _ _) (congrArg (World.drewN _) (Nat.add_assoc _ _ _))⟩))|(go_at_call 75;(with_reducible refine (r02_size.calls k _ _ l1 t254 _ ?side1 ?side2 A4.out).mono ?_);(case side1=>repeat (first|exact HR1.out|(with_reducible first|apply cA|apply cN|apply cD)));(case side2=>exact HC1.out);rintro e w' ⟨rfl,⟨nd,rfl⟩⟩;(try first|exact ⟨rfl,_,World.drewN_drewN _ _ _⟩|exact ⟨rfl,_,Eq.trans (World.drewN_drewN _ _ _) (congrArg (World.drewN _) (Nat.add_assoc _ _ _))⟩)))
  repeat (go_quiet (first|(go_at_call 75;(with_reducible refine (r02_size.calls k _ _ l0 t253 _ ?side1 ?side2 A3.out).mono ?_);(case side1=>repeat (first|exact HR0.out|(with_reducible first|apply cA|apply cN|apply cD)));(case side2=>exact HC0.out);rintro e w' ⟨rfl,⟨nd,rfl⟩⟩;(try first|exact ⟨rfl,_,World.drewN_drewN _ _ _⟩|exact ⟨rfl,_,Eq.trans (World.drewN_drewN _ _ _) (congrArg (World.drewN _) (Nat.add_assoc _ _ _))⟩))|(go_at_call 75;(with_reducible refine (r02_size.calls k _ _ l1 t254 _ ?side1 ?side2 A4.out).mono ?_);(case side1=>repeat (first|exact HR1.out|(with_reducible first|apply cA|apply cN|apply cD)));(case side2=>exact HC1.out);rintro e w' ⟨rfl,⟨nd,rfl⟩⟩;(try first|exact ⟨rfl,_,World.drewN_drewN _ _ _⟩|exact ⟨rfl,_,Eq.trans (World.drewN_drewN _ _ _) (congrArg (World.drewN _) (Nat.add_assoc _ _ _))⟩)));try go_wp2_with (first|(go_at_call 75;(with_reducible refine (r02_size.calls k _ _ l0 t253 _ ?side1 ?side2 A3.out).mono ?_);(case side1=>repeat (first|exact HR0.out|(with_reducible first|apply cA|apply cN|apply cD)));(case side2=>exact HC0.out);rintro e w' ⟨rfl,⟨nd,rfl⟩⟩;(try first|exact ⟨rfl,_,World.drewN_drewN _ _ _⟩|exact ⟨rfl,_,Eq.trans (World.drewN_drewN _ _ _) (congrArg (World.drewN _) (Nat.add_assoc _ _ _))⟩))|(go_at_call 75;(with_reducible refine (r02_size.calls k _ _ l1 t254 _ ?side1 ?side2 A4.out).mono ?_);(case side1=>repeat (first|exact HR1.out|(with_reducible first|apply cA|apply cN|apply cD)));(case side2=>exact HC1.out);rintro e w' ⟨rfl,⟨nd,rfl⟩⟩;(try first|exact ⟨rfl,_,World.drewN_drewN _ _ _⟩|exact ⟨rfl,_,Eq.trans (World.drewN_drewN _ _ _) (congrArg (World.drewN _) (Nat.add_assoc _ _ _))⟩))))
  go_loopg [5] k (fun kq v5 w'=>∃ (x5_1 : Int),v5 = .int .i64 x5_1 ∧ Aside0 (r02_Cmp.l0 kq l0 l1 x5_1 = some r) ∧ Aside0 (kq ≤ k) ∧ Drawn0 w w')
  case atStart=>exact ⟨(wrap64 (t253 - 1)),(by first|rfl|(simp;done)|(simp [*];done)),H',⟨Nat.le_refl _⟩,by repeat (first|exact Drawn0.refl _|apply Drawn0.step)⟩
  case round =>
   clear H'
   try clear c1
   try clear p2
   try clear c5
   try clear c5b0
   try clear c5b1
   obtain ⟨x5_1,rfl,HA,HK1,⟨m1,rfl⟩⟩:=hrel
   cases gk with
   | zero => exact absurd HA.out (by simp [r02_Cmp.l0])
   | succ k1 =>
    have H:=HA.out
    clear HA
    simp only [r02_Cmp.l0] at H
    by_cases c6 : x5_1 ≥ 0
    ·rw [if_pos c6] at H
     have c6b0 : decide (0 ≤ x5_1) = true:=decide_eq_true c6
     clear c6
     by_cases c7 : 0 ≤ x5_1
     ·rw [if_pos c7] at H
      have c7b0 : decide (0 ≤ x5_1) = true:=decide_eq_true c7
      clear c7
      by_cases c8 : x5_1 < (l0.length : Int)
      ·rw [if_pos c8] at H
       have c8b0 : decide (x5_1 < (l0.length : Int)) = true:=decide_eq_true c8
       clear c8
       by_cases c9 : x5_1 < (l1.length : Int)
       ·rw [if_pos c9] at H
        have c9b0 : decide (x5_1 < (l1.length : Int)) = true:=decide_eq_true c9
        clear c9
        by_cases c10 : (rd l0 x5_1) < (rd l1 x5_1)
        ·rw [if_pos c10] at H
         have c10b0 : decide ((rd l0 x5_1) < (rd l1 x5_1)) = true:=decide_eq_true c10
         clear c10
         obtain rfl:=Option.some.inj H
         have p255 : 0 ≤ (x5_1 : Int):=of_decide_eq_true (by first|(with_reducible assumption)|assumption)
         have q255 : x5_1 < (l0.length : Int):=of_decide_eq_true (by first|(with_reducible assumption)|assumption)
         obtain ⟨ad255,e255,hx255_0⟩:=Kd.at_int HR0.out x5_1 p255 q255
         cases e255
         replace p255:=eq_true p255
         replace q255:=eq_true q255
         have p256 : 0 ≤ (x5_1 : Int):=of_decide_eq_true (by first|(with_reducible assumption)|assumption)
         have q256 : x5_1 < (l1.length : Int):=of_decide_eq_true (by first|(with_reducible assumption)|assumption)
         obtain ⟨ad256,e256,hx256_0⟩:=Kd.at_int HR1.out x5_1 p256 q256
         cases e256
         replace p256:=eq_true p256
         replace q256:=eq_true q256
         go_wp2
         repeat (go_quiet (fail);try go_wp2)
         go_ret
         exact ⟨by first|rfl|(simp;done)|(simp [*];done),by repeat (first|exact Drawn0.refl _|apply Drawn0.step)⟩
        ·rw [if_neg c10] at H
         have c10b0 : decide ((rd l0 x5_1) < (rd l1 x5_1)) = false:=decide_eq_false c10
         clear c10
         by_cases c11 : (rd l0 x5_1) > (rd l1 x5_1)
         ·rw [if_pos c11] at H
          have c11b0 : decide ((rd l1 x5_1) < (rd l0 x5_1)) = true:=decide_eq_true c11
          clear c11
          obtain rfl:=Option.some.inj H
          have p255 : 0 ≤ (x5_1 : Int):=of_decide_eq_true (by first|(with_reducible assumption)|assumption)
          have q255 : x5_1 < (l0.length : Int):=of_decide_eq_true (by first|(with_reducible assumption)|assumption)
          obtain ⟨ad255,e255,hx255_0⟩:=Kd.at_int HR0.out x5_1 p255 q255
          cases e255
          replace p255:=eq_true p255
          replace q255:=eq_true q255
          have p256 : 0 ≤ (x5_1 : Int):=of_decide_eq_true (by first|(with_reducible assumption)|assumption)
          have q256 : x5_1 < (l1.length : Int):=of_decide_eq_true (by first|(with_reducible assumption)|assumption)
          obtain ⟨ad256,e256,hx256_0⟩:=Kd.at_int HR1.out x5_1 p256 q256
          cases e256
          replace p256:=eq_true p256
          replace q256:=eq_true q256
          have p257 : 0 ≤ (x5_1 : Int):=of_decide_eq_true (by first|(with_reducible assumption)|assumption)
          have q257 : x5_1 < (l0.length : Int):=of_decide_eq_true (by first|(with_reducible assumption)|assumption)
          obtain ⟨ad257,e257,hx257_0⟩:=Kd.at_int HR0.out x5_1 p257 q257
          obtain rfl : ad255 = ad257:=(by injection e257)
          replace p257:=eq_true p257
          replace q257:=eq_true q257
          have p258 : 0 ≤ (x5_1 : Int):=of_decide_eq_true (by first|(with_reducible assumption)|assumption)
          have q258 : x5_1 < (l1.length : Int):=of_decide_eq_true (by first|(with_reducible assumption)|assumption)
          obtain ⟨ad258,e258,hx258_0⟩:=Kd.at_int HR1.out x5_1 p258 q258
          obtain rfl : ad256 = ad258:=(by injection e258)
          replace p258:=eq_true p258
          replace q258:=eq_true q258
          go_wp2
          repeat (go_quiet (fail);try go_wp2)
          go_ret
          exact ⟨by first|rfl|(simp;done)|(simp [*];done),by repeat (first|exact Drawn0.refl _|apply Drawn0.step)⟩
         ·rw [if_neg c11] at H
          have c11b0 : decide ((rd l1 x5_1) < (rd l0 x5_1)) = false:=decide_eq_false c11
          clear c11
          have H':=Aside0.mk H
          clear H
          have p255 : 0 ≤ (x5_1 : Int):=of_decide_eq_true (by first|(with_reducible assumption)|assumption)
          have q255 : x5_1 < (l0.length : Int):=of_decide_eq_true (by first|(with_reducible assumption)|assumption)
          obtain ⟨ad255,e255,hx255_0⟩:=Kd.at_int HR0.out x5_1 p255 q255
          cases e255
          replace p255:=eq_true p255
          replace q255:=eq_true q255
          have p256 : 0 ≤ (x5_1 : Int):=of_decide_eq_true (by first|(with_reducible assumption)|assumption)
          have q256 : x5_1 < (l1.length : Int):=of_decide_eq_true (by first|(with_reducible assumption)|assumption)
          obtain ⟨ad256,e256,hx256_0⟩:=Kd.at_int HR1.out x5_1 p256 q256
          cases e256
          replace p256:=eq_true p256
          replace q256:=eq_true q256
          have p257 : 0 ≤ (x5_1 : Int):=of_decide_eq_true (by first|(with_reducible assumption)|assumption)
          have q257 : x5_1 < (l0.length : Int):=of_decide_eq_true (by first|(with_reducible assumption)|assumption)
          obtain ⟨ad257,e257,hx257_0⟩:=Kd.at_int HR0.out x5_1 p257 q257
          obtain rfl : ad255 = ad257:=(by injection e257)
          replace p257:=eq_true p257
          replace q257:=eq_true q257
          have p258 : 0 ≤ (x5_1 : Int):=of_decide_eq_true (by first|(with_reducible assumption)|assumption)
          have q258 : x5_1 < (l1.length : Int):=of_decide_eq_true (by first|(with_reducible assumption)|assumption)
          obtain ⟨ad258,e258,hx258_0⟩:=Kd.at_int HR1.out x5_1 p258 q258
          obtain rfl : ad256 = ad258:=(by injection e258)
          replace p258:=eq_true p258
          replace q258:=eq_true q258
          go_wp2
          repeat (go_quiet (fail);try go_wp2)
          go_roundg k1
          case measure=>have:=HK1.out;omega
          case rel=>exact ⟨(wrap64 (x5_1 - 1)),(by first|rfl|(simp;done)|(simp [*];done)),H',⟨by have:=HK1.out;omega⟩,by repeat (first|exact Drawn0.refl _|apply Drawn0.step)⟩
       ·rw [if_neg c9] at H
        exact absurd H (by simp)
      ·rw [if_neg c8] at H
       exact absurd H (by simp)
     ·rw [if_neg c7] at H
      exact absurd H (by simp)
    ·rw [if_neg c6] at H
     have c6b0 : decide (0 ≤ x5_1) = false:=decide_eq_false c6
     clear c6
     obtain rfl:=Option.some.inj H
     go_wp2
     repeat (go_quiet (fail);try go_wp2)
     go_ret
     exact ⟨by first|rfl|(simp;done)|(simp [*];done),by repeat (first|exact Drawn0.refl _|apply Drawn0.step)⟩
 ·rw [if_neg c5] at H
  have c5b0 : (t253 == t254) = false:=beq_eq_false_iff_ne.mpr c5
  have c5b1 : (t253 != t254) = true:=bne_iff_ne.mpr c5
  by_cases c12 : t253 < t254
  ·rw [if_pos c12] at H
   have c12b0 : decide (t253 < t254) = true:=decide_eq_true c12
   clear c12
   obtain rfl:=Option.some.inj H
   go_enter Try.func61,Try.ntmps61
   go_wp2_with (first|(go_at_call 75;(with_reducible refine (r02_size.calls k _ _ l0 t253 _ ?side1 ?side2 A3.out).mono ?_);(case side1=>repeat (first|exact HR0.out|(with_reducible first|apply cA|apply cN|apply cD)));(case side2=>exact HC0.out);rintro e w' ⟨rfl,⟨nd,rfl⟩⟩;(try first|exact ⟨rfl,_,World.drewN_drewN _ _ _⟩|exact ⟨rfl,_,Eq.trans (World.drewN_drewN _ _ _) (congrArg (World.drewN _) (Nat.add_assoc _ _ _))⟩))|(go_at_call 75;(with_reducible refine (r02_size.calls k _ _ l1 t254 _ ?side1 ?side2 A4.out).mono ?_);(case side1=>repeat (first|exact HR1.out|(with_reducible first|apply cA|apply cN|apply cD)));(case side2=>exact HC1.out);rintro e w' ⟨rfl,⟨nd,rfl⟩⟩;(try first|exact ⟨rfl,_,World.drewN_drewN _ _ _⟩|exact ⟨rfl,_,Eq.trans (World.drewN_drewN _ _ _) (congrArg (World.drewN _) (Nat.add_assoc _ _ _))⟩)))
   repeat (go_quiet (first|(go_at_call 75;(with_reducible refine (r02_size.calls k _ _ l0 t253 _ ?side1 ?side2 A3.out).mono ?_);(case side1=>repeat (first|exact HR0.out|(with_reducible first|apply cA|apply cN|apply cD)));(case side2=>exact HC0.out);rintro e w' ⟨rfl,⟨nd,rfl⟩⟩;(try first|exact ⟨rfl,_,World.drewN_drewN _ _ _⟩|exact ⟨rfl,_,Eq.trans (World.drewN_drewN _ _ _) (congrArg (World.drewN _) (Nat.add_assoc _ _ _))⟩))|(go_at_call 75;(with_reducible refine (r02_size.calls k _ _ l1 t254 _ ?side1 ?side2 A4.out).mono ?_);(case side1=>repeat (first|exact HR1.out|(with_reducible first|apply cA|apply cN|apply cD)));(case side2=>exact HC1.out);rintro e w' ⟨rfl,⟨nd,rfl⟩⟩;(try first|exact ⟨rfl,_,World.drewN_drewN _ _ _⟩|exact ⟨rfl,_,Eq.trans (World.drewN_drewN _ _ _) (congrArg (World.drewN _) (Nat.add_assoc _ _ _))⟩)));try go_wp2_with (first|(go_at_call 75;(with_reducible refine (r02_size.calls k _ _ l0 t253 _ ?side1 ?side2 A3.out).mono ?_);(case side1=>repeat (first|exact HR0.out|(with_reducible first|apply cA|apply cN|apply cD)));(case side2=>exact HC0.out);rintro e w' ⟨rfl,⟨nd,rfl⟩⟩;(try first|exact ⟨rfl,_,World.drewN_drewN _ _ _⟩|exact ⟨rfl,_,Eq.trans (World.drewN_drewN _ _ _) (congrArg (World.drewN _) (Nat.add_assoc _ _ _))⟩))|(go_at_call 75;(with_reducible refine (r02_size.calls k _ _ l1 t254 _ ?side1 ?side2 A4.out).mono ?_);(case side1=>repeat (first|exact HR1.out|(with_reducible first|apply cA|apply cN|apply cD)));(case side2=>exact HC1.out);rintro e w' ⟨rfl,⟨nd,rfl⟩⟩;(try first|exact ⟨rfl,_,World.drewN_drewN _ _ _⟩|exact ⟨rfl,_,Eq.trans (World.drewN_drewN _ _ _) (congrArg (World.drewN _) (Nat.add_assoc _ _ _))⟩))))
   go_ret
   exact ⟨by first|rfl|(simp;done)|(simp [*];done),by repeat (first|exact Drawn0.refl _|apply Drawn0.step)⟩
  ·rw [if_neg c12] at H
   have c12b0 : decide (t253 < t254) = false:=decide_eq_false c12
   clear c12
   obtain rfl:=Option.some.inj H
   go_enter Try.func61,Try.ntmps61
   go_wp2_with (first|(go_at_call 75;(with_reducible refine (r02_size.calls k _ _ l0 t253 _ ?side1 ?side2 A3.out).mono ?_);(case side1=>repeat (first|exact HR0.out|(with_reducible first|apply cA|apply cN|apply cD)));(case side2=>exact HC0.out);rintro e w' ⟨rfl,⟨nd,rfl⟩⟩;(try first|exact ⟨rfl,_,World.drewN_drewN _ _ _⟩|exact ⟨rfl,_,Eq.trans (World.drewN_drewN _ _ _) (congrArg (World.drewN _) (Nat.add_assoc _ _ _))⟩))|(go_at_call 75;(with_reducible refine (r02_size.calls k _ _ l1 t254 _ ?side1 ?side2 A4.out).mono ?_);(case side1=>repeat (first|exact HR1.out|(with_reducible first|apply cA|apply cN|apply cD)));(case side2=>exact HC1.out);rintro e w' ⟨rfl,⟨nd,rfl⟩⟩;(try first|exact ⟨rfl,_,World.drewN_drewN _ _ _⟩|exact ⟨rfl,_,Eq.trans (World.drewN_drewN _ _ _) (congrArg (World.drewN _) (Nat.add_assoc _ _ _))⟩)))
   repeat (go_quiet (first|(go_at_call 75;(with_reducible refine (r02_size.calls k _ _ l0 t253 _ ?side1 ?side2 A3.out).mono ?_);(case side1=>repeat (first|exact HR0.out|(with_reducible first|apply cA|apply cN|apply cD)));(case side2=>exact HC0.out);rintro e w' ⟨rfl,⟨nd,rfl⟩⟩;(try first|exact ⟨rfl,_,World.drewN_drewN _ _ _⟩|exact ⟨rfl,_,Eq.trans (World.drewN_drewN _ _ _) (congrArg (World.drewN _) (Nat.add_assoc _ _ _))⟩))|(go_at_call 75;(with_reducible refine (r02_size.calls k _ _ l1 t254 _ ?side1 ?side2 A4.out).mono ?_);(case side1=>repeat (first|exact HR1.out|(with_reducible first|apply cA|apply cN|apply cD)));(case side2=>exact HC1.out);rintro e w' ⟨rfl,⟨nd,rfl⟩⟩;(try first|exact ⟨rfl,_,World.drewN_drewN _ _ _⟩|exact ⟨rfl,_,Eq.trans (World.drewN_drewN _ _ _) (congrArg (World.drewN _) (Nat.add_assoc _ _ _))⟩)));try go_wp2_with (first|(go_at_call 75;(with_reducible refine (r02_size.calls k _ _ l0 t253 _ ?side1 ?side2 A3.out).mono ?_);(case side1=>repeat (first|exact HR0.out|(with_reducible first|apply cA|apply cN|apply cD)));(case side2=>exact HC0.out);rintro e w' ⟨rfl,⟨nd,rfl⟩⟩;(try first|exact ⟨rfl,_,World.drewN_drewN _ _ _⟩|exact ⟨rfl,_,Eq.trans (World.drewN_drewN _ _ _) (congrArg (World.drewN _) (Nat.add_assoc _ _ _))⟩))|(go_at_call 75;(with_reducible refine (r02_size.calls k _ _ l1 t254 _ ?side1 ?side2 A4.out).mono ?_);(case side1=>repeat (first|exact HR1.out|(with_reducible first|apply cA|apply cN|apply cD)));(case side2=>exact HC1.out);rintro e w' ⟨rfl,⟨nd,rfl⟩⟩;(try first|exact ⟨rfl,_,World.drewN_drewN _ _ _⟩|exact ⟨rfl,_,Eq.trans (World.drewN_drewN _ _ _) (congrArg (World.drewN _) (Nat.add_assoc _ _ _))⟩))))
   go_ret
   exact ⟨by first|rfl|(simp;done)|(simp [*];done),by repeat (first|exact Drawn0.refl _|apply Drawn0.step)⟩

def r02_at.f (l0 : List Int) (a1 : Int) : Option (Int) := if a1 ≥ (l0.length : Int) then (some 0) else (if 0 ≤ a1 then (if a1 < (l0.length : Int) then (some (IntKind.u64.wrap (rd l0 a1))) else (none)) else (none))
set_option maxHeartbeats 3000000 in
set_option maxRecDepth 100000 in
theorem r02_at.calls (A0 : Option Addr) (c0 : Nat) (l0 : List Int) (a1 : Int) (r : Int) (w : World) (hr0 : Kd.C (Kd.int .u32) w A0 l0.length l0) (hc0 : l0.length ≤ c0) (h : r02_at.f l0 a1 = some r) :
  Calls Try.prog 79 #[.slice A0 l0.length c0,.int .i64 a1] w fun e w'=>e = .returned (.int .u64 r) ∧ Drawn0 w w':=by
 have HR0:=Aside0.mk hr0
 have HC0:=Aside0.mk hc0
 clear hr0 hc0
 have H : (if a1 ≥ (l0.length : Int) then (some 0) else (if 0 ≤ a1 then (if a1 < (l0.length : Int) then (some (IntKind.u64.wrap (rd l0 a1))) else (none)) else (none))) = some r:=h
 clear h
 by_cases c3 : a1 ≥ (l0.length : Int)
 ·rw [if_pos c3] at H
  have c3b0 : decide ((l0.length : Int) ≤ a1) = true:=decide_eq_true c3
  clear c3
  obtain rfl:=Option.some.inj H
  go_enter Try.func79,Try.ntmps79
  go_wp2
  go_ret
  exact ⟨by first|rfl|(simp;done)|(simp [*];done),by repeat (first|exact Drawn0.refl _|apply Drawn0.step)⟩
 ·rw [if_neg c3] at H
  have c3b0 : decide ((l0.length : Int) ≤ a1) = false:=decide_eq_false c3
  clear c3
  by_cases c4 : 0 ≤ a1
  ·rw [if_pos c4] at H
   have c4b0 : decide (0 ≤ a1) = true:=decide_eq_true c4
   clear c4
   by_cases c5 : a1 < (l0.length : Int)
   ·rw [if_pos c5] at H
    have c5b0 : decide (a1 < (l0.length : Int)) = true:=decide_eq_true c5
    clear c5
    obtain rfl:=Option.some.inj H
    have p259 : 0 ≤ (a1 : Int):=of_decide_eq_true (by first|(with_reducible assumption)|assumption)
    have q259 : a1 < (l0.length : Int):=of_decide_eq_true (by first|(with_reducible assumption)|assumption)
    obtain ⟨ad259,e259,hx259_0⟩:=Kd.at_int HR0.out a1 p259 q259
    cases e259
    replace p259:=eq_true p259
    replace q259:=eq_true q259
    go_enter Try.func79,Try.ntmps79
    go_wp2
    go_ret
    exact ⟨by first|rfl|(simp;done)|(simp [*];done),by repeat (first|exact Drawn0.refl _|apply Drawn0.step)⟩
   ·rw [if_neg c5] at H
    exact absurd H (by simp)
  ·rw [if_neg c4] at H
   exact absurd H (by simp)

end Go.Proofs.Ytdemanikmaafeaa.Pr
-- written by this session's own program (wip/fprint.py), which widens the kit's print by floats
namespace Go.Proofs.Ytdemanikmaafeaa.Pr
open Go.RowKit Go.Proofs.YtdemanikmaafeaaW.PrintWords Go.Proofs.YtdemanikmaafeaaW.PrintLast Go.Proofs.YtdemanikmaafeaaW.PrintMore
attribute [local go_sem] max2_int min2_int max_two min_two max_three min_three max_four min_four   -- for this text's walks alone
set_option linter.unusedVariables false
set_option linter.unusedSimpArgs false

mutual
def r02_Times.l0 : Nat → List Int → List Int → List Int → Int → Option (List Int)
 | 0, _, _, _, _ => none
 | k + 1, x0, x1, x5, x6 => if x6 < (x0.length : Int) then (r02_Times.l1 k x0 x1 x5 x6 0 0) else ((r02_Norm.f k x5).bind fun t245 => (some t245))
def r02_Times.l1 : Nat → List Int → List Int → List Int → Int → Int → Int → Option (List Int)
 | 0, _, _, _, _, _, _ => none
 | k + 1, x0, x1, x5, x6, x7, x8 => if x8 < (x1.length : Int) then (if 0 ≤ x6 then (if x6 < (x0.length : Int) then (if 0 ≤ x8 then (if 0 ≤ (wrap64 (x6 + x8)) then (if (wrap64 (x6 + x8)) < (x5.length : Int) then (r02_Times.l1 k x0 x1 (x5.set ((wrap64 (x6 + x8)) : Int).toNat ((IntKind.u64.wrap ((IntKind.u64.wrap ((IntKind.u64.wrap ((IntKind.u64.wrap (rd x0 x6)) * (IntKind.u64.wrap (rd x1 x8)))) + (IntKind.u64.wrap (rd x5 (wrap64 (x6 + x8)))))) + x7)) % 4294967296)) x6 ((IntKind.u64.wrap ((IntKind.u64.wrap ((IntKind.u64.wrap ((IntKind.u64.wrap (rd x0 x6)) * (IntKind.u64.wrap (rd x1 x8)))) + (IntKind.u64.wrap (rd x5 (wrap64 (x6 + x8)))))) + x7)) / 4294967296) (wrap64 (x8 + 1))) else (none)) else (none)) else (none)) else (none)) else (none)) else (if 0 ≤ (wrap64 (x6 + (x1.length : Int))) then (if (wrap64 (x6 + (x1.length : Int))) < (x5.length : Int) then (r02_Times.l0 k x0 x1 (x5.set ((wrap64 (x6 + (x1.length : Int))) : Int).toNat ((x7) % 4294967296)) (wrap64 (x6 + 1))) else (none)) else (none))
end
def r02_Times.f (k : Nat) (l0 : List Int) (l1 : List Int) : Option (List Int) := if 0 ≤ (wrap64 ((l0.length : Int) + (l1.length : Int))) then (if (wrap64 ((l0.length : Int) + (l1.length : Int)) : Int).toNat ≤ 70368744177664 then (r02_Times.l0 k l0 l1 (List.replicate (wrap64 ((l0.length : Int) + (l1.length : Int)) : Int).toNat 0) 0) else (none)) else (none)
theorem r02_Times.mono_l : ∀ k, (∀ y0 y1 y2 y3, LeO (r02_Times.l0 k y0 y1 y2 y3) (r02_Times.l0 (k + 1) y0 y1 y2 y3)) ∧ (∀ y0 y1 y2 y3 y4 y5, LeO (r02_Times.l1 k y0 y1 y2 y3 y4 y5) (r02_Times.l1 (k + 1) y0 y1 y2 y3 y4 y5))
 | 0 => ⟨fun _ _ _ _ r h => by simp [r02_Times.l0] at h, fun _ _ _ _ _ _ r h => by simp [r02_Times.l1] at h⟩
 | k + 1 => by
  obtain ⟨ih0,ih1⟩:=r02_Times.mono_l k
  refine ⟨?_,?_⟩
  ·intro y0 y1 y2 y3
   unfold r02_Times.l0
   repeat' first
   | (with_reducible exact ih0 _ _ _ _)
   | (with_reducible exact ih1 _ _ _ _ _ _)
   | (with_reducible exact r02_Norm.mono _ _)
   | (with_reducible exact LeO.refl _)
   | (with_reducible exact LeO.none _)
   | (with_reducible refine LeO.ite ?_ ?_)
   | (with_reducible refine LeO.bind ?_ (fun _ => ?_))
   | exact ih0 _ _ _ _
   | exact ih1 _ _ _ _ _ _
   | exact r02_Norm.mono _ _
   | exact LeO.none _
   | refine LeO.ite ?_ ?_
   | refine LeO.bind ?_ (fun _ => ?_)
  ·intro y0 y1 y2 y3 y4 y5
   unfold r02_Times.l1
   repeat' first
   | (with_reducible exact ih0 _ _ _ _)
   | (with_reducible exact ih1 _ _ _ _ _ _)
   | (with_reducible exact r02_Norm.mono _ _)
   | (with_reducible exact LeO.refl _)
   | (with_reducible exact LeO.none _)
   | (with_reducible refine LeO.ite ?_ ?_)
   | (with_reducible refine LeO.bind ?_ (fun _ => ?_))
   | exact ih0 _ _ _ _
   | exact ih1 _ _ _ _ _ _
   | exact r02_Norm.mono _ _
   | exact LeO.none _
   | refine LeO.ite ?_ ?_
   | refine LeO.bind ?_ (fun _ => ?_)
theorem r02_Times.mono : ∀ a0 a1 k, LeO (r02_Times.f k a0 a1) (r02_Times.f (k + 1) a0 a1) := by
 intro a0 a1 k
 obtain ⟨ih0,ih1⟩:=r02_Times.mono_l k
 unfold r02_Times.f
 repeat' first
   | (with_reducible exact ih0 _ _ _ _)
   | (with_reducible exact ih1 _ _ _ _ _ _)
   | (with_reducible exact r02_Norm.mono _ _)
   | (with_reducible exact LeO.refl _)
   | (with_reducible exact LeO.none _)
   | (with_reducible refine LeO.ite ?_ ?_)
   | (with_reducible refine LeO.bind ?_ (fun _ => ?_))
   | exact ih0 _ _ _ _
   | exact ih1 _ _ _ _ _ _
   | exact r02_Norm.mono _ _
   | exact LeO.none _
   | refine LeO.ite ?_ ?_
   | refine LeO.bind ?_ (fun _ => ?_)
set_option maxHeartbeats 3000000 in
set_option maxRecDepth 100000 in
theorem r02_Times.calls (k : Nat) (A0 : Option Addr) (c0 : Nat) (l0 : List Int) (A1 : Option Addr) (c1 : Nat) (l1 : List Int) (r : List Int) (w : World) (hr0 : Kd.C (Kd.int .u32) w A0 l0.length l0) (hc0 : l0.length ≤ c0) (hr1 : Kd.C (Kd.int .u32) w A1 l1.length l1) (hc1 : l1.length ≤ c1) (h : r02_Times.f k l0 l1 = some r) :
  Calls Try.prog 63 #[.slice A0 l0.length c0,.slice A1 l1.length c1] w fun e w'=>∃ v0_ : Value,e = .returned (v0_) ∧ Kd.R (Kd.int .u32) 72 w' w.heap.size (fun _=>True) v0_ r ∧ Below w.heap.size w w':=by
 have HR0:=Aside0.mk hr0
 have HC0:=Aside0.mk hc0
 clear hr0 hc0
 have HR1:=Aside0.mk hr1
 have HC1:=Aside0.mk hc1
 clear hr1 hc1
 have HB:=Aside0.mk (Below.refl w.heap.size w)
 have H : (if 0 ≤ (wrap64 ((l0.length : Int) + (l1.length : Int))) then (if (wrap64 ((l0.length : Int) + (l1.length : Int)) : Int).toNat ≤ 70368744177664 then (r02_Times.l0 k l0 l1 (List.replicate (wrap64 ((l0.length : Int) + (l1.length : Int)) : Int).toNat 0) 0) else (none)) else (none)) = some r:=h
 clear h
 obtain ⟨ji3,hji3⟩ : ∃ j_ : Int,(wrap64 ((l0.length : Int) + (l1.length : Int))) = j_:=⟨_,rfl⟩
 replace H : (if 0 ≤ (ji3) then (if (ji3 : Int).toNat ≤ 70368744177664 then (r02_Times.l0 k l0 l1 (List.replicate (ji3 : Int).toNat 0) 0) else (none)) else (none)) = some r:=by first|(rw [hji3] at H;exact H)|(simp only [hji3] at H ⊢;exact H)
 have hji3w : (IntKind.i64.wrap ((l0.length : Int) + (l1.length : Int))) = ji3:=(i64_w _).trans hji3
 by_cases c4 : 0 ≤ (ji3)
 ·rw [if_pos c4] at H
  have c4b0:=eq_true c4
  have c4b1 : decide (0 ≤ (ji3)) = true:=decide_eq_true c4
  clear c4
  by_cases c5 : (ji3 : Int).toNat ≤ 70368744177664
  ·rw [if_pos c5] at H
   have c5b0:=eq_true c5
   have c5b1 : decide ((ji3 : Int).toNat ≤ 70368744177664) = true:=decide_eq_true c5
   clear c5
   obtain ⟨y242,hy242⟩ : ∃ y_ : List Int,y_ = (List.replicate (ji3 : Int).toNat 0):=⟨_,rfl⟩
   replace H : (r02_Times.l0 k l0 l1 y242 0) = some r:=by first|(rw [hy242];with_reducible exact H)|(have H2_:=(Option.bind_some _ _).symm.trans H;rw [hy242];with_reducible exact H2_)|(have H2_:=(Option.bind_some _ _).symm.trans H;with_reducible exact H2_)|with_reducible exact H|(rw [hy242];exact H)|exact H
   have Ny242:=Aside0.mk hy242
   clear hy242
   have H':=Aside0.mk H
   clear H
   go_enter Try.func63,Try.ntmps63
   go_wp2_with (first|((with_reducible refine gate_dst (N:=15) rfl ?_);refine Kd.R_make (Kd.int .u32) _ 72 rfl (N:=15) rfl 41 _ _ rfl ji3 rfl rfl Try.underlying41 (.int .u32 0) 4 info72 rfl (by decide) (by omega) 0 (ok:=fun _=>True) (okp:=fun _=>True) rfl (fun _ hk=>hk) trivial (of_decide_eq_true (by first|(with_reducible assumption)|assumption)) (Nat.le_trans (Nat.mul_le_mul_right _ (of_decide_eq_true (by first|(with_reducible assumption)|assumption) : ji3.toNat ≤ 70368744177664)) (by omega)) (Below.refl _ _) (Nat.le_refl _) ?_;intro v243 w6 ho7 hb hg_ hnew_;clear hg_ hnew_;(first|rw [← Ny242.out] at ho7|(simp only [Int.reduceToNat] at ho7;rw [← Ny242.out] at ho7));have HO244:=Aside0.mk (Kd.R_lower ho7 (below_size (bl_ HB)));replace HB:=bs_ HB hb;clear hb ho7))
   repeat (go_quiet (first|((with_reducible refine gate_dst (N:=15) rfl ?_);refine Kd.R_make (Kd.int .u32) _ 72 rfl (N:=15) rfl 41 _ _ rfl ji3 rfl rfl Try.underlying41 (.int .u32 0) 4 info72 rfl (by decide) (by omega) 0 (ok:=fun _=>True) (okp:=fun _=>True) rfl (fun _ hk=>hk) trivial (of_decide_eq_true (by first|(with_reducible assumption)|assumption)) (Nat.le_trans (Nat.mul_le_mul_right _ (of_decide_eq_true (by first|(with_reducible assumption)|assumption) : ji3.toNat ≤ 70368744177664)) (by omega)) (Below.refl _ _) (Nat.le_refl _) ?_;intro v243 w6 ho7 hb hg_ hnew_;clear hg_ hnew_;(first|rw [← Ny242.out] at ho7|(simp only [Int.reduceToNat] at ho7;rw [← Ny242.out] at ho7));have HO244:=Aside0.mk (Kd.R_lower ho7 (below_size (bl_ HB)));replace HB:=bs_ HB hb;clear hb ho7));try go_wp2_with (first|((with_reducible refine gate_dst (N:=15) rfl ?_);refine Kd.R_make (Kd.int .u32) _ 72 rfl (N:=15) rfl 41 _ _ rfl ji3 rfl rfl Try.underlying41 (.int .u32 0) 4 info72 rfl (by decide) (by omega) 0 (ok:=fun _=>True) (okp:=fun _=>True) rfl (fun _ hk=>hk) trivial (of_decide_eq_true (by first|(with_reducible assumption)|assumption)) (Nat.le_trans (Nat.mul_le_mul_right _ (of_decide_eq_true (by first|(with_reducible assumption)|assumption) : ji3.toNat ≤ 70368744177664)) (by omega)) (Below.refl _ _) (Nat.le_refl _) ?_;intro v243 w6 ho7 hb hg_ hnew_;clear hg_ hnew_;(first|rw [← Ny242.out] at ho7|(simp only [Int.reduceToNat] at ho7;rw [← Ny242.out] at ho7));have HO244:=Aside0.mk (Kd.R_lower ho7 (below_size (bl_ HB)));replace HB:=bs_ HB hb;clear hb ho7)))
   go_loopg [6] k (fun kq v6 w'=>∃ (x5_1 : List Int) (x6_1 : Int),v6 = .int .i64 x6_1 ∧ Aside0 (r02_Times.l0 kq l0 l1 x5_1 x6_1 = some r) ∧ Aside0 (kq ≤ k) ∧ Aside0 (Kd.R (Kd.int .u32) 72 w' w.heap.size (fun _=>True) v243 x5_1) ∧ Aside0 (Below w.heap.size w w'))
   case atStart=>exact ⟨(y242),(0),(by first|rfl|(simp;done)|(simp [*];done)),H',⟨Nat.le_refl _⟩,⟨rr_ HO244⟩,⟨bl_ HB⟩⟩
   case round =>
    clear H'
    try clear c1
    try clear p2
    try clear c4
    try clear c4b0
    try clear c4b1
    try clear c5
    try clear c5b0
    try clear c5b1
    try clear c6
    try clear p6
    obtain ⟨x5_1,x6_1,rfl,HA,HK1,HO_5,HB⟩:=hrel
    cases gk with
    | zero => exact absurd HA.out (by simp [r02_Times.l0])
    | succ k1 =>
     have H:=HA.out
     clear HA
     simp only [r02_Times.l0] at H
     by_cases c8 : x6_1 < (l0.length : Int)
     ·rw [if_pos c8] at H
      have c8b0 : decide (x6_1 < (l0.length : Int)) = true:=decide_eq_true c8
      clear c8
      have H':=Aside0.mk H
      clear H
      go_wp2
      repeat (go_quiet (fail);try go_wp2)
      go_loopg [7,8] k1 (fun kq v7 v8 w'=>∃ (x5_2 : List Int) (x7_2 : Int) (x8_2 : Int),v7 = .int .u64 x7_2 ∧ v8 = .int .i64 x8_2 ∧ Aside0 (r02_Times.l1 kq l0 l1 x5_2 x6_1 x7_2 x8_2 = some r) ∧ Aside0 (kq ≤ k1) ∧ Aside0 (Kd.R (Kd.int .u32) 72 w' w.heap.size (fun _=>True) v243 x5_2) ∧ Aside0 (Below w.heap.size w w'))
      case atStart=>exact ⟨(x5_1),(0),(0),(by first|rfl|(simp;done)|(simp [*];done)),(by first|rfl|(simp;done)|(simp [*];done)),H',⟨Nat.le_refl _⟩,⟨rr_ HO_5⟩,⟨bl_ HB⟩⟩
      case round =>
       clear H'
       try clear c1
       try clear p2
       try clear c4
       try clear c4b0
       try clear c4b1
       try clear c5
       try clear c5b0
       try clear c5b1
       try clear c6
       try clear p6
       try clear c8
       try clear c8b0
       try clear p2
       try clear p6
       obtain ⟨x5_2,x7_2,x8_2,rfl,rfl,HA,HK2,HO_5,HB⟩:=hrel
       cases gk with
       | zero => exact absurd HA.out (by simp [r02_Times.l1])
       | succ k2 =>
        have H:=HA.out
        clear HA
        simp only [r02_Times.l1] at H
        by_cases c9 : x8_2 < (l1.length : Int)
        ·rw [if_pos c9] at H
         have c9b0 : decide (x8_2 < (l1.length : Int)) = true:=decide_eq_true c9
         clear c9
         by_cases c10 : 0 ≤ x6_1
         ·rw [if_pos c10] at H
          have c10b0 : decide (0 ≤ x6_1) = true:=decide_eq_true c10
          clear c10
          by_cases c11 : x6_1 < (l0.length : Int)
          ·rw [if_pos c11] at H
           have c11b0 : decide (x6_1 < (l0.length : Int)) = true:=decide_eq_true c11
           clear c11
           by_cases c12 : 0 ≤ x8_2
           ·rw [if_pos c12] at H
            have c12b0 : decide (0 ≤ x8_2) = true:=decide_eq_true c12
            clear c12
            obtain ⟨ji13,hji13⟩ : ∃ j_ : Int,(wrap64 (x6_1 + x8_2)) = j_:=⟨_,rfl⟩
            replace H : (if 0 ≤ (ji13) then (if (ji13) < (x5_2.length : Int) then (r02_Times.l1 k2 l0 l1 (x5_2.set ((ji13) : Int).toNat ((IntKind.u64.wrap ((IntKind.u64.wrap ((IntKind.u64.wrap ((IntKind.u64.wrap (rd l0 x6_1)) * (IntKind.u64.wrap (rd l1 x8_2)))) + (IntKind.u64.wrap (rd x5_2 (ji13))))) + x7_2)) % 4294967296)) x6_1 ((IntKind.u64.wrap ((IntKind.u64.wrap ((IntKind.u64.wrap ((IntKind.u64.wrap (rd l0 x6_1)) * (IntKind.u64.wrap (rd l1 x8_2)))) + (IntKind.u64.wrap (rd x5_2 (ji13))))) + x7_2)) / 4294967296) (wrap64 (x8_2 + 1))) else (none)) else (none)) = some r:=by first|(rw [hji13] at H;exact H)|(simp only [hji13] at H ⊢;exact H)
            have hji13w : (IntKind.i64.wrap (x6_1 + x8_2)) = ji13:=(i64_w _).trans hji13
            by_cases c14 : 0 ≤ (ji13)
            ·rw [if_pos c14] at H
             have c14b0 : decide (0 ≤ (ji13)) = true:=decide_eq_true c14
             clear c14
             by_cases c15 : (ji13) < (x5_2.length : Int)
             ·rw [if_pos c15] at H
              have c15b0 : decide ((ji13) < (x5_2.length : Int)) = true:=decide_eq_true c15
              clear c15
              obtain ⟨y251,hy251⟩ : ∃ y_ : List Int,y_ = (x5_2.set ((ji13) : Int).toNat ((IntKind.u64.wrap ((IntKind.u64.wrap ((IntKind.u64.wrap ((IntKind.u64.wrap (rd l0 x6_1)) * (IntKind.u64.wrap (rd l1 x8_2)))) + (IntKind.u64.wrap (rd x5_2 (ji13))))) + x7_2)) % 4294967296)):=⟨_,rfl⟩
              replace H : (r02_Times.l1 k2 l0 l1 y251 x6_1 ((IntKind.u64.wrap ((IntKind.u64.wrap ((IntKind.u64.wrap ((IntKind.u64.wrap (rd l0 x6_1)) * (IntKind.u64.wrap (rd l1 x8_2)))) + (IntKind.u64.wrap (rd x5_2 (ji13))))) + x7_2)) / 4294967296) (wrap64 (x8_2 + 1))) = some r:=by first|(rw [hy251];with_reducible exact H)|(have H2_:=(Option.bind_some _ _).symm.trans H;rw [hy251];with_reducible exact H2_)|(have H2_:=(Option.bind_some _ _).symm.trans H;with_reducible exact H2_)|with_reducible exact H|(rw [hy251];exact H)|exact H
              have Ny251:=Aside0.mk hy251
              clear hy251
              have H':=Aside0.mk H
              clear H
              have p248 : 0 ≤ (x6_1 : Int):=of_decide_eq_true (by first|(with_reducible assumption)|assumption)
              have q248 : x6_1 < (l0.length : Int):=of_decide_eq_true (by first|(with_reducible assumption)|assumption)
              obtain ⟨ad248,e248,hx248_0⟩:=Kd.at_int HR0.out x6_1 p248 q248
              cases e248
              replace hx248_0:=(HB.out.cell (World.block_lt_of_cell? w _ hx248_0)).trans hx248_0
              replace p248:=eq_true p248
              replace q248:=eq_true q248
              have p249 : 0 ≤ (x8_2 : Int):=of_decide_eq_true (by first|(with_reducible assumption)|assumption)
              have q249 : x8_2 < (l1.length : Int):=of_decide_eq_true (by first|(with_reducible assumption)|assumption)
              obtain ⟨ad249,e249,hx249_0⟩:=Kd.at_int HR1.out x8_2 p249 q249
              cases e249
              replace hx249_0:=(HB.out.cell (World.block_lt_of_cell? w _ hx249_0)).trans hx249_0
              replace p249:=eq_true p249
              replace q249:=eq_true q249
              obtain ⟨Ao17,co17,eo17⟩:=Kd.R_slice HO_5.out
              subst eo17
              have p250 : 0 ≤ ((ji13) : Int):=of_decide_eq_true (by first|(with_reducible assumption)|assumption)
              have q250 : (ji13) < (x5_2.length : Int):=of_decide_eq_true (by first|(with_reducible assumption)|assumption)
              obtain ⟨ad250,e250,hx250_0⟩:=Kd.at_int (Kd.R_reads' HO_5.out).2.2 (ji13) p250 q250
              cases e250
              replace p250:=eq_true p250
              replace q250:=eq_true q250
              have p16 : 0 ≤ ((ji13) : Int):=of_decide_eq_true (by first|(with_reducible assumption)|assumption)
              have q16 : ((ji13) : Int) < ((x5_2.length : Int) : Int):=of_decide_eq_true (by first|(with_reducible assumption)|assumption)
              obtain ⟨go16,co16,eo16,gb16,gl16,cl16,HG16⟩:=Kd.R_form HO_5.out (by omega)
              (first|cases eo16|(injection eo16 with ea_ en_ ec_;(first|subst ea_|(injection ea_ with ea_;subst ea_));subst ec_;clear en_))
              have GB16:=Aside0.mk gb16
              have GG16:=Aside0.mk HG16
              clear gb16 gl16 HG16
              (first|simp only [add_plain] at hx250_0|skip)
              obtain ⟨hx16_0,hf16_0⟩:=Kd.R_celln 0 HO_5.out ((ji13) : Int) p16 q16
              replace p16:=eq_true p16
              replace q16:=eq_true q16
              have HP18:=Kd.R_putg HO_5.out ((ji13) : Int) ((IntKind.u64.wrap ((IntKind.u64.wrap ((IntKind.u64.wrap ((IntKind.u64.wrap (rd l0 x6_1)) * (IntKind.u64.wrap (rd l1 x8_2)))) + (IntKind.u64.wrap (rd x5_2 (ji13))))) + x7_2)) % 4294967296)
              go_wp2_with (first|((with_reducible refine gate_store (t:=72) (p:=55) rfl ?_);(try (rw [drewN_self wr];generalize hq_ : World.drewN wr _ = wr;have HO_5:=Aside0.mk (Kd.R_at hq_ HO_5.out);have HB:=Aside0.mk (below_at hq_ HB.out);(try (have HP18:=Kd.R_putg HO_5.out ((ji13) : Int) ((IntKind.u64.wrap ((IntKind.u64.wrap ((IntKind.u64.wrap ((IntKind.u64.wrap (rd l0 x6_1)) * (IntKind.u64.wrap (rd l1 x8_2)))) + (IntKind.u64.wrap (rd x5_2 (ji13))))) + x7_2)) % 4294967296)));(try (obtain ⟨hx16_0,hf16_0⟩:=Kd.R_celln 0 HO_5.out ((ji13) : Int) (of_eq_true p16) (of_eq_true q16)))));refine store_event (t:=72) (p:=55) (v:=?vo_w19) (w1:=(wr.setCell ⟨go16,((ji13) : Int).toNat,none⟩ (.int .u32 ((IntKind.u64.wrap ((IntKind.u64.wrap ((IntKind.u64.wrap ((IntKind.u64.wrap (rd l0 x6_1)) * (IntKind.u64.wrap (rd l1 x8_2)))) + (IntKind.u64.wrap (rd x5_2 (ji13))))) + x7_2)) % 4294967296)))) ?hg ?ho ?hn ?hr ?_;(case ho=>rfl);(case hg=>rfl);(case hn=>rfl);(case hr=>first|(go_simp;done)|(go_simp;rfl));intro w19 hw;have hg : wr.grownBy w19 (some go16):=(by rw [hw];exact HP18.2);have hp_ : Kd.R (Kd.int .u32) 72 w19 w.heap.size (fun _=>True) (.slice (some ⟨go16,0,none⟩) x5_2.length co17) y251:=(by rw [hw,Ny251.out];exact HP18.1);clear HP18;replace HO_5:=Aside0.mk (hp_);replace HB:=Aside0.mk ((by rw [hw];exact below_set (HB.out) GB16.out : Below w.heap.size w w19));clear hg hw hp_))
              repeat (go_quiet (first|((with_reducible refine gate_store (t:=72) (p:=55) rfl ?_);(try (rw [drewN_self wr];generalize hq_ : World.drewN wr _ = wr;have HO_5:=Aside0.mk (Kd.R_at hq_ HO_5.out);have HB:=Aside0.mk (below_at hq_ HB.out);(try (have HP18:=Kd.R_putg HO_5.out ((ji13) : Int) ((IntKind.u64.wrap ((IntKind.u64.wrap ((IntKind.u64.wrap ((IntKind.u64.wrap (rd l0 x6_1)) * (IntKind.u64.wrap (rd l1 x8_2)))) + (IntKind.u64.wrap (rd x5_2 (ji13))))) + x7_2)) % 4294967296)));(try (obtain ⟨hx16_0,hf16_0⟩:=Kd.R_celln 0 HO_5.out ((ji13) : Int) (of_eq_true p16) (of_eq_true q16)))));refine store_event (t:=72) (p:=55) (v:=?vo_w19) (w1:=(wr.setCell ⟨go16,((ji13) : Int).toNat,none⟩ (.int .u32 ((IntKind.u64.wrap ((IntKind.u64.wrap ((IntKind.u64.wrap ((IntKind.u64.wrap (rd l0 x6_1)) * (IntKind.u64.wrap (rd l1 x8_2)))) + (IntKind.u64.wrap (rd x5_2 (ji13))))) + x7_2)) % 4294967296)))) ?hg ?ho ?hn ?hr ?_;(case ho=>rfl);(case hg=>rfl);(case hn=>rfl);(case hr=>first|(go_simp;done)|(go_simp;rfl));intro w19 hw;have hg : wr.grownBy w19 (some go16):=(by rw [hw];exact HP18.2);have hp_ : Kd.R (Kd.int .u32) 72 w19 w.heap.size (fun _=>True) (.slice (some ⟨go16,0,none⟩) x5_2.length co17) y251:=(by rw [hw,Ny251.out];exact HP18.1);clear HP18;replace HO_5:=Aside0.mk (hp_);replace HB:=Aside0.mk ((by rw [hw];exact below_set (HB.out) GB16.out : Below w.heap.size w w19));clear hg hw hp_));try go_wp2_with (first|((with_reducible refine gate_store (t:=72) (p:=55) rfl ?_);(try (rw [drewN_self wr];generalize hq_ : World.drewN wr _ = wr;have HO_5:=Aside0.mk (Kd.R_at hq_ HO_5.out);have HB:=Aside0.mk (below_at hq_ HB.out);(try (have HP18:=Kd.R_putg HO_5.out ((ji13) : Int) ((IntKind.u64.wrap ((IntKind.u64.wrap ((IntKind.u64.wrap ((IntKind.u64.wrap (rd l0 x6_1)) * (IntKind.u64.wrap (rd l1 x8_2)))) + (IntKind.u64.wrap (rd x5_2 (ji13))))) + x7_2)) % 4294967296)));(try (obtain ⟨hx16_0,hf16_0⟩:=Kd.R_celln 0 HO_5.out ((ji13) : Int) (of_eq_true p16) (of_eq_true q16)))));refine store_event (t:=72) (p:=55) (v:=?vo_w19) (w1:=(wr.setCell ⟨go16,((ji13) : Int).toNat,none⟩ (.int .u32 ((IntKind.u64.wrap ((IntKind.u64.wrap ((IntKind.u64.wrap ((IntKind.u64.wrap (rd l0 x6_1)) * (IntKind.u64.wrap (rd l1 x8_2)))) + (IntKind.u64.wrap (rd x5_2 (ji13))))) + x7_2)) % 4294967296)))) ?hg ?ho ?hn ?hr ?_;(case ho=>rfl);(case hg=>rfl);(case hn=>rfl);(case hr=>first|(go_simp;done)|(go_simp;rfl));intro w19 hw;have hg : wr.grownBy w19 (some go16):=(by rw [hw];exact HP18.2);have hp_ : Kd.R (Kd.int .u32) 72 w19 w.heap.size (fun _=>True) (.slice (some ⟨go16,0,none⟩) x5_2.length co17) y251:=(by rw [hw,Ny251.out];exact HP18.1);clear HP18;replace HO_5:=Aside0.mk (hp_);replace HB:=Aside0.mk ((by rw [hw];exact below_set (HB.out) GB16.out : Below w.heap.size w w19));clear hg hw hp_)))
              go_roundg k2
              case measure=>have:=HK1.out;have:=HK2.out;omega
              case rel=>exact ⟨(y251),((IntKind.u64.wrap ((IntKind.u64.wrap ((IntKind.u64.wrap ((IntKind.u64.wrap (rd l0 x6_1)) * (IntKind.u64.wrap (rd l1 x8_2)))) + (IntKind.u64.wrap (rd x5_2 (ji13))))) + x7_2)) / 4294967296),(wrap64 (x8_2 + 1)),(by first|rfl|(simp;done)|(simp only [← hji13] <;> (first|rfl|simp))|(simp [*];done)),(by first|rfl|(simp;done)|(simp [*];done)),H',⟨by have:=HK1.out;have:=HK2.out;omega⟩,⟨rr_ HO_5⟩,⟨bl_ HB⟩⟩
             ·rw [if_neg c15] at H
              exact absurd H (by simp)
            ·rw [if_neg c14] at H
             exact absurd H (by simp)
           ·rw [if_neg c12] at H
            exact absurd H (by simp)
          ·rw [if_neg c11] at H
           exact absurd H (by simp)
         ·rw [if_neg c10] at H
          exact absurd H (by simp)
        ·rw [if_neg c9] at H
         have c9b0 : decide (x8_2 < (l1.length : Int)) = false:=decide_eq_false c9
         clear c9
         obtain ⟨ji20,hji20⟩ : ∃ j_ : Int,(wrap64 (x6_1 + (l1.length : Int))) = j_:=⟨_,rfl⟩
         replace H : (if 0 ≤ (ji20) then (if (ji20) < (x5_2.length : Int) then (r02_Times.l0 k2 l0 l1 (x5_2.set ((ji20) : Int).toNat ((x7_2) % 4294967296)) (wrap64 (x6_1 + 1))) else (none)) else (none)) = some r:=by first|(rw [hji20] at H;exact H)|(simp only [hji20] at H ⊢;exact H)
         have hji20w : (IntKind.i64.wrap (x6_1 + (l1.length : Int))) = ji20:=(i64_w _).trans hji20
         by_cases c21 : 0 ≤ (ji20)
         ·rw [if_pos c21] at H
          have c21b0 : decide (0 ≤ (ji20)) = true:=decide_eq_true c21
          clear c21
          by_cases c22 : (ji20) < (x5_2.length : Int)
          ·rw [if_pos c22] at H
           have c22b0 : decide ((ji20) < (x5_2.length : Int)) = true:=decide_eq_true c22
           clear c22
           obtain ⟨y252,hy252⟩ : ∃ y_ : List Int,y_ = (x5_2.set ((ji20) : Int).toNat ((x7_2) % 4294967296)):=⟨_,rfl⟩
           replace H : (r02_Times.l0 k2 l0 l1 y252 (wrap64 (x6_1 + 1))) = some r:=by first|(rw [hy252];with_reducible exact H)|(have H2_:=(Option.bind_some _ _).symm.trans H;rw [hy252];with_reducible exact H2_)|(have H2_:=(Option.bind_some _ _).symm.trans H;with_reducible exact H2_)|with_reducible exact H|(rw [hy252];exact H)|exact H
           have Ny252:=Aside0.mk hy252
           clear hy252
           have H':=Aside0.mk H
           clear H
           have p23 : 0 ≤ ((ji20) : Int):=of_decide_eq_true (by first|(with_reducible assumption)|assumption)
           have q23 : ((ji20) : Int) < ((x5_2.length : Int) : Int):=of_decide_eq_true (by first|(with_reducible assumption)|assumption)
           obtain ⟨go23,co23,eo23,gb23,gl23,cl23,HG23⟩:=Kd.R_form HO_5.out (by omega)
           (first|cases eo23|(injection eo23 with ea_ en_ ec_;(first|subst ea_|(injection ea_ with ea_;subst ea_));subst ec_;clear en_))
           have GB23:=Aside0.mk gb23
           have GG23:=Aside0.mk HG23
           clear gb23 gl23 HG23
           obtain ⟨hx23_0,hf23_0⟩:=Kd.R_celln 0 HO_5.out ((ji20) : Int) p23 q23
           replace p23:=eq_true p23
           replace q23:=eq_true q23
           have HP24:=Kd.R_putg HO_5.out ((ji20) : Int) ((x7_2) % 4294967296)
           go_wp2_with (first|((with_reducible refine gate_store (t:=72) (p:=65) rfl ?_);(try (rw [drewN_self wr];generalize hq_ : World.drewN wr _ = wr;have HO_5:=Aside0.mk (Kd.R_at hq_ HO_5.out);have HB:=Aside0.mk (below_at hq_ HB.out);(try (have HP24:=Kd.R_putg HO_5.out ((ji20) : Int) ((x7_2) % 4294967296)));(try (obtain ⟨hx16_0,hf16_0⟩:=Kd.R_celln 0 HO_5.out ((ji13) : Int) (of_eq_true p16) (of_eq_true q16)));(try (obtain ⟨hx23_0,hf23_0⟩:=Kd.R_celln 0 HO_5.out ((ji20) : Int) (of_eq_true p23) (of_eq_true q23)))));refine store_event (t:=72) (p:=65) (v:=?vo_w25) (w1:=(wr.setCell ⟨go23,((ji20) : Int).toNat,none⟩ (.int .u32 ((x7_2) % 4294967296)))) ?hg ?ho ?hn ?hr ?_;(case ho=>rfl);(case hg=>rfl);(case hn=>rfl);(case hr=>first|(go_simp;done)|(go_simp;rfl));intro w25 hw;have hg : wr.grownBy w25 (some go23):=(by rw [hw];exact HP24.2);have hp_ : Kd.R (Kd.int .u32) 72 w25 w.heap.size (fun _=>True) (.slice (some ⟨go23,0,none⟩) x5_2.length co23) y252:=(by rw [hw,Ny252.out];exact HP24.1);clear HP24;replace HO_5:=Aside0.mk (hp_);replace HB:=Aside0.mk ((by rw [hw];exact below_set (HB.out) GB23.out : Below w.heap.size w w25));clear hg hw hp_))
           repeat (go_quiet (first|((with_reducible refine gate_store (t:=72) (p:=65) rfl ?_);(try (rw [drewN_self wr];generalize hq_ : World.drewN wr _ = wr;have HO_5:=Aside0.mk (Kd.R_at hq_ HO_5.out);have HB:=Aside0.mk (below_at hq_ HB.out);(try (have HP24:=Kd.R_putg HO_5.out ((ji20) : Int) ((x7_2) % 4294967296)));(try (obtain ⟨hx16_0,hf16_0⟩:=Kd.R_celln 0 HO_5.out ((ji13) : Int) (of_eq_true p16) (of_eq_true q16)));(try (obtain ⟨hx23_0,hf23_0⟩:=Kd.R_celln 0 HO_5.out ((ji20) : Int) (of_eq_true p23) (of_eq_true q23)))));refine store_event (t:=72) (p:=65) (v:=?vo_w25) (w1:=(wr.setCell ⟨go23,((ji20) : Int).toNat,none⟩ (.int .u32 ((x7_2) % 4294967296)))) ?hg ?ho ?hn ?hr ?_;(case ho=>rfl);(case hg=>rfl);(case hn=>rfl);(case hr=>first|(go_simp;done)|(go_simp;rfl));intro w25 hw;have hg : wr.grownBy w25 (some go23):=(by rw [hw];exact HP24.2);have hp_ : Kd.R (Kd.int .u32) 72 w25 w.heap.size (fun _=>True) (.slice (some ⟨go23,0,none⟩) x5_2.length co23) y252:=(by rw [hw,Ny252.out];exact HP24.1);clear HP24;replace HO_5:=Aside0.mk (hp_);replace HB:=Aside0.mk ((by rw [hw];exact below_set (HB.out) GB23.out : Below w.heap.size w w25));clear hg hw hp_));try go_wp2_with (first|((with_reducible refine gate_store (t:=72) (p:=65) rfl ?_);(try (rw [drewN_self wr];generalize hq_ : World.drewN wr _ = wr;have HO_5:=Aside0.mk (Kd.R_at hq_ HO_5.out);have HB:=Aside0.mk (below_at hq_ HB.out);(try (have HP24:=Kd.R_putg HO_5.out ((ji20) : Int) ((x7_2) % 4294967296)));(try (obtain ⟨hx16_0,hf16_0⟩:=Kd.R_celln 0 HO_5.out ((ji13) : Int) (of_eq_true p16) (of_eq_true q16)));(try (obtain ⟨hx23_0,hf23_0⟩:=Kd.R_celln 0 HO_5.out ((ji20) : Int) (of_eq_true p23) (of_eq_true q23)))));refine store_event (t:=72) (p:=65) (v:=?vo_w25) (w1:=(wr.setCell ⟨go23,((ji20) : Int).toNat,none⟩ (.int .u32 ((x7_2) % 4294967296)))) ?hg ?ho ?hn ?hr ?_;(case ho=>rfl);(case hg=>rfl);(case hn=>rfl);(case hr=>first|(go_simp;done)|(go_simp;rfl));intro w25 hw;have hg : wr.grownBy w25 (some go23):=(by rw [hw];exact HP24.2);have hp_ : Kd.R (Kd.int .u32) 72 w25 w.heap.size (fun _=>True) (.slice (some ⟨go23,0,none⟩) x5_2.length co23) y252:=(by rw [hw,Ny252.out];exact HP24.1);clear HP24;replace HO_5:=Aside0.mk (hp_);replace HB:=Aside0.mk ((by rw [hw];exact below_set (HB.out) GB23.out : Below w.heap.size w w25));clear hg hw hp_)))
           go_roundg k2
           case measure=>have:=HK1.out;have:=HK2.out;omega
           case rel=>exact ⟨(y252),(wrap64 (x6_1 + 1)),(by first|rfl|(simp;done)|(simp [*];done)),H',⟨by have:=HK1.out;have:=HK2.out;omega⟩,⟨rr_ HO_5⟩,⟨bl_ HB⟩⟩
          ·rw [if_neg c22] at H
           exact absurd H (by simp)
         ·rw [if_neg c21] at H
          exact absurd H (by simp)
     ·rw [if_neg c8] at H
      have c8b0 : decide (x6_1 < (l0.length : Int)) = false:=decide_eq_false c8
      clear c8
      obtain ⟨t245,A26,H⟩:=ob_ H
      try dsimp only at H
      obtain rfl:=Option.some.inj H
      obtain ⟨Ao27,co27,eo27⟩:=Kd.R_slice HO_5.out
      subst eo27
      go_wp2_with (first|(go_at_call 78;(with_reducible refine (r02_Norm.calls k1 _ _ x5_1 t245 _ ?side1 ?side2 A26.out).mono ?_);(case side1=>repeat (first|exact (Kd.R_reads' HO_5.out).2.2|(with_reducible first|apply cA|apply cN|apply cD)));(case side2=>exact (Kd.R_reads' HO_5.out).2.1);rintro e w28 ⟨v246,rfl,ho0,hb⟩;have HO247:=Aside0.mk (Kd.R_lower (Kd.R_new' ho0 (Kd.R_lt (rr_ HO_5))) (below_size (bl_ HB)));replace HO_5:=Aside0.mk (Kd.R_elder' (rr_ HO_5) (Kd.R_base ho0) hb);replace HB:=bs_ HB hb;(try clear hb);(try clear hb2);(try clear hk);(try clear hi);(try clear ho0)))
      repeat (go_quiet (first|(go_at_call 78;(with_reducible refine (r02_Norm.calls k1 _ _ x5_1 t245 _ ?side1 ?side2 A26.out).mono ?_);(case side1=>repeat (first|exact (Kd.R_reads' HO_5.out).2.2|(with_reducible first|apply cA|apply cN|apply cD)));(case side2=>exact (Kd.R_reads' HO_5.out).2.1);rintro e w28 ⟨v246,rfl,ho0,hb⟩;have HO247:=Aside0.mk (Kd.R_lower (Kd.R_new' ho0 (Kd.R_lt (rr_ HO_5))) (below_size (bl_ HB)));replace HO_5:=Aside0.mk (Kd.R_elder' (rr_ HO_5) (Kd.R_base ho0) hb);replace HB:=bs_ HB hb;(try clear hb);(try clear hb2);(try clear hk);(try clear hi);(try clear ho0)));try go_wp2_with (first|(go_at_call 78;(with_reducible refine (r02_Norm.calls k1 _ _ x5_1 t245 _ ?side1 ?side2 A26.out).mono ?_);(case side1=>repeat (first|exact (Kd.R_reads' HO_5.out).2.2|(with_reducible first|apply cA|apply cN|apply cD)));(case side2=>exact (Kd.R_reads' HO_5.out).2.1);rintro e w28 ⟨v246,rfl,ho0,hb⟩;have HO247:=Aside0.mk (Kd.R_lower (Kd.R_new' ho0 (Kd.R_lt (rr_ HO_5))) (below_size (bl_ HB)));replace HO_5:=Aside0.mk (Kd.R_elder' (rr_ HO_5) (Kd.R_base ho0) hb);replace HB:=bs_ HB hb;(try clear hb);(try clear hb2);(try clear hk);(try clear hi);(try clear ho0))))
      go_ret
      exact ⟨_,by first|rfl|(simp [errW_none,errW_some] <;> rfl)|(simp only [← hji3];first|rfl|(simp [errW_none,errW_some] <;> rfl))|(simp [*,errW_none,errW_some] <;> rfl),by (with_reducible repeat (first|apply rA|apply rN|apply rD));exact Kd.R_mono HO247.out (fun _ hk=>trivial),bl_ HB⟩
  ·rw [if_neg c5] at H
   exact absurd H (by simp)
 ·rw [if_neg c4] at H
  exact absurd H (by simp)

end Go.Proofs.Ytdemanikmaafeaa.Pr
-- written by this session's own program (wip/fprint.py), which widens the kit's print by floats
namespace Go.Proofs.Ytdemanikmaafeaa.Pr
open Go.RowKit Go.Proofs.YtdemanikmaafeaaW.PrintWords Go.Proofs.YtdemanikmaafeaaW.PrintLast Go.Proofs.YtdemanikmaafeaaW.PrintMore
attribute [local go_sem] max2_int min2_int max_two min_two max_three min_three max_four min_four   -- for this text's walks alone
set_option linter.unusedVariables false
set_option linter.unusedSimpArgs false

def r02_Minus.l0 : Nat → List Int → List Int → List Int → Int → Int → Option (List Int)
 | 0, _, _, _, _, _ => none
 | k + 1, x0, x1, x5, x6, x7 => if x7 < (x0.length : Int) then ((r02_at.f x0 x7).bind fun t260 => ((r02_at.f x1 x7).bind fun t261 => (if x5.length < 35184372088832 then (r02_Minus.l0 k x0 x1 (x5 ++ [(IntKind.u64.wrap ((IntKind.u64.wrap ((IntKind.u64.wrap (t260 + 4294967296)) - t261)) - x6)) % 4294967296]) (IntKind.u64.wrap (1 - ((IntKind.u64.wrap ((IntKind.u64.wrap ((IntKind.u64.wrap (t260 + 4294967296)) - t261)) - x6)) / 4294967296))) (wrap64 (x7 + 1))) else (none)))) else ((r02_Norm.f k x5).bind fun t265 => (some t265))
def r02_Minus.f (k : Nat) (l0 : List Int) (l1 : List Int) : Option (List Int) := r02_Minus.l0 k l0 l1 ([] : List Int) 0 0
theorem r02_Minus.mono_l : ∀ k, (∀ y0 y1 y2 y3 y4, LeO (r02_Minus.l0 k y0 y1 y2 y3 y4) (r02_Minus.l0 (k + 1) y0 y1 y2 y3 y4))
 | 0 => fun _ _ _ _ _ r h => by simp [r02_Minus.l0] at h
 | k + 1 => by
  have ih0:=r02_Minus.mono_l k
  ·intro y0 y1 y2 y3 y4
   unfold r02_Minus.l0
   repeat' first
   | (with_reducible exact ih0 _ _ _ _ _)
   | (with_reducible exact r02_Norm.mono _ _)
   | (with_reducible exact LeO.refl _)
   | (with_reducible exact LeO.none _)
   | (with_reducible refine LeO.ite ?_ ?_)
   | (with_reducible refine LeO.bind ?_ (fun _ => ?_))
   | exact ih0 _ _ _ _ _
   | exact r02_Norm.mono _ _
   | exact LeO.none _
   | refine LeO.ite ?_ ?_
   | refine LeO.bind ?_ (fun _ => ?_)
theorem r02_Minus.mono : ∀ a0 a1 k, LeO (r02_Minus.f k a0 a1) (r02_Minus.f (k + 1) a0 a1) := by
 intro a0 a1 k
 have ih0:=r02_Minus.mono_l k
 unfold r02_Minus.f
 repeat' first
   | (with_reducible exact ih0 _ _ _ _ _)
   | (with_reducible exact r02_Norm.mono _ _)
   | (with_reducible exact LeO.refl _)
   | (with_reducible exact LeO.none _)
   | (with_reducible refine LeO.ite ?_ ?_)
   | (with_reducible refine LeO.bind ?_ (fun _ => ?_))
   | exact ih0 _ _ _ _ _
   | exact r02_Norm.mono _ _
   | exact LeO.none _
   | refine LeO.ite ?_ ?_
   | refine LeO.bind ?_ (fun _ => ?_)
set_option maxHeartbeats 3000000 in
set_option maxRecDepth 100000 in
theorem r02_Minus.calls (k : Nat) (A0 : Option Addr) (c0 : Nat) (l0 : List Int) (A1 : Option Addr) (c1 : Nat) (l1 : List Int) (r : List Int) (w : World) (hr0 : Kd.C (Kd.int .u32) w A0 l0.length l0) (hc0 : l0.length ≤ c0) (hr1 : Kd.C (Kd.int .u32) w A1 l1.length l1) (hc1 : l1.length ≤ c1) (h : r02_Minus.f k l0 l1 = some r) :
  Calls Try.prog 62 #[.slice A0 l0.length c0,.slice A1 l1.length c1] w fun e w'=>∃ v0_ : Value,e = .returned (v0_) ∧ Kd.R (Kd.int .u32) 72 w' w.heap.size (fun _=>True) v0_ r ∧ Below w.heap.size w w':=by
 have HR0:=Aside0.mk hr0
 have HC0:=Aside0.mk hc0
 clear hr0 hc0
 have HR1:=Aside0.mk hr1
 have HC1:=Aside0.mk hc1
 clear hr1 hc1
 have HB:=Aside0.mk (Below.refl w.heap.size w)
 have H : (r02_Minus.l0 k l0 l1 ([] : List Int) 0 0) = some r:=h
 clear h
 have H':=Aside0.mk H
 clear H
 go_enter Try.func62,Try.ntmps62
 go_wp2
 go_loopg [5,6,7] k (fun kq v5 v6 v7 w'=>∃ (x5_1 : List Int) (x6_1 : Int) (x7_1 : Int),v6 = .int .u64 x6_1 ∧ v7 = .int .i64 x7_1 ∧ Aside0 (r02_Minus.l0 kq l0 l1 x5_1 x6_1 x7_1 = some r) ∧ Aside0 (kq ≤ k) ∧ Aside0 (Kd.R (Kd.int .u32) 72 w' w.heap.size (fun _=>True) v5 x5_1) ∧ Aside0 (Below w.heap.size w w'))
 case atStart=>exact ⟨(([] : List Int)),(0),(0),(by first|rfl|(simp;done)|(simp [*];done)),(by first|rfl|(simp;done)|(simp [*];done)),H',⟨Nat.le_refl _⟩,⟨by first|exact Kd.R_nil _ _ _ _ _|exact Kd.N_nil _ _ _ _ _|exact Kd.V_nil _ _ _ _ _|exact Kd.Q_nil _ _ _ _ _|exact Kd.S_nil _ _ _ _ _⟩,⟨bl_ HB⟩⟩
 case round =>
  clear H'
  try clear c1
  try clear p2
  obtain ⟨x5_1,x6_1,x7_1,rfl,rfl,HA,HK1,HO_5,HB⟩:=hrel
  cases gk with
  | zero => exact absurd HA.out (by simp [r02_Minus.l0])
  | succ k1 =>
   have H:=HA.out
   clear HA
   simp only [r02_Minus.l0] at H
   by_cases c3 : x7_1 < (l0.length : Int)
   ·rw [if_pos c3] at H
    have c3b0 : decide (x7_1 < (l0.length : Int)) = true:=decide_eq_true c3
    clear c3
    obtain ⟨t260,A4,H⟩:=ob_ H
    try dsimp only at H
    obtain ⟨t261,A5,H⟩:=ob_ H
    try dsimp only at H
    by_cases c6 : x5_1.length < 35184372088832
    ·rw [if_pos c6] at H
     have LMc6:=Aside0.mk c6
     clear c6
     obtain ⟨y262,hy262⟩ : ∃ y_ : List Int,y_ = (x5_1 ++ [(IntKind.u64.wrap ((IntKind.u64.wrap ((IntKind.u64.wrap (t260 + 4294967296)) - t261)) - x6_1)) % 4294967296]):=⟨_,rfl⟩
     replace H : (r02_Minus.l0 k1 l0 l1 y262 (IntKind.u64.wrap (1 - ((IntKind.u64.wrap ((IntKind.u64.wrap ((IntKind.u64.wrap (t260 + 4294967296)) - t261)) - x6_1)) / 4294967296))) (wrap64 (x7_1 + 1))) = some r:=by first|(rw [hy262];with_reducible exact H)|(have H2_:=(Option.bind_some _ _).symm.trans H;rw [hy262];with_reducible exact H2_)|(have H2_:=(Option.bind_some _ _).symm.trans H;with_reducible exact H2_)|with_reducible exact H|(rw [hy262];exact H)|exact H
     have Ny262:=Aside0.mk hy262
     clear hy262
     have H':=Aside0.mk H
     clear H
     go_wp2_with (first|((with_reducible refine gate_callee (f:=79) rfl ?_);refine goesM (some 17) Try.func79 #[.slice A0 l0.length c0,.int .i64 x7_1] ?_;(with_reducible refine (r02_at.calls _ _ l0 x7_1 t260 _ ?side1 ?side2 A4.out).mono ?_);(case side1=>repeat (first|exact (Kd.C_below HR0.out HB.out)|(with_reducible first|apply cA|apply cN|apply cD)));(case side2=>exact HC0.out);rintro e w' ⟨rfl,⟨nd,rfl⟩⟩;refine ⟨_,rfl,?_⟩)|((with_reducible refine gate_callee (f:=79) rfl ?_);refine goesM (some 21) Try.func79 #[.slice A1 l1.length c1,.int .i64 x7_1] ?_;(with_reducible refine (r02_at.calls _ _ l1 x7_1 t261 _ ?side1 ?side2 A5.out).mono ?_);(case side1=>repeat (first|exact (Kd.C_below HR1.out (bl_ HB))|(with_reducible first|apply cA|apply cN|apply cD)));(case side2=>exact HC1.out);rintro e w' ⟨rfl,⟨nd,rfl⟩⟩;refine ⟨_,rfl,?_⟩)|((with_reducible refine gate_builtin (b:=.append) (xs:=#[.tmp 25,.tmp 28]) rfl ?_);at_builtin;refine Kd.R_append (Kd.int .u32) (w0:=w) w.heap.size rfl (.tmp 25) (.tmp 28) 41 72 (.int .u32 0) 4 rfl Try.underlying41 info72 rfl (by decide) (by omega) u5 x5_1 ((IntKind.u64.wrap ((IntKind.u64.wrap ((IntKind.u64.wrap (t260 + 4294967296)) - t261)) - x6_1)) % 4294967296) [.int .u32 ((IntKind.u64.wrap ((IntKind.u64.wrap ((IntKind.u64.wrap (t260 + 4294967296)) - t261)) - x6_1)) % 4294967296)] (fun _=>True) (fun _=>False) rfl rfl ?aP (fun _ hk=>hk.elim) ?aF ?aO ?aB ?aS ?aL ?_;(case aP=>exact rfl);(case aB=>exact (bl_ HB));(case aF=>exact (fun _ _=>trivial));(case aO=>exact (rr_ HO_5));(case aS=>exact (below_size (bl_ HB)));(case aL=>have:=LMc6.out;omega);intro v263 w7 ho hb hg hat;rw [← Ny262.out] at ho;replace HB:=Aside0.mk (hb);have HO264:=Aside0.mk (ho);clear ho hb hg hat))
     go_roundg k1
     case measure=>have:=HK1.out;omega
     case rel=>exact ⟨(y262),(IntKind.u64.wrap (1 - ((IntKind.u64.wrap ((IntKind.u64.wrap ((IntKind.u64.wrap (t260 + 4294967296)) - t261)) - x6_1)) / 4294967296))),(wrap64 (x7_1 + 1)),(by first|rfl|(simp;done)|(simp [*];done)),(by first|rfl|(simp;done)|(simp [*];done)),H',⟨by have:=HK1.out;omega⟩,⟨rr_ HO264⟩,⟨bl_ HB⟩⟩
    ·rw [if_neg c6] at H
     exact absurd H (by simp)
   ·rw [if_neg c3] at H
    have c3b0 : decide (x7_1 < (l0.length : Int)) = false:=decide_eq_false c3
    clear c3
    obtain ⟨t265,A8,H⟩:=ob_ H
    try dsimp only at H
    obtain rfl:=Option.some.inj H
    obtain ⟨Ao9,co9,eo9⟩:=Kd.R_slice HO_5.out
    subst eo9
    go_wp2_with (first|((with_reducible refine gate_callee (f:=78) rfl ?_);refine goesM (some 34) Try.func78 #[.slice Ao9 x5_1.length co9] ?_;(with_reducible refine (r02_Norm.calls k1 _ _ x5_1 t265 _ ?side1 ?side2 A8.out).mono ?_);(case side1=>repeat (first|exact (Kd.R_reads' HO_5.out).2.2|(with_reducible first|apply cA|apply cN|apply cD)));(case side2=>exact (Kd.R_reads' HO_5.out).2.1);rintro e w10 ⟨v266,rfl,ho0,hb⟩;refine ⟨_,rfl,?_⟩;have HO267:=Aside0.mk (Kd.R_lower (Kd.R_new' ho0 (Kd.R_lt (rr_ HO_5))) (below_size (bl_ HB)));replace HO_5:=Aside0.mk (Kd.R_elder' (rr_ HO_5) (Kd.R_base ho0) hb);replace HB:=bs_ HB hb;(try clear hb);(try clear hb2);(try clear hk);(try clear hi);(try clear ho0)))
    go_ret
    exact ⟨_,rf_,by (with_reducible repeat (first|apply rA|apply rN|apply rD));exact Kd.R_mono HO267.out (fun _ hk=>trivial),bl_ HB⟩

def r02_digit.l0 : Nat → List Int → List Int → Int → Int → List Int → Option (Int × List Int)
 | 0, _, _, _, _, _ => none
 | k + 1, x0, x1, x6, x7, x8 => if (IntKind.u64.wrap (x7 - x6)) > 1 then ((r02_Times.f k x1 (([(IntKind.u64.wrap (Int.tdiv (IntKind.u64.wrap (x6 + x7)) 2)) % 4294967296] : List Int))).bind fun t271 => ((r02_Cmp.f k t271 x0).bind fun t274 => (if t274 ≤ 0 then (r02_digit.l0 k x0 x1 (IntKind.u64.wrap (Int.tdiv (IntKind.u64.wrap (x6 + x7)) 2)) x7 t271) else (r02_digit.l0 k x0 x1 x6 (IntKind.u64.wrap (Int.tdiv (IntKind.u64.wrap (x6 + x7)) 2)) x8)))) else (some ((x6) % 4294967296, x8))
def r02_digit.f (k : Nat) (l0 : List Int) (l1 : List Int) : Option (Int × List Int) := r02_digit.l0 k l0 l1 0 4294967296 ([] : List Int)
theorem r02_digit.mono_l : ∀ k, (∀ y0 y1 y2 y3 y4, LeO (r02_digit.l0 k y0 y1 y2 y3 y4) (r02_digit.l0 (k + 1) y0 y1 y2 y3 y4))
 | 0 => fun _ _ _ _ _ r h => by simp [r02_digit.l0] at h
 | k + 1 => by
  have ih0:=r02_digit.mono_l k
  ·intro y0 y1 y2 y3 y4
   unfold r02_digit.l0
   repeat' first
   | (with_reducible exact ih0 _ _ _ _ _)
   | (with_reducible exact r02_Cmp.mono _ _ _)
   | (with_reducible exact r02_Times.mono _ _ _)
   | (with_reducible exact LeO.refl _)
   | (with_reducible exact LeO.none _)
   | (with_reducible refine LeO.ite ?_ ?_)
   | (with_reducible refine LeO.bind ?_ (fun _ => ?_))
   | exact ih0 _ _ _ _ _
   | exact r02_Cmp.mono _ _ _
   | exact r02_Times.mono _ _ _
   | exact LeO.none _
   | refine LeO.ite ?_ ?_
   | refine LeO.bind ?_ (fun _ => ?_)
theorem r02_digit.mono : ∀ a0 a1 k, LeO (r02_digit.f k a0 a1) (r02_digit.f (k + 1) a0 a1) := by
 intro a0 a1 k
 have ih0:=r02_digit.mono_l k
 unfold r02_digit.f
 repeat' first
   | (with_reducible exact ih0 _ _ _ _ _)
   | (with_reducible exact r02_Cmp.mono _ _ _)
   | (with_reducible exact r02_Times.mono _ _ _)
   | (with_reducible exact LeO.refl _)
   | (with_reducible exact LeO.none _)
   | (with_reducible refine LeO.ite ?_ ?_)
   | (with_reducible refine LeO.bind ?_ (fun _ => ?_))
   | exact ih0 _ _ _ _ _
   | exact r02_Cmp.mono _ _ _
   | exact r02_Times.mono _ _ _
   | exact LeO.none _
   | refine LeO.ite ?_ ?_
   | refine LeO.bind ?_ (fun _ => ?_)
set_option maxHeartbeats 3000000 in
set_option maxRecDepth 100000 in
theorem r02_digit.calls (k : Nat) (A0 : Option Addr) (c0 : Nat) (l0 : List Int) (A1 : Option Addr) (c1 : Nat) (l1 : List Int) (r1 : Int) (r2 : List Int) (w : World) (hr0 : Kd.C (Kd.int .u32) w A0 l0.length l0) (hc0 : l0.length ≤ c0) (hr1 : Kd.C (Kd.int .u32) w A1 l1.length l1) (hc1 : l1.length ≤ c1) (h : r02_digit.f k l0 l1 = some (r1, r2)) :
  Calls Try.prog 84 #[.slice A0 l0.length c0,.slice A1 l1.length c1] w fun e w'=>∃ v1_ : Value,e = .returned (.tuple #[.int .u32 r1,v1_]) ∧ Kd.R (Kd.int .u32) 72 w' w.heap.size (fun _=>True) v1_ r2 ∧ Below w.heap.size w w':=by
 have HR0:=Aside0.mk hr0
 have HC0:=Aside0.mk hc0
 clear hr0 hc0
 have HR1:=Aside0.mk hr1
 have HC1:=Aside0.mk hc1
 clear hr1 hc1
 have HB:=Aside0.mk (Below.refl w.heap.size w)
 have H : (r02_digit.l0 k l0 l1 0 4294967296 ([] : List Int)) = some (r1,r2):=h
 clear h
 have H':=Aside0.mk H
 clear H
 go_enter Try.func84,Try.ntmps84
 go_wp2
 go_loopg [6,7,8] k (fun kq v6 v7 v8 w'=>∃ (x6_1 : Int) (x7_1 : Int) (x8_1 : List Int),v6 = .int .u64 x6_1 ∧ v7 = .int .u64 x7_1 ∧ Aside0 (r02_digit.l0 kq l0 l1 x6_1 x7_1 x8_1 = some (r1,r2)) ∧ Aside0 (kq ≤ k) ∧ Aside0 (Kd.R (Kd.int .u32) 72 w' w.heap.size (fun _=>True) v8 x8_1) ∧ Aside0 (Below w.heap.size w w'))
 case atStart=>exact ⟨(0),(4294967296),(([] : List Int)),(by first|rfl|(simp;done)|(simp [*];done)),(by first|rfl|(simp;done)|(simp [*];done)),H',⟨Nat.le_refl _⟩,⟨by first|exact Kd.R_nil _ _ _ _ _|exact Kd.N_nil _ _ _ _ _|exact Kd.V_nil _ _ _ _ _|exact Kd.Q_nil _ _ _ _ _|exact Kd.S_nil _ _ _ _ _⟩,⟨bl_ HB⟩⟩
 case round =>
  clear H'
  try clear c1
  try clear p2
  obtain ⟨x6_1,x7_1,x8_1,rfl,rfl,HA,HK1,HO_8,HB⟩:=hrel
  cases gk with
  | zero => exact absurd HA.out (by simp [r02_digit.l0])
  | succ k1 =>
   have H:=HA.out
   clear HA
   simp only [r02_digit.l0] at H
   by_cases c3 : (IntKind.u64.wrap (x7_1 - x6_1)) > 1
   ·rw [if_pos c3] at H
    have c3b0 : decide (1 < (IntKind.u64.wrap (x7_1 - x6_1))) = true:=decide_eq_true c3
    clear c3
    obtain ⟨y268,hy268⟩ : ∃ y_ : List Int,y_ = (([(IntKind.u64.wrap (Int.tdiv (IntKind.u64.wrap (x6_1 + x7_1)) 2)) % 4294967296] : List Int)):=⟨_,rfl⟩
    replace H : ((r02_Times.f k1 l1 y268).bind fun t271=>((r02_Cmp.f k1 t271 l0).bind fun t274=>(if t274 ≤ 0 then (r02_digit.l0 k1 l0 l1 (IntKind.u64.wrap (Int.tdiv (IntKind.u64.wrap (x6_1 + x7_1)) 2)) x7_1 t271) else (r02_digit.l0 k1 l0 l1 x6_1 (IntKind.u64.wrap (Int.tdiv (IntKind.u64.wrap (x6_1 + x7_1)) 2)) x8_1)))) = some (r1,r2):=by first|(rw [hy268];with_reducible exact H)|(have H2_:=(Option.bind_some _ _).symm.trans H;rw [hy268];with_reducible exact H2_)|(have H2_:=(Option.bind_some _ _).symm.trans H;with_reducible exact H2_)|with_reducible exact H|(rw [hy268];exact H)|exact H
    have Ny268:=Aside0.mk hy268
    clear hy268
    obtain ⟨t271,A4,H⟩:=ob_ H
    try dsimp only at H
    obtain ⟨t274,A5,H⟩:=ob_ H
    try dsimp only at H
    by_cases c6 : t274 ≤ 0
    ·rw [if_pos c6] at H
     have c6b0 : decide (t274 ≤ 0) = true:=decide_eq_true c6
     clear c6
     have H':=Aside0.mk H
     clear H
     go_wp2_with (first|((with_reducible refine gate_dst (N:=22) rfl ?_);refine Kd.R_lit (Kd.int .u32) _ 72 ?hg (N:=22) ?hd (xs:=([(IntKind.u64.wrap (Int.tdiv (IntKind.u64.wrap (x6_1 + x7_1)) 2)) % 4294967296] : List Int)) (inner:=[.int .u32 ((IntKind.u64.wrap (Int.tdiv (IntKind.u64.wrap (x6_1 + x7_1)) 2)) % 4294967296)]) (ok:=fun _=>True) (okp:=fun _=>True) ?hr ?hp (fun _ hk=>hk) trivial (Below.refl _ _) (Nat.le_refl _) (by simp) ?_;(case hd=>rfl);(case hg=>rfl);(case hr=>first|(go_simp;done)|(go_simp;rfl));(case hp=>exact (Reps.one (show Kd.M (Kd.int .u32) _ _ _ ((IntKind.u64.wrap (Int.tdiv (IntKind.u64.wrap (x6_1 + x7_1)) 2)) % 4294967296) [.int .u32 ((IntKind.u64.wrap (Int.tdiv (IntKind.u64.wrap (x6_1 + x7_1)) 2)) % 4294967296)] from rfl) (Reps.none _ _)));intro v269 w7 ho8 hb hg_ hnew_;clear hg_ hnew_;(first|rw [← Ny268.out] at ho8|(simp only [Int.reduceToNat] at ho8;rw [← Ny268.out] at ho8));have HO270:=Aside0.mk (Kd.R_lower (Kd.R_new' ho8 (Kd.R_lt (rr_ HO_8))) (below_size (bl_ HB)));replace HO_8:=Aside0.mk (Kd.R_elder' (rr_ HO_8) (Kd.R_base ho8) hb);replace HB:=bs_ HB hb;clear hb ho8;obtain ⟨Ao9,co9,eo9⟩:=Kd.R_slice HO270.out;subst eo9)|((with_reducible refine gate_callee (f:=63) rfl ?_);refine goesM (some 23) Try.func63 #[.slice A1 l1.length c1,.slice Ao9 y268.length co9] ?_;(with_reducible refine (r02_Times.calls k1 _ _ l1 _ _ y268 t271 _ ?side1 ?side2 ?side3 ?side4 A4.out).mono ?_);(case side1=>repeat (first|exact (Kd.C_below HR1.out HB.out)|(with_reducible first|apply cA|apply cN|apply cD)));(case side2=>exact HC1.out);(case side3=>repeat (first|exact (Kd.R_reads' HO270.out).2.2|(with_reducible first|apply cA|apply cN|apply cD)));(case side4=>exact (Kd.R_reads' HO270.out).2.1);rintro e w10 ⟨v272,rfl,ho0,hb⟩;refine ⟨_,rfl,?_⟩;have HO273:=Aside0.mk (Kd.R_lower (Kd.R_new' (Kd.R_new' ho0 (Kd.R_lt (rr_ HO_8))) (Kd.R_lt (rr_ HO270))) (below_size (bl_ HB)));replace HO_8:=Aside0.mk (Kd.R_elder' (rr_ HO_8) (Kd.R_base ho0) hb);replace HO270:=Aside0.mk (Kd.R_elder' (rr_ HO270) (Kd.R_base ho0) hb);replace HB:=bs_ HB hb;(try clear hb);(try clear hb2);(try clear hk);(try clear hi);(try clear ho0);obtain ⟨Ao11,co11,eo11⟩:=Kd.R_slice HO273.out;subst eo11)|((with_reducible refine gate_callee (f:=61) rfl ?_);refine goesM (some 26) Try.func61 #[.slice Ao11 t271.length co11,.slice A0 l0.length c0] ?_;(with_reducible refine (r02_Cmp.calls k1 _ _ t271 _ _ l0 t274 _ ?side1 ?side2 ?side3 ?side4 A5.out).mono ?_);(case side1=>repeat (first|exact (Kd.R_reads' HO273.out).2.2|(with_reducible first|apply cA|apply cN|apply cD)));(case side2=>exact (Kd.R_reads' HO273.out).2.1);(case side3=>repeat (first|exact (Kd.C_below HR0.out HB.out)|(with_reducible first|apply cA|apply cN|apply cD)));(case side4=>exact HC0.out);rintro e w' ⟨rfl,⟨nd,rfl⟩⟩;refine ⟨_,rfl,?_⟩))
     go_roundg k1
     case measure=>have:=HK1.out;omega
     case rel=>exact ⟨(IntKind.u64.wrap (Int.tdiv (IntKind.u64.wrap (x6_1 + x7_1)) 2)),(x7_1),(t271),(by first|rfl|(simp;done)|(simp [*];done)),(by first|rfl|(simp;done)|(simp [*];done)),H',⟨by have:=HK1.out;omega⟩,⟨by (with_reducible repeat (first|apply rA|apply rN|apply rD));exact Kd.R_mono HO273.out (fun _ hk=>trivial)⟩,⟨bl_ HB⟩⟩
    ·rw [if_neg c6] at H
     have c6b0 : decide (t274 ≤ 0) = false:=decide_eq_false c6
     clear c6
     have H':=Aside0.mk H
     clear H
     go_wp2_with (first|((with_reducible refine gate_dst (N:=22) rfl ?_);refine Kd.R_lit (Kd.int .u32) _ 72 ?hg (N:=22) ?hd (xs:=([(IntKind.u64.wrap (Int.tdiv (IntKind.u64.wrap (x6_1 + x7_1)) 2)) % 4294967296] : List Int)) (inner:=[.int .u32 ((IntKind.u64.wrap (Int.tdiv (IntKind.u64.wrap (x6_1 + x7_1)) 2)) % 4294967296)]) (ok:=fun _=>True) (okp:=fun _=>True) ?hr ?hp (fun _ hk=>hk) trivial (Below.refl _ _) (Nat.le_refl _) (by simp) ?_;(case hd=>rfl);(case hg=>rfl);(case hr=>first|(go_simp;done)|(go_simp;rfl));(case hp=>exact (Reps.one (show Kd.M (Kd.int .u32) _ _ _ ((IntKind.u64.wrap (Int.tdiv (IntKind.u64.wrap (x6_1 + x7_1)) 2)) % 4294967296) [.int .u32 ((IntKind.u64.wrap (Int.tdiv (IntKind.u64.wrap (x6_1 + x7_1)) 2)) % 4294967296)] from rfl) (Reps.none _ _)));intro v269 w12 ho13 hb hg_ hnew_;clear hg_ hnew_;(first|rw [← Ny268.out] at ho13|(simp only [Int.reduceToNat] at ho13;rw [← Ny268.out] at ho13));have HO270:=Aside0.mk (Kd.R_lower (Kd.R_new' ho13 (Kd.R_lt (rr_ HO_8))) (below_size (bl_ HB)));replace HO_8:=Aside0.mk (Kd.R_elder' (rr_ HO_8) (Kd.R_base ho13) hb);replace HB:=bs_ HB hb;clear hb ho13;obtain ⟨Ao14,co14,eo14⟩:=Kd.R_slice HO270.out;subst eo14)|((with_reducible refine gate_callee (f:=63) rfl ?_);refine goesM (some 23) Try.func63 #[.slice A1 l1.length c1,.slice Ao14 y268.length co14] ?_;(with_reducible refine (r02_Times.calls k1 _ _ l1 _ _ y268 t271 _ ?side1 ?side2 ?side3 ?side4 A4.out).mono ?_);(case side1=>repeat (first|exact (Kd.C_below HR1.out HB.out)|(with_reducible first|apply cA|apply cN|apply cD)));(case side2=>exact HC1.out);(case side3=>repeat (first|exact (Kd.R_reads' HO270.out).2.2|(with_reducible first|apply cA|apply cN|apply cD)));(case side4=>exact (Kd.R_reads' HO270.out).2.1);rintro e w15 ⟨v272,rfl,ho0,hb⟩;refine ⟨_,rfl,?_⟩;have HO273:=Aside0.mk (Kd.R_lower (Kd.R_new' (Kd.R_new' ho0 (Kd.R_lt (rr_ HO_8))) (Kd.R_lt (rr_ HO270))) (below_size (bl_ HB)));replace HO_8:=Aside0.mk (Kd.R_elder' (rr_ HO_8) (Kd.R_base ho0) hb);replace HO270:=Aside0.mk (Kd.R_elder' (rr_ HO270) (Kd.R_base ho0) hb);replace HB:=bs_ HB hb;(try clear hb);(try clear hb2);(try clear hk);(try clear hi);(try clear ho0);obtain ⟨Ao16,co16,eo16⟩:=Kd.R_slice HO273.out;subst eo16)|((with_reducible refine gate_callee (f:=61) rfl ?_);refine goesM (some 26) Try.func61 #[.slice Ao16 t271.length co16,.slice A0 l0.length c0] ?_;(with_reducible refine (r02_Cmp.calls k1 _ _ t271 _ _ l0 t274 _ ?side1 ?side2 ?side3 ?side4 A5.out).mono ?_);(case side1=>repeat (first|exact (Kd.R_reads' HO273.out).2.2|(with_reducible first|apply cA|apply cN|apply cD)));(case side2=>exact (Kd.R_reads' HO273.out).2.1);(case side3=>repeat (first|exact (Kd.C_below HR0.out HB.out)|(with_reducible first|apply cA|apply cN|apply cD)));(case side4=>exact HC0.out);rintro e w' ⟨rfl,⟨nd,rfl⟩⟩;refine ⟨_,rfl,?_⟩))
     go_roundg k1
     case measure=>have:=HK1.out;omega
     case rel=>exact ⟨(x6_1),(IntKind.u64.wrap (Int.tdiv (IntKind.u64.wrap (x6_1 + x7_1)) 2)),(x8_1),(by first|rfl|(simp;done)|(simp [*];done)),(by first|rfl|(simp;done)|(simp [*];done)),H',⟨by have:=HK1.out;omega⟩,⟨by (with_reducible repeat (first|apply rA|apply rN|apply rD));exact Kd.R_mono HO_8.out (fun _ hk=>trivial)⟩,⟨bl_ HB⟩⟩
   ·rw [if_neg c3] at H
    have c3b0 : decide (1 < (IntKind.u64.wrap (x7_1 - x6_1))) = false:=decide_eq_false c3
    clear c3
    simp only [Option.some.injEq,Prod.mk.injEq] at H
    obtain ⟨rfl,rfl⟩:=H
    go_wp2
    go_ret2
    exact ⟨_,rf_,rr_ HO_8,bl_ HB⟩

end Go.Proofs.Ytdemanikmaafeaa.Pr
-- written by this session's own program (wip/fprint.py), which widens the kit's print by floats
namespace Go.Proofs.Ytdemanikmaafeaa.Pr
open Go.RowKit Go.Proofs.YtdemanikmaafeaaW.PrintWords Go.Proofs.YtdemanikmaafeaaW.PrintLast Go.Proofs.YtdemanikmaafeaaW.PrintMore
attribute [local go_sem] max2_int min2_int max_two min_two max_three min_three max_four min_four   -- for this text's walks alone
set_option linter.unusedVariables false
set_option linter.unusedSimpArgs false

def r02_Parts.l0 : Nat → List Int → List Int → List Int → List Int → Int → Option (List Int × List Int)
 | 0, _, _, _, _, _ => none
 | k + 1, x0, x1, x6, x7, x8 => if x8 ≥ 0 then (if 0 ≤ x8 then (if x8 < (x0.length : Int) then ((some (([rd x0 x8] : List Int) : List Int)).bind fun y282 => (if y282.length + x7.length < 35184372088832 then ((r02_Norm.f k (y282 ++ x7)).bind fun t288 => ((r02_Cmp.f k t288 x1).bind fun t291 => (if t291 ≥ 0 then ((r02_digit.f k t288 x1).bind fun bt292 => (if x8 < (x6.length : Int) then ((r02_Minus.f k t288 bt292.2).bind fun t297 => (r02_Parts.l0 k x0 x1 (x6.set (x8 : Int).toNat bt292.1) t297 (wrap64 (x8 - 1)))) else (none))) else (r02_Parts.l0 k x0 x1 x6 t288 (wrap64 (x8 - 1)))))) else (none))) else (none)) else (none)) else ((r02_Norm.f k x6).bind fun t278 => (some (t278, x7)))
def r02_Parts.f (k : Nat) (l0 : List Int) (l1 : List Int) : Option (List Int × List Int) := if 0 ≤ (l0.length : Int) then (if ((l0.length : Int) : Int).toNat ≤ 70368744177664 then (r02_Parts.l0 k l0 l1 (List.replicate ((l0.length : Int) : Int).toNat 0) ([] : List Int) (wrap64 ((l0.length : Int) - 1))) else (none)) else (none)
theorem r02_Parts.mono_l : ∀ k, (∀ y0 y1 y2 y3 y4, LeO (r02_Parts.l0 k y0 y1 y2 y3 y4) (r02_Parts.l0 (k + 1) y0 y1 y2 y3 y4))
 | 0 => fun _ _ _ _ _ r h => by simp [r02_Parts.l0] at h
 | k + 1 => by
  have ih0:=r02_Parts.mono_l k
  ·intro y0 y1 y2 y3 y4
   unfold r02_Parts.l0
   repeat' first
   | (with_reducible exact ih0 _ _ _ _ _)
   | (with_reducible exact r02_Cmp.mono _ _ _)
   | (with_reducible exact r02_Minus.mono _ _ _)
   | (with_reducible exact r02_Norm.mono _ _)
   | (with_reducible exact r02_digit.mono _ _ _)
   | (with_reducible exact LeO.refl _)
   | (with_reducible exact LeO.none _)
   | (with_reducible refine LeO.ite ?_ ?_)
   | (with_reducible refine LeO.bind ?_ (fun _ => ?_))
   | exact ih0 _ _ _ _ _
   | exact r02_Cmp.mono _ _ _
   | exact r02_Minus.mono _ _ _
   | exact r02_Norm.mono _ _
   | exact r02_digit.mono _ _ _
   | exact LeO.none _
   | refine LeO.ite ?_ ?_
   | refine LeO.bind ?_ (fun _ => ?_)
theorem r02_Parts.mono : ∀ a0 a1 k, LeO (r02_Parts.f k a0 a1) (r02_Parts.f (k + 1) a0 a1) := by
 intro a0 a1 k
 have ih0:=r02_Parts.mono_l k
 unfold r02_Parts.f
 repeat' first
   | (with_reducible exact ih0 _ _ _ _ _)
   | (with_reducible exact r02_Cmp.mono _ _ _)
   | (with_reducible exact r02_Minus.mono _ _ _)
   | (with_reducible exact r02_Norm.mono _ _)
   | (with_reducible exact r02_digit.mono _ _ _)
   | (with_reducible exact LeO.refl _)
   | (with_reducible exact LeO.none _)
   | (with_reducible refine LeO.ite ?_ ?_)
   | (with_reducible refine LeO.bind ?_ (fun _ => ?_))
   | exact ih0 _ _ _ _ _
   | exact r02_Cmp.mono _ _ _
   | exact r02_Minus.mono _ _ _
   | exact r02_Norm.mono _ _
   | exact r02_digit.mono _ _ _
   | exact LeO.none _
   | refine LeO.ite ?_ ?_
   | refine LeO.bind ?_ (fun _ => ?_)
set_option maxHeartbeats 3000000 in
set_option maxRecDepth 100000 in
theorem r02_Parts.calls (k : Nat) (A0 : Option Addr) (c0 : Nat) (l0 : List Int) (A1 : Option Addr) (c1 : Nat) (l1 : List Int) (r1 : List Int) (r2 : List Int) (w : World) (hr0 : Kd.C (Kd.int .u32) w A0 l0.length l0) (hc0 : l0.length ≤ c0) (hr1 : Kd.C (Kd.int .u32) w A1 l1.length l1) (hc1 : l1.length ≤ c1) (h : r02_Parts.f k l0 l1 = some (r1, r2)) :
  Calls Try.prog 77 #[.slice A0 l0.length c0,.slice A1 l1.length c1] w fun e w'=>∃ v0_ v1_ : Value,e = .returned (.tuple #[v0_,v1_]) ∧ Kd.R (Kd.int .u32) 72 w' w.heap.size (fun k_=>some k_ ≠ (v1_ : Value).ownBlock) v0_ r1 ∧ Kd.R (Kd.int .u32) 72 w' w.heap.size (fun k_=>some k_ ≠ (v0_ : Value).ownBlock) v1_ r2 ∧ Below w.heap.size w w':=by
 have HR0:=Aside0.mk hr0
 have HC0:=Aside0.mk hc0
 clear hr0 hc0
 have HR1:=Aside0.mk hr1
 have HC1:=Aside0.mk hc1
 clear hr1 hc1
 have HB:=Aside0.mk (Below.refl w.heap.size w)
 have H : (if 0 ≤ (l0.length : Int) then (if ((l0.length : Int) : Int).toNat ≤ 70368744177664 then (r02_Parts.l0 k l0 l1 (List.replicate ((l0.length : Int) : Int).toNat 0) ([] : List Int) (wrap64 ((l0.length : Int) - 1))) else (none)) else (none)) = some (r1,r2):=h
 clear h
 by_cases c3 : 0 ≤ (l0.length : Int)
 ·rw [if_pos c3] at H
  have c3b0:=eq_true c3
  have c3b1 : decide (0 ≤ (l0.length : Int)) = true:=decide_eq_true c3
  clear c3
  by_cases c4 : ((l0.length : Int) : Int).toNat ≤ 70368744177664
  ·rw [if_pos c4] at H
   have c4b0:=eq_true c4
   have c4b1 : decide (((l0.length : Int) : Int).toNat ≤ 70368744177664) = true:=decide_eq_true c4
   clear c4
   obtain ⟨y275,hy275⟩ : ∃ y_ : List Int,y_ = (List.replicate ((l0.length : Int) : Int).toNat 0):=⟨_,rfl⟩
   replace H : (r02_Parts.l0 k l0 l1 y275 ([] : List Int) (wrap64 ((l0.length : Int) - 1))) = some (r1,r2):=by first|(rw [hy275];with_reducible exact H)|(have H2_:=(Option.bind_some _ _).symm.trans H;rw [hy275];with_reducible exact H2_)|(have H2_:=(Option.bind_some _ _).symm.trans H;with_reducible exact H2_)|with_reducible exact H|(rw [hy275];exact H)|exact H
   have Ny275:=Aside0.mk hy275
   clear hy275
   have H':=Aside0.mk H
   clear H
   go_enter Try.func77,Try.ntmps77
   go_wp2_with (first|((with_reducible refine gate_dst (N:=14) rfl ?_);refine Kd.R_make (Kd.int .u32) _ 72 rfl (N:=14) rfl 41 _ _ rfl (l0.length : Int) rfl rfl Try.underlying41 (.int .u32 0) 4 info72 rfl (by decide) (by omega) 0 (ok:=fun _=>True) (okp:=fun _=>True) rfl (fun _ hk=>hk) trivial (of_decide_eq_true (by first|(with_reducible assumption)|assumption)) (Nat.le_trans (Nat.mul_le_mul_right _ (of_decide_eq_true (by first|(with_reducible assumption)|assumption) : (l0.length : Int).toNat ≤ 70368744177664)) (by omega)) (Below.refl _ _) (Nat.le_refl _) ?_;intro v276 w5 ho6 hb hg_ hnew_;clear hg_ hnew_;(first|rw [← Ny275.out] at ho6|(simp only [Int.reduceToNat] at ho6;rw [← Ny275.out] at ho6));have HO277:=Aside0.mk (Kd.R_lower ho6 (below_size (bl_ HB)));replace HB:=bs_ HB hb;clear hb ho6))
   go_loopg [7,8] k (fun kq v7 v8 w'=>∃ (x6_1 : List Int) (x7_1 : List Int) (x8_1 : Int),v8 = .int .i64 x8_1 ∧ Aside0 (r02_Parts.l0 kq l0 l1 x6_1 x7_1 x8_1 = some (r1,r2)) ∧ Aside0 (kq ≤ k) ∧ Aside0 (Kd.R (Kd.int .u32) 72 w' w.heap.size (fun k_=>some k_ ≠ (v7 : Value).ownBlock) v276 x6_1) ∧ Aside0 (Kd.R (Kd.int .u32) 72 w' w.heap.size (fun k_=>some k_ ≠ (v276 : Value).ownBlock) v7 x7_1) ∧ Aside0 (Below w.heap.size w w'))
   case atStart=>exact ⟨(y275),(([] : List Int)),(wrap64 ((l0.length : Int) - 1)),(by first|rfl|(simp;done)|(simp [*];done)),H',⟨Nat.le_refl _⟩,⟨by (with_reducible repeat (first|apply rA|apply rN|apply rD));exact Kd.R_mono HO277.out (fun _ hk=>(by simp [Value.ownBlock]))⟩,⟨by first|exact Kd.R_nil _ _ _ _ _|exact Kd.N_nil _ _ _ _ _|exact Kd.V_nil _ _ _ _ _|exact Kd.Q_nil _ _ _ _ _|exact Kd.S_nil _ _ _ _ _⟩,⟨bl_ HB⟩⟩
   case round =>
    clear H'
    try clear c1
    try clear p2
    try clear c3
    try clear c3b0
    try clear c3b1
    try clear c4
    try clear c4b0
    try clear c4b1
    try clear p6
    obtain ⟨x6_1,x7_1,x8_1,rfl,HA,HK1,HO_6,HO_7,HB⟩:=hrel
    cases gk with
    | zero => exact absurd HA.out (by simp [r02_Parts.l0])
    | succ k1 =>
     have H:=HA.out
     clear HA
     simp only [r02_Parts.l0] at H
     by_cases c7 : x8_1 ≥ 0
     ·rw [if_pos c7] at H
      have c7b0 : decide (0 ≤ x8_1) = true:=decide_eq_true c7
      clear c7
      by_cases c8 : 0 ≤ x8_1
      ·rw [if_pos c8] at H
       have c8b0 : decide (0 ≤ x8_1) = true:=decide_eq_true c8
       clear c8
       by_cases c9 : x8_1 < (l0.length : Int)
       ·rw [if_pos c9] at H
        have c9b0 : decide (x8_1 < (l0.length : Int)) = true:=decide_eq_true c9
        clear c9
        obtain ⟨y282,hy282⟩ : ∃ y_ : List Int,y_ = (([rd l0 x8_1] : List Int)):=⟨_,rfl⟩
        replace H : (if y282.length + x7_1.length < 35184372088832 then ((r02_Norm.f k1 (y282 ++ x7_1)).bind fun t288=>((r02_Cmp.f k1 t288 l1).bind fun t291=>(if t291 ≥ 0 then ((r02_digit.f k1 t288 l1).bind fun bt292=>(if x8_1 < (x6_1.length : Int) then ((r02_Minus.f k1 t288 bt292.2).bind fun t297=>(r02_Parts.l0 k1 l0 l1 (x6_1.set (x8_1 : Int).toNat bt292.1) t297 (wrap64 (x8_1 - 1)))) else (none))) else (r02_Parts.l0 k1 l0 l1 x6_1 t288 (wrap64 (x8_1 - 1)))))) else (none)) = some (r1,r2):=by first|(rw [hy282];with_reducible exact H)|(have H2_:=(Option.bind_some _ _).symm.trans H;rw [hy282];with_reducible exact H2_)|(have H2_:=(Option.bind_some _ _).symm.trans H;with_reducible exact H2_)|with_reducible exact H|(rw [hy282];exact H)|exact H
        have Ny282:=Aside0.mk hy282
        clear hy282
        by_cases c10 : y282.length + x7_1.length < 35184372088832
        ·rw [if_pos c10] at H
         have LMc10:=Aside0.mk c10
         clear c10
         obtain ⟨y285,hy285⟩ : ∃ y_ : List Int,y_ = (y282 ++ x7_1):=⟨_,rfl⟩
         replace H : ((r02_Norm.f k1 y285).bind fun t288=>((r02_Cmp.f k1 t288 l1).bind fun t291=>(if t291 ≥ 0 then ((r02_digit.f k1 t288 l1).bind fun bt292=>(if x8_1 < (x6_1.length : Int) then ((r02_Minus.f k1 t288 bt292.2).bind fun t297=>(r02_Parts.l0 k1 l0 l1 (x6_1.set (x8_1 : Int).toNat bt292.1) t297 (wrap64 (x8_1 - 1)))) else (none))) else (r02_Parts.l0 k1 l0 l1 x6_1 t288 (wrap64 (x8_1 - 1)))))) = some (r1,r2):=by first|(rw [hy285];with_reducible exact H)|(have H2_:=(Option.bind_some _ _).symm.trans H;rw [hy285];with_reducible exact H2_)|(have H2_:=(Option.bind_some _ _).symm.trans H;with_reducible exact H2_)|with_reducible exact H|(rw [hy285];exact H)|exact H
         have Ny285:=Aside0.mk hy285
         clear hy285
         obtain ⟨t288,A11,H⟩:=ob_ H
         try dsimp only at H
         obtain ⟨t291,A12,H⟩:=ob_ H
         try dsimp only at H
         by_cases c13 : t291 ≥ 0
         ·rw [if_pos c13] at H
          have c13b0 : decide (0 ≤ t291) = true:=decide_eq_true c13
          clear c13
          obtain ⟨⟨t292,t293⟩,A14,H⟩:=ob_ H
          try dsimp only at H
          by_cases c15 : x8_1 < (x6_1.length : Int)
          ·rw [if_pos c15] at H
           have c15b0 : decide (x8_1 < (x6_1.length : Int)) = true:=decide_eq_true c15
           clear c15
           obtain ⟨y296,hy296⟩ : ∃ y_ : List Int,y_ = (x6_1.set (x8_1 : Int).toNat t292):=⟨_,rfl⟩
           replace H : ((r02_Minus.f k1 t288 t293).bind fun t297=>(r02_Parts.l0 k1 l0 l1 y296 t297 (wrap64 (x8_1 - 1)))) = some (r1,r2):=by first|(rw [hy296];with_reducible exact H)|(have H2_:=(Option.bind_some _ _).symm.trans H;rw [hy296];with_reducible exact H2_)|(have H2_:=(Option.bind_some _ _).symm.trans H;with_reducible exact H2_)|with_reducible exact H|(rw [hy296];exact H)|exact H
           have Ny296:=Aside0.mk hy296
           clear hy296
           obtain ⟨t297,A17,H⟩:=ob_ H
           try dsimp only at H
           have H':=Aside0.mk H
           clear H
           have p281 : 0 ≤ (x8_1 : Int):=of_decide_eq_true (by first|(with_reducible assumption)|assumption)
           have q281 : x8_1 < (l0.length : Int):=of_decide_eq_true (by first|(with_reducible assumption)|assumption)
           obtain ⟨ad281,e281,hx281_0⟩:=Kd.at_int HR0.out x8_1 p281 q281
           cases e281
           replace hx281_0:=(HB.out.cell (World.block_lt_of_cell? w _ hx281_0)).trans hx281_0
           replace p281:=eq_true p281
           replace q281:=eq_true q281
           go_wp2_with (first|((with_reducible refine gate_dst (N:=26) rfl ?_);refine Kd.R_lit (Kd.int .u32) _ 72 ?hg (N:=26) ?hd (xs:=([rd l0 x8_1] : List Int)) (inner:=[.int .u32 (rd l0 x8_1)]) (ok:=fun _=>True) (okp:=fun _=>True) ?hr ?hp (fun _ hk=>hk) trivial (Below.refl _ _) (Nat.le_refl _) (by simp) ?_;(case hd=>rfl);(case hg=>rfl);(case hr=>first|(go_simp;done)|(go_simp;rfl));(case hp=>exact (Reps.one (show Kd.M (Kd.int .u32) _ _ _ (rd l0 x8_1) [.int .u32 (rd l0 x8_1)] from rfl) (Reps.none _ _)));intro v283 w18 ho19 hb hg_ hnew_;clear hg_ hnew_;(first|rw [← Ny282.out] at ho19|(simp only [Int.reduceToNat] at ho19;rw [← Ny282.out] at ho19));have HO284:=Aside0.mk (Kd.R_lower (Kd.R_new' (Kd.R_new' ho19 (Kd.R_lt (rr_ HO_6))) (Kd.R_lt (rr_ HO_7))) (below_size (bl_ HB)));replace HO_6:=Aside0.mk (Kd.R_elder' (rr_ HO_6) (Kd.R_base ho19) hb);replace HO_7:=Aside0.mk (Kd.R_elder' (rr_ HO_7) (Kd.R_base ho19) hb);replace HB:=bs_ HB hb;clear hb ho19;obtain ⟨Ao21,co21,eo21⟩:=Kd.R_slice HO_7.out;subst eo21)|((with_reducible refine gate_builtin (b:=.append) (xs:=#[.tmp 27,.tmp 28]) rfl ?_);at_builtin;refine Kd.R_append_rows (Kd.int .u32) (w0:=w) w.heap.size rfl (.tmp 27) (.tmp 28) 41 72 (.int .u32 0) 4 rfl Try.underlying41 info72 rfl (by decide) (by omega) v283 y282 x7_1 _ _ _ (fun k_=>some k_ ≠ (v276 : Value).ownBlock ∧ some k_ ≠ (.slice Ao21 x7_1.length co21 : Value).ownBlock) (fun _=>False) rfl rfl ?aO ?aR (fun _ _ h=>h) (fun _ h=>h.elim) ?aF ?aB ?aS ?aL ?_;(case aR=>repeat (first|exact (Kd.R_reads' HO_7.out).2.2|(with_reducible first|apply cA|apply cN|apply cD)));(case aB=>exact (bl_ HB));(case aF=>exact (fun k_ hk=>⟨Kd.fresh' (Kd.R_lt (rr_ HO_6)) k_ hk,Kd.fresh' (Kd.R_lt (rr_ HO_7)) k_ hk⟩));(case aO=>exact (by (with_reducible repeat (first|apply rA|apply rN|apply rD));exact Kd.R_mono HO284.out (fun _ hk=>by first|exact ⟨hk.1.2,hk.2⟩|(revert hk;simp only [and_imp];intros;(repeat' apply And.intro) <;> assumption))));(case aS=>exact (below_size (bl_ HB)));(case aL=>have:=LMc10.out;omega);intro v286 w20 ho hb hg hat;rw [← Ny285.out] at ho;replace HO_6:=Aside0.mk (Kd.R_after (ok:=(fun k_=>some k_ ≠ (.slice Ao21 x7_1.length co21 : Value).ownBlock)) (rr_ HO_6) hg hat);replace HO_7:=Aside0.mk (Kd.R_after (ok:=(fun k_=>some k_ ≠ (v276 : Value).ownBlock)) (rr_ HO_7) hg hat);replace HB:=Aside0.mk (hb);have HO287:=Aside0.mk (ho);clear ho hb hg hat;obtain ⟨Ao22,co22,eo22⟩:=Kd.R_slice HO287.out;subst eo22)|((with_reducible refine gate_callee (f:=78) rfl ?_);refine goesM (some 31) Try.func78 #[.slice Ao22 y285.length co22] ?_;(with_reducible refine (r02_Norm.calls k1 _ _ y285 t288 _ ?side1 ?side2 A11.out).mono ?_);(case side1=>repeat (first|exact (Kd.R_reads' HO287.out).2.2|(with_reducible first|apply cA|apply cN|apply cD)));(case side2=>exact (Kd.R_reads' HO287.out).2.1);rintro e w23 ⟨v289,rfl,ho0,hb⟩;refine ⟨_,rfl,?_⟩;have HO290:=Aside0.mk (Kd.R_lower (Kd.R_new' (Kd.R_new' (Kd.R_new' ho0 (Kd.R_lt (rr_ HO_6))) (Kd.R_lt (rr_ HO_7))) (Kd.R_lt (rr_ HO287))) (below_size (bl_ HB)));replace HO_6:=Aside0.mk (Kd.R_elder' (rr_ HO_6) (Kd.R_base ho0) hb);replace HO_7:=Aside0.mk (Kd.R_elder' (rr_ HO_7) (Kd.R_base ho0) hb);replace HO287:=Aside0.mk (Kd.R_elder' (rr_ HO287) (Kd.R_base ho0) hb);replace HB:=bs_ HB hb;(try clear hb);(try clear hb2);(try clear hk);(try clear hi);(try clear ho0);obtain ⟨Ao24,co24,eo24⟩:=Kd.R_slice HO290.out;subst eo24)|((with_reducible refine gate_callee (f:=61) rfl ?_);refine goesM (some 34) Try.func61 #[.slice Ao24 t288.length co24,.slice A1 l1.length c1] ?_;(with_reducible refine (r02_Cmp.calls k1 _ _ t288 _ _ l1 t291 _ ?side1 ?side2 ?side3 ?side4 A12.out).mono ?_);(case side1=>repeat (first|exact (Kd.R_reads' HO290.out).2.2|(with_reducible first|apply cA|apply cN|apply cD)));(case side2=>exact (Kd.R_reads' HO290.out).2.1);(case side3=>repeat (first|exact (Kd.C_below HR1.out HB.out)|(with_reducible first|apply cA|apply cN|apply cD)));(case side4=>exact HC1.out);rintro e w' ⟨rfl,⟨nd,rfl⟩⟩;refine ⟨_,rfl,?_⟩;(try (rw [drewN_self w23];generalize hq_ : World.drewN w23 _ = w23;have n0_ : Aside0 (Kd.R (Kd.int .u32) 72 w23 w.heap.size (fun k_=>some k_ ≠ (.slice Ao24 t288.length co24 : Value).ownBlock ∧ some k_ ≠ (v276 : Value).ownBlock ∧ some k_ ≠ (.slice Ao21 x7_1.length co21 : Value).ownBlock) (.slice Ao22 y285.length co22) y285):=⟨by rw [← hq_];exact (by (with_reducible repeat (first|apply rA|apply rN|apply rD));exact Kd.R_mono HO287.out (fun _ hk=>by first|exact ⟨hk.2,⟨hk.1.1,hk.1.2⟩⟩|(revert hk;simp only [and_imp];intros;(repeat' apply And.intro) <;> assumption)))⟩;have n1_ : Aside0 (Kd.R (Kd.int .u32) 72 w23 w.heap.size (fun k_=>some k_ ≠ (.slice Ao22 y285.length co22 : Value).ownBlock ∧ some k_ ≠ (v276 : Value).ownBlock ∧ some k_ ≠ (.slice Ao21 x7_1.length co21 : Value).ownBlock) (.slice Ao24 t288.length co24) t288):=⟨by rw [← hq_];exact (by (with_reducible repeat (first|apply rA|apply rN|apply rD));exact Kd.R_mono HO290.out (fun _ hk=>by first|exact ⟨hk.2,⟨hk.1.1.2,hk.1.2⟩⟩|(revert hk;simp only [and_imp];intros;(repeat' apply And.intro) <;> assumption)))⟩;have n2_ : Aside0 (Kd.R (Kd.int .u32) 72 w23 w.heap.size (fun k_=>some k_ ≠ (.slice Ao22 y285.length co22 : Value).ownBlock ∧ some k_ ≠ (.slice Ao24 t288.length co24 : Value).ownBlock ∧ some k_ ≠ (.slice Ao21 x7_1.length co21 : Value).ownBlock) v276 x6_1):=⟨by rw [← hq_];exact (by (with_reducible repeat (first|apply rA|apply rN|apply rD));exact Kd.R_mono HO_6.out (fun _ hk=>by first|exact ⟨hk.1.2,⟨hk.2,hk.1.1⟩⟩|(revert hk;simp only [and_imp];intros;(repeat' apply And.intro) <;> assumption)))⟩;have n3_ : Aside0 (Kd.R (Kd.int .u32) 72 w23 w.heap.size (fun k_=>some k_ ≠ (.slice Ao22 y285.length co22 : Value).ownBlock ∧ some k_ ≠ (.slice Ao24 t288.length co24 : Value).ownBlock ∧ some k_ ≠ (v276 : Value).ownBlock) (.slice Ao21 x7_1.length co21) x7_1):=⟨by rw [← hq_];exact (by (with_reducible repeat (first|apply rA|apply rN|apply rD));exact Kd.R_mono HO_7.out (fun _ hk=>by first|exact ⟨hk.1.2,⟨hk.2,hk.1.1⟩⟩|(revert hk;simp only [and_imp];intros;(repeat' apply And.intro) <;> assumption)))⟩;have n4_ : Aside0 (Below w.heap.size w w23):=⟨by rw [← hq_];exact (bl_ HB)⟩;clear HO287 HO290 HO_6 HO_7 HB hq_;have HO287:=n0_;have HO290:=n1_;have HO_6:=n2_;have HO_7:=n3_;have HB:=n4_;clear n0_ n1_ n2_ n3_ n4_)))|((with_reducible refine gate_callee (f:=84) rfl ?_);refine goesM (some 39) Try.func84 #[.slice Ao24 t288.length co24,.slice A1 l1.length c1] ?_;(with_reducible refine (r02_digit.calls k1 _ _ t288 _ _ l1 t292 t293 _ ?side1 ?side2 ?side3 ?side4 A14.out).mono ?_);(case side1=>repeat (first|exact (Kd.R_reads' HO290.out).2.2|(with_reducible first|apply cA|apply cN|apply cD)));(case side2=>exact (Kd.R_reads' HO290.out).2.1);(case side3=>repeat (first|exact (Kd.C_below HR1.out HB.out)|(with_reducible first|apply cA|apply cN|apply cD)));(case side4=>exact HC1.out);rintro e w25 ⟨v294,rfl,ho0,hb⟩;refine ⟨_,rfl,?_⟩;have HO295:=Aside0.mk (Kd.R_lower (Kd.R_new' (Kd.R_new' (Kd.R_new' (Kd.R_new' ho0 (Kd.R_lt (rr_ HO_6))) (Kd.R_lt (rr_ HO_7))) (Kd.R_lt (rr_ HO287))) (Kd.R_lt (rr_ HO290))) (below_size (bl_ HB)));replace HO_6:=Aside0.mk (Kd.R_elder' (rr_ HO_6) (Kd.R_base ho0) hb);replace HO_7:=Aside0.mk (Kd.R_elder' (rr_ HO_7) (Kd.R_base ho0) hb);replace HO287:=Aside0.mk (Kd.R_elder' (rr_ HO287) (Kd.R_base ho0) hb);replace HO290:=Aside0.mk (Kd.R_elder' (rr_ HO290) (Kd.R_base ho0) hb);replace HB:=bs_ HB hb;(try clear hb);(try clear hb2);(try clear hk);(try clear hi);(try clear ho0);have p16 : 0 ≤ (x8_1 : Int):=of_decide_eq_true (by first|(with_reducible assumption)|assumption);have q16 : (x8_1 : Int) < ((x6_1.length : Int) : Int):=of_decide_eq_true (by first|(with_reducible assumption)|assumption);obtain ⟨go16,co16,eo16,gb16,gl16,cl16,HG16⟩:=Kd.R_form HO_6.out (by omega);(first|cases eo16|(injection eo16 with ea_ en_ ec_;(first|subst ea_|(injection ea_ with ea_;subst ea_));subst ec_;clear en_));have GB16:=Aside0.mk gb16;have GG16:=Aside0.mk HG16;clear gb16 gl16 HG16;obtain ⟨hx16_0,hf16_0⟩:=Kd.R_celln 0 HO_6.out (x8_1 : Int) p16 q16;replace p16:=eq_true p16;replace q16:=eq_true q16;have n_:=Aside0.mk (Kd.R_mono (ok':=(fun k_=>some k_ ≠ (.slice Ao21 x7_1.length co21 : Value).ownBlock ∧ some k_ ≠ (.slice Ao22 y285.length co22 : Value).ownBlock ∧ some k_ ≠ (.slice Ao24 t288.length co24 : Value).ownBlock ∧ some k_ ≠ (v294 : Value).ownBlock)) HO_6.out (fun k_ hk=>by first|exact ⟨hk.1.1.1,⟨hk.1.1.2,⟨hk.1.2,hk.2⟩⟩⟩|(revert hk;simp only [and_imp];intros;(repeat' apply And.intro) <;> assumption)));clear HO_6;have HO_6:=n_;clear n_;obtain ⟨hy26_,hz26_⟩:=Kd.R_celln 0 HO_6.out (x8_1 : Int) (of_decide_eq_true (by first|(with_reducible assumption)|assumption)) (of_decide_eq_true (by first|(with_reducible assumption)|assumption));have HP26:=Kd.R_putg HO_6.out (x8_1 : Int) t292)|((with_reducible refine gate_store (t:=72) (p:=45) rfl ?_);refine store_event (t:=72) (p:=45) (v:=?vo_w27) (w1:=(w25.setCell ⟨go16,(x8_1 : Int).toNat,none⟩ (.int .u32 t292))) ?hg ?ho ?hn ?hr ?_;(case ho=>rfl);(case hg=>rfl);(case hn=>rfl);(case hr=>first|(go_simp;done)|(go_simp;rfl));intro w27 hw;have hg : w25.grownBy w27 (some go16):=(by rw [hw];exact HP26.2);have hp_ : Kd.R (Kd.int .u32) 72 w27 w.heap.size (fun k_=>some k_ ≠ (.slice Ao21 x7_1.length co21 : Value).ownBlock ∧ some k_ ≠ (.slice Ao22 y285.length co22 : Value).ownBlock ∧ some k_ ≠ (.slice Ao24 t288.length co24 : Value).ownBlock ∧ some k_ ≠ (v294 : Value).ownBlock) (.slice (some ⟨go16,0,none⟩) x6_1.length co16) y296:=(by rw [hw,Ny296.out];exact HP26.1);clear HP26;replace HO_6:=Aside0.mk (hp_);replace HO_7:=Aside0.mk (Kd.R_after (v:=(.slice (some ⟨go16,0,none⟩) x6_1.length co16)) (v1:=(.slice (some ⟨go16,0,none⟩) x6_1.length co16)) (ok:=(fun k_=>some k_ ≠ (.slice Ao22 y285.length co22 : Value).ownBlock ∧ some k_ ≠ (.slice Ao24 t288.length co24 : Value).ownBlock ∧ some k_ ≠ (v294 : Value).ownBlock)) (by (with_reducible repeat (first|apply rA|apply rN|apply rD));exact Kd.R_mono HO_7.out (fun _ hk=>by first|exact ⟨⟨hk.1.1.2,⟨hk.1.2,hk.2⟩⟩,hk.1.1.1⟩|(revert hk;simp only [and_imp];intros;(repeat' apply And.intro) <;> assumption))) hg (.inl rfl));replace HO287:=Aside0.mk (Kd.R_after (v:=(.slice (some ⟨go16,0,none⟩) x6_1.length co16)) (v1:=(.slice (some ⟨go16,0,none⟩) x6_1.length co16)) (ok:=(fun k_=>some k_ ≠ (.slice Ao21 x7_1.length co21 : Value).ownBlock ∧ some k_ ≠ (.slice Ao24 t288.length co24 : Value).ownBlock ∧ some k_ ≠ (v294 : Value).ownBlock)) (by (with_reducible repeat (first|apply rA|apply rN|apply rD));exact Kd.R_mono HO287.out (fun _ hk=>by first|exact ⟨⟨hk.1.1.2,⟨hk.1.2,hk.2⟩⟩,hk.1.1.1⟩|(revert hk;simp only [and_imp];intros;(repeat' apply And.intro) <;> assumption))) hg (.inl rfl));replace HO290:=Aside0.mk (Kd.R_after (v:=(.slice (some ⟨go16,0,none⟩) x6_1.length co16)) (v1:=(.slice (some ⟨go16,0,none⟩) x6_1.length co16)) (ok:=(fun k_=>some k_ ≠ (.slice Ao21 x7_1.length co21 : Value).ownBlock ∧ some k_ ≠ (.slice Ao22 y285.length co22 : Value).ownBlock ∧ some k_ ≠ (v294 : Value).ownBlock)) (by (with_reducible repeat (first|apply rA|apply rN|apply rD));exact Kd.R_mono HO290.out (fun _ hk=>by first|exact ⟨⟨hk.1.1.2,⟨hk.1.2,hk.2⟩⟩,hk.1.1.1.2⟩|(revert hk;simp only [and_imp];intros;(repeat' apply And.intro) <;> assumption))) hg (.inl rfl));replace HO295:=Aside0.mk (Kd.R_after (v:=(.slice (some ⟨go16,0,none⟩) x6_1.length co16)) (v1:=(.slice (some ⟨go16,0,none⟩) x6_1.length co16)) (ok:=(fun k_=>some k_ ≠ (.slice Ao21 x7_1.length co21 : Value).ownBlock ∧ some k_ ≠ (.slice Ao22 y285.length co22 : Value).ownBlock ∧ some k_ ≠ (.slice Ao24 t288.length co24 : Value).ownBlock)) (by (with_reducible repeat (first|apply rA|apply rN|apply rD));exact Kd.R_mono HO295.out (fun _ hk=>by first|exact ⟨⟨hk.1.1.2,⟨hk.1.2,hk.2⟩⟩,hk.1.1.1.2⟩|(revert hk;simp only [and_imp];intros;(repeat' apply And.intro) <;> assumption))) hg (.inl rfl));replace HB:=Aside0.mk ((by rw [hw];exact below_set (HB.out) GB16.out : Below w.heap.size w w27));clear hg hw hp_;obtain ⟨Ao28,co28,eo28⟩:=Kd.R_slice HO295.out;subst eo28)|((with_reducible refine gate_callee (f:=62) rfl ?_);refine goesM (some 48) Try.func62 #[.slice Ao24 t288.length co24,.slice Ao28 t293.length co28] ?_;(with_reducible refine (r02_Minus.calls k1 _ _ t288 _ _ t293 t297 _ ?side1 ?side2 ?side3 ?side4 A17.out).mono ?_);(case side1=>repeat (first|exact (Kd.R_reads' HO290.out).2.2|(with_reducible first|apply cA|apply cN|apply cD)));(case side2=>exact (Kd.R_reads' HO290.out).2.1);(case side3=>repeat (first|exact (Kd.R_reads' HO295.out).2.2|(with_reducible first|apply cA|apply cN|apply cD)));(case side4=>exact (Kd.R_reads' HO295.out).2.1);rintro e w29 ⟨v298,rfl,ho0,hb⟩;refine ⟨_,rfl,?_⟩;have HO299:=Aside0.mk (Kd.R_lower (Kd.R_new' (Kd.R_new' (Kd.R_new' (Kd.R_new' (Kd.R_new' ho0 (Kd.R_lt (rr_ HO_6))) (Kd.R_lt (rr_ HO_7))) (Kd.R_lt (rr_ HO287))) (Kd.R_lt (rr_ HO290))) (Kd.R_lt (rr_ HO295))) (below_size (bl_ HB)));replace HO_6:=Aside0.mk (Kd.R_elder' (rr_ HO_6) (Kd.R_base ho0) hb);replace HO_7:=Aside0.mk (Kd.R_elder' (rr_ HO_7) (Kd.R_base ho0) hb);replace HO287:=Aside0.mk (Kd.R_elder' (rr_ HO287) (Kd.R_base ho0) hb);replace HO290:=Aside0.mk (Kd.R_elder' (rr_ HO290) (Kd.R_base ho0) hb);replace HO295:=Aside0.mk (Kd.R_elder' (rr_ HO295) (Kd.R_base ho0) hb);replace HB:=bs_ HB hb;(try clear hb);(try clear hb2);(try clear hk);(try clear hi);(try clear ho0)))
           go_roundg k1
           case measure=>have:=HK1.out;omega
           case rel=>exact ⟨(y296),(t297),(wrap64 (x8_1 - 1)),(by first|rfl|(simp;done)|(simp [*];done)),H',⟨by have:=HK1.out;omega⟩,⟨by (with_reducible repeat (first|apply rA|apply rN|apply rD));exact Kd.R_mono HO_6.out (fun _ hk=>hk.2)⟩,⟨by (with_reducible repeat (first|apply rA|apply rN|apply rD));exact Kd.R_mono HO299.out (fun _ hk=>hk.1.1.1.1.2)⟩,⟨bl_ HB⟩⟩
          ·rw [if_neg c15] at H
           exact absurd H (by simp)
         ·rw [if_neg c13] at H
          have c13b0 : decide (0 ≤ t291) = false:=decide_eq_false c13
          clear c13
          have H':=Aside0.mk H
          clear H
          have p281 : 0 ≤ (x8_1 : Int):=of_decide_eq_true (by first|(with_reducible assumption)|assumption)
          have q281 : x8_1 < (l0.length : Int):=of_decide_eq_true (by first|(with_reducible assumption)|assumption)
          obtain ⟨ad281,e281,hx281_0⟩:=Kd.at_int HR0.out x8_1 p281 q281
          cases e281
          replace hx281_0:=(HB.out.cell (World.block_lt_of_cell? w _ hx281_0)).trans hx281_0
          replace p281:=eq_true p281
          replace q281:=eq_true q281
          go_wp2_with (first|((with_reducible refine gate_dst (N:=26) rfl ?_);refine Kd.R_lit (Kd.int .u32) _ 72 ?hg (N:=26) ?hd (xs:=([rd l0 x8_1] : List Int)) (inner:=[.int .u32 (rd l0 x8_1)]) (ok:=fun _=>True) (okp:=fun _=>True) ?hr ?hp (fun _ hk=>hk) trivial (Below.refl _ _) (Nat.le_refl _) (by simp) ?_;(case hd=>rfl);(case hg=>rfl);(case hr=>first|(go_simp;done)|(go_simp;rfl));(case hp=>exact (Reps.one (show Kd.M (Kd.int .u32) _ _ _ (rd l0 x8_1) [.int .u32 (rd l0 x8_1)] from rfl) (Reps.none _ _)));intro v283 w30 ho31 hb hg_ hnew_;clear hg_ hnew_;(first|rw [← Ny282.out] at ho31|(simp only [Int.reduceToNat] at ho31;rw [← Ny282.out] at ho31));have HO284:=Aside0.mk (Kd.R_lower (Kd.R_new' (Kd.R_new' ho31 (Kd.R_lt (rr_ HO_6))) (Kd.R_lt (rr_ HO_7))) (below_size (bl_ HB)));replace HO_6:=Aside0.mk (Kd.R_elder' (rr_ HO_6) (Kd.R_base ho31) hb);replace HO_7:=Aside0.mk (Kd.R_elder' (rr_ HO_7) (Kd.R_base ho31) hb);replace HB:=bs_ HB hb;clear hb ho31;obtain ⟨Ao33,co33,eo33⟩:=Kd.R_slice HO_7.out;subst eo33)|((with_reducible refine gate_builtin (b:=.append) (xs:=#[.tmp 27,.tmp 28]) rfl ?_);at_builtin;refine Kd.R_append_rows (Kd.int .u32) (w0:=w) w.heap.size rfl (.tmp 27) (.tmp 28) 41 72 (.int .u32 0) 4 rfl Try.underlying41 info72 rfl (by decide) (by omega) v283 y282 x7_1 _ _ _ (fun k_=>some k_ ≠ (v276 : Value).ownBlock ∧ some k_ ≠ (.slice Ao33 x7_1.length co33 : Value).ownBlock) (fun _=>False) rfl rfl ?aO ?aR (fun _ _ h=>h) (fun _ h=>h.elim) ?aF ?aB ?aS ?aL ?_;(case aR=>repeat (first|exact (Kd.R_reads' HO_7.out).2.2|(with_reducible first|apply cA|apply cN|apply cD)));(case aB=>exact (bl_ HB));(case aF=>exact (fun k_ hk=>⟨Kd.fresh' (Kd.R_lt (rr_ HO_6)) k_ hk,Kd.fresh' (Kd.R_lt (rr_ HO_7)) k_ hk⟩));(case aO=>exact (by (with_reducible repeat (first|apply rA|apply rN|apply rD));exact Kd.R_mono HO284.out (fun _ hk=>by first|exact ⟨hk.1.2,hk.2⟩|(revert hk;simp only [and_imp];intros;(repeat' apply And.intro) <;> assumption))));(case aS=>exact (below_size (bl_ HB)));(case aL=>have:=LMc10.out;omega);intro v286 w32 ho hb hg hat;rw [← Ny285.out] at ho;replace HO_6:=Aside0.mk (Kd.R_after (ok:=(fun k_=>some k_ ≠ (.slice Ao33 x7_1.length co33 : Value).ownBlock)) (rr_ HO_6) hg hat);replace HO_7:=Aside0.mk (Kd.R_after (ok:=(fun k_=>some k_ ≠ (v276 : Value).ownBlock)) (rr_ HO_7) hg hat);replace HB:=Aside0.mk (hb);have HO287:=Aside0.mk (ho);clear ho hb hg hat;obtain ⟨Ao34,co34,eo34⟩:=Kd.R_slice HO287.out;subst eo34)|((with_reducible refine gate_callee (f:=78) rfl ?_);refine goesM (some 31) Try.func78 #[.slice Ao34 y285.length co34] ?_;(with_reducible refine (r02_Norm.calls k1 _ _ y285 t288 _ ?side1 ?side2 A11.out).mono ?_);(case side1=>repeat (first|exact (Kd.R_reads' HO287.out).2.2|(with_reducible first|apply cA|apply cN|apply cD)));(case side2=>exact (Kd.R_reads' HO287.out).2.1);rintro e w35 ⟨v289,rfl,ho0,hb⟩;refine ⟨_,rfl,?_⟩;have HO290:=Aside0.mk (Kd.R_lower (Kd.R_new' (Kd.R_new' (Kd.R_new' ho0 (Kd.R_lt (rr_ HO_6))) (Kd.R_lt (rr_ HO_7))) (Kd.R_lt (rr_ HO287))) (below_size (bl_ HB)));replace HO_6:=Aside0.mk (Kd.R_elder' (rr_ HO_6) (Kd.R_base ho0) hb);replace HO_7:=Aside0.mk (Kd.R_elder' (rr_ HO_7) (Kd.R_base ho0) hb);replace HO287:=Aside0.mk (Kd.R_elder' (rr_ HO287) (Kd.R_base ho0) hb);replace HB:=bs_ HB hb;(try clear hb);(try clear hb2);(try clear hk);(try clear hi);(try clear ho0);obtain ⟨Ao36,co36,eo36⟩:=Kd.R_slice HO290.out;subst eo36)|((with_reducible refine gate_callee (f:=61) rfl ?_);refine goesM (some 34) Try.func61 #[.slice Ao36 t288.length co36,.slice A1 l1.length c1] ?_;(with_reducible refine (r02_Cmp.calls k1 _ _ t288 _ _ l1 t291 _ ?side1 ?side2 ?side3 ?side4 A12.out).mono ?_);(case side1=>repeat (first|exact (Kd.R_reads' HO290.out).2.2|(with_reducible first|apply cA|apply cN|apply cD)));(case side2=>exact (Kd.R_reads' HO290.out).2.1);(case side3=>repeat (first|exact (Kd.C_below HR1.out HB.out)|(with_reducible first|apply cA|apply cN|apply cD)));(case side4=>exact HC1.out);rintro e w' ⟨rfl,⟨nd,rfl⟩⟩;refine ⟨_,rfl,?_⟩))
          go_roundg k1
          case measure=>have:=HK1.out;omega
          case rel=>exact ⟨(x6_1),(t288),(wrap64 (x8_1 - 1)),(by first|rfl|(simp;done)|(simp [*];done)),H',⟨by have:=HK1.out;omega⟩,⟨by (with_reducible repeat (first|apply rA|apply rN|apply rD));exact Kd.R_mono HO_6.out (fun _ hk=>hk.2)⟩,⟨by (with_reducible repeat (first|apply rA|apply rN|apply rD));exact Kd.R_mono HO290.out (fun _ hk=>hk.1.1.2)⟩,⟨bl_ HB⟩⟩
        ·rw [if_neg c10] at H
         exact absurd H (by simp)
       ·rw [if_neg c9] at H
        exact absurd H (by simp)
      ·rw [if_neg c8] at H
       exact absurd H (by simp)
     ·rw [if_neg c7] at H
      have c7b0 : decide (0 ≤ x8_1) = false:=decide_eq_false c7
      clear c7
      obtain ⟨t278,A37,H⟩:=ob_ H
      try dsimp only at H
      simp only [Option.some.injEq,Prod.mk.injEq] at H
      obtain ⟨rfl,rfl⟩:=H
      obtain ⟨Ao38,co38,eo38⟩:=Kd.R_slice HO_6.out
      subst eo38
      go_wp2_with (first|((with_reducible refine gate_callee (f:=78) rfl ?_);refine goesM (some 50) Try.func78 #[.slice Ao38 x6_1.length co38] ?_;(with_reducible refine (r02_Norm.calls k1 _ _ x6_1 t278 _ ?side1 ?side2 A37.out).mono ?_);(case side1=>repeat (first|exact (Kd.R_reads' HO_6.out).2.2|(with_reducible first|apply cA|apply cN|apply cD)));(case side2=>exact (Kd.R_reads' HO_6.out).2.1);rintro e w39 ⟨v279,rfl,ho0,hb⟩;refine ⟨_,rfl,?_⟩;have HO280:=Aside0.mk (Kd.R_lower (Kd.R_new' (Kd.R_new' ho0 (Kd.R_lt (rr_ HO_6))) (Kd.R_lt (rr_ HO_7))) (below_size (bl_ HB)));replace HO_6:=Aside0.mk (Kd.R_elder' (rr_ HO_6) (Kd.R_base ho0) hb);replace HO_7:=Aside0.mk (Kd.R_elder' (rr_ HO_7) (Kd.R_base ho0) hb);replace HB:=bs_ HB hb;(try clear hb);(try clear hb2);(try clear hk);(try clear hi);(try clear ho0)))
      go_ret2
      exact ⟨_,_,rf_,by (with_reducible repeat (first|apply rA|apply rN|apply rD));exact Kd.R_mono HO280.out (fun _ hk=>hk.2),by (with_reducible repeat (first|apply rA|apply rN|apply rD));exact Kd.R_mono HO_7.out (fun _ hk=>hk.2),bl_ HB⟩
  ·rw [if_neg c4] at H
   exact absurd H (by simp)
 ·rw [if_neg c3] at H
  exact absurd H (by simp)

end Go.Proofs.Ytdemanikmaafeaa.Pr
