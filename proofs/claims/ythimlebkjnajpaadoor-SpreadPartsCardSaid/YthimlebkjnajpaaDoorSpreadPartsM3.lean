import Derived.Test.YthimlebkjnajpaaDoorSpreadPartsM1
import Derived.Test.YthimlebkjnajpaaDoorSpreadPartsVBox
import Derived.Deep.RegionWith
import Derived.WalkMore
import Derived.RowKit
import Derived.Laws.BitsLemmas
import Ieee.Arith
import Derived.Test.YthimlebkjnajpaaDoorSpreadPartsVWords
import Derived.Test.YthimlebkjnajpaaDoorSpreadPartsVMore
import Derived.Test.YthimlebkjnajpaaDoorSpreadPartsM0
import Derived.Lib.TrailingZeros
import Derived.Laws.BitsAllLaws
namespace Go.Proofs.YthimlebkjnajpaaDoor.Sp
open Go Go.RowKit Go.Proofs.YthimlebkjnajpaaDoor.Pr Go.Proofs.YthimlebkjnajpaaDoorW.PrintWords Go.Proofs.YthimlebkjnajpaaDoorW.PrintLast Go.Proofs.YthimlebkjnajpaaDoorW.PrintMore
set_option linter.unusedVariables false
set_option linter.unusedSimpArgs false
set_option maxHeartbeats 20000000
set_option maxRecDepth 100000
abbrev F64:Kd Nat:=Kd.float .f64
def SpS (w:World) (g:Nat) (P L:List Nat) (n:Int):Prop :=
  ∃ A0 c0 A1 c1,w.heap[g]? = some (.cells #[.slice A0 P.length c0,.slice A1 L.length c1,.int .i64 n] 70 (0,0))∧F64.C w A0 P.length P∧P.length≤c0∧F64.C w A1 L.length L∧L.length≤c1
theorem C_apart {w:World} {A:Option Addr} {g:Nat} {xs:List Nat} {B0 B1:Option Addr} {m0 m1 d0 d1:Nat} {n:Int} (h:F64.C w A xs.length xs) (hg:w.heap[g]? = some (.cells #[.slice B0 m0 d0,.slice B1 m1 d1,.int .i64 n] 70 (0,0))) :
    ∀ ad,A=some ad→0<xs.length→ad.block≠g:=by
  intro ad he hl hb
  obtain ⟨ad',e,hc⟩:=Kd.at_float h 0 (by decide) (by omega)
  subst he
  cases e
  have e0:ad.add (Int.toNat 0)=ad:=rfl
  rw [e0] at hc
  unfold World.cell? at hc
  rw [hb,hg] at hc
  dsimp only at hc
  split at hc
  · cases hc
  · generalize ad.off=z at hc
    rcases z with _ | _ | _ | o
    · simp at hc
    · simp at hc
    · simp at hc
    · simp at hc
theorem SpS.below {w w1:World} {g:Nat} {P L:List Nat} {n:Int} (h:SpS w g P L n) (hb:Below w.heap.size w w1):SpS w1 g P L n:=by
  obtain ⟨A0,c0,A1,c1,hg,r0,l0,r1,l1⟩:=h
  exact ⟨A0,c0,A1,c1,(hb.block g (blk_lt hg)).trans hg,Kd.C_below r0 hb,l0,Kd.C_below r1 hb,l1⟩
theorem SpS.lt {w:World} {g:Nat} {P L:List Nat} {n:Int} (h:SpS w g P L n):g<w.heap.size:=by
  obtain ⟨A0,c0,A1,c1,hg,_⟩:=h;exact blk_lt hg

theorem SpS.put0 {w w1:World} {g B:Nat} {P L P':List Nat} {n n':Int} {A0 A1 A2:Option Addr} {c0 c1 c2:Nat} (hg:w.heap[g]? = some (.cells #[.slice A0 P.length c0,.slice A1 L.length c1,.int .i64 n] 70 (0,0)))
    (r1:F64.C w A1 L.length L) (l1:L.length≤c1) (hb':Below w.heap.size w w1) (r2:F64.C w1 A2 P'.length P') (l2:P'.length≤c2) (hB:B≤g) :
    SpS ((w1.setCell ⟨g,0,none⟩ (.slice A2 P'.length c2)).setCell ⟨g,2,none⟩ (.int .i64 n')) g P' L n'∧KeepBut w ((w1.setCell ⟨g,0,none⟩ (.slice A2 P'.length c2)).setCell ⟨g,2,none⟩ (.int .i64 n')) g none∧Below B w ((w1.setCell ⟨g,0,none⟩ (.slice A2 P'.length c2)).setCell ⟨g,2,none⟩ (.int .i64 n')):=by
  have hg1:=(hb'.block g (blk_lt hg)).trans hg
  have r1':=Kd.C_below r1 hb'
  have k1:KeepBut w1 ((w1.setCell ⟨g,0,none⟩ (.slice A2 P'.length c2)).setCell ⟨g,2,none⟩ (.int .i64 n')) g none:=((KeepBut.refl w1 g none).set_ 0 _).set_ 2 _
  refine ⟨⟨A2,c2,A1,c1,?_,Kd.C_keep 0 r2 k1 (C_apart r2 hg1),l2,Kd.C_keep 0 r1' k1 (C_apart r1' hg1),l1⟩,((KeepBut.of_below hb' g none).set_ 0 _).set_ 2 _,?_⟩
  · refine blk_put (cs := #[.slice A2 P'.length c2,.slice A1 L.length c1,.int .i64 n]) ?_ 2 _ rfl
    exact blk_put hg1 0 _ rfl
  · have hlt:=blk_lt hg
    exact ((Below.mono hb' (by omega)).setCell (p:=⟨g,0,none⟩) hB _).setCell (p:=⟨g,2,none⟩) hB _
theorem SpS.put1 {w w1:World} {g B:Nat} {P L L':List Nat} {n n':Int} {A0 A1 A2:Option Addr} {c0 c1 c2:Nat} (hg:w.heap[g]? = some (.cells #[.slice A0 P.length c0,.slice A1 L.length c1,.int .i64 n] 70 (0,0)))
    (r0:F64.C w A0 P.length P) (l0:P.length≤c0) (hb':Below w.heap.size w w1) (r2:F64.C w1 A2 L'.length L') (l2:L'.length≤c2) (hB:B≤g) :
    SpS ((w1.setCell ⟨g,1,none⟩ (.slice A2 L'.length c2)).setCell ⟨g,2,none⟩ (.int .i64 n')) g P L' n'∧KeepBut w ((w1.setCell ⟨g,1,none⟩ (.slice A2 L'.length c2)).setCell ⟨g,2,none⟩ (.int .i64 n')) g none∧Below B w ((w1.setCell ⟨g,1,none⟩ (.slice A2 L'.length c2)).setCell ⟨g,2,none⟩ (.int .i64 n')):=by
  have hg1:=(hb'.block g (blk_lt hg)).trans hg
  have r0':=Kd.C_below r0 hb'
  have k1:KeepBut w1 ((w1.setCell ⟨g,1,none⟩ (.slice A2 L'.length c2)).setCell ⟨g,2,none⟩ (.int .i64 n')) g none:=((KeepBut.refl w1 g none).set_ 1 _).set_ 2 _
  refine ⟨⟨A0,c0,A2,c2,?_,Kd.C_keep 0 r0' k1 (C_apart r0' hg1),l0,Kd.C_keep 0 r2 k1 (C_apart r2 hg1),l2⟩,((KeepBut.of_below hb' g none).set_ 1 _).set_ 2 _,?_⟩
  · refine blk_put (cs := #[.slice A0 P.length c0,.slice A2 L'.length c2,.int .i64 n]) ?_ 2 _ rfl
    exact blk_put hg1 1 _ rfl
  · have hlt:=blk_lt hg
    exact ((Below.mono hb' (by omega)).setCell (p:=⟨g,1,none⟩) hB _).setCell (p:=⟨g,2,none⟩) hB _

theorem add_odd (g:Nat) (P L:List Nat) (n:Int) (x ax:Nat) (w:World) (hI:SpS w g P L n) (hn:decide (65536≤n)=false) (ha:math_Abs.f x=some ax)
    (hx:((FloatKind.f64.format.order x x != some .eq)=true)∨((FloatKind.f64.format.order x x != some .eq)=false∧(FloatKind.f64.format.order ax 9218868437227405311 == some .gt)=true)) :
    Calls Tryd.prog 20 #[.pointer (some ⟨g,0,none⟩),.float .f64 x] w fun e w'=>e = .returned (.int .i64 30)∧Below w.heap.size w w':=by
  obtain ⟨A0,c0,A1,c1,hg,r0,l0,r1,l1⟩:=hI
  have hc2:w.cell? ⟨g,2,none⟩=some (.int .i64 n):=(blk_cell hg 2).trans rfl
  have HA:=Aside0.mk ha
  clear hg r0 l0 r1 l1 ha
  rcases hx with hx | ⟨hx,hm⟩
  · go_enter Tryd.func20,Tryd.ntmps20
    go_wp2
    go_ret
    exact ⟨rfl,Below.refl _ _⟩
  · go_enter Tryd.func20,Tryd.ntmps20
    go_wp2_with (go_at_call 45;refine (math_Abs.calls x ax _ HA.out).mono ?_;rintro e w1 ⟨rfl,⟨⟨m1,rfl⟩⟩⟩)
    go_ret
    exact ⟨rfl,pw_below_drewN (Below.refl _ _) _⟩
theorem add_plain (k g B:Nat) (P L P':List Nat) (n:Int) (x ax T:Nat) (w:World) (hI:SpS w g P L n) (hB:B≤g) (hn:decide (65536≤n)=false) (ha:math_Abs.f x=some ax)
    (hx:(FloatKind.f64.format.order x x != some .eq)=false) (hm:(FloatKind.f64.format.order ax 9218868437227405311 == some .gt)=false)
    (hl:math_Ldexp.f 4607182418800017408 900=some T) (ht:(FloatKind.f64.format.order ax T == some .lt)=true) (hgr:spread_grown.f k P x=some P') :
    Calls Tryd.prog 20 #[.pointer (some ⟨g,0,none⟩),.float .f64 x] w fun e w'=>e = .returned (.int .i64 0)∧SpS w' g P' L (wrap64 (n+1))∧KeepBut w w' g none∧Below B w w':=by
  obtain ⟨A0,c0,A1,c1,hg,r0,l0,r1,l1⟩:=hI
  have hc2:w.cell? ⟨g,2,none⟩=some (.int .i64 n):=(blk_cell hg 2).trans rfl
  have hc0:w.cell? ⟨g,0,none⟩=some (.slice A0 P.length c0):=(blk_cell hg 0).trans rfl
  have HA:=Aside0.mk ha
  have HG:=Aside0.mk hg
  have R0:=Aside0.mk r0
  have L0:=Aside0.mk l0
  have R1:=Aside0.mk r1
  have L1:=Aside0.mk l1
  have HL:=Aside0.mk hl
  have HGR:=Aside0.mk hgr
  have HB:=Aside0.mk hB
  clear hg r0 l0 r1 l1 ha hl hgr hB
  go_enter Tryd.func20,Tryd.ntmps20
  go_wp2_with (first
    | (go_at_call 45;refine (math_Abs.calls x ax _ HA.out).mono ?_;rintro e w1 ⟨rfl,⟨⟨m1,rfl⟩⟩⟩)
    | (go_at_call 46;refine (math_Ldexp.calls _ _ T _ HL.out).mono ?_;rintro e w1 ⟨rfl,⟨⟨m2,rfl⟩⟩⟩)
    | (go_at_call 47;refine (spread_grown.calls k A0 c0 P x P' _ (by (with_reducible repeat (first | apply Kd.C_drewN | apply Kd.C_drew));exact R0.out) L0.out HGR.out).mono ?_;rintro e w1 ⟨v0,rfl,ho,hb⟩
       obtain ⟨A2,c2,rfl,hl2,hr2⟩:=Kd.R_reads ho
       have L2:=Aside0.mk hl2
       have R2:=Aside0.mk hr2
       clear hl2 hr2
       have hg1:w1.heap[g]? = some (.cells #[.slice A0 P.length c0,.slice A1 L.length c1,.int .i64 n] 70 (0,0)):=(hb.block g (blk_lt HG.out)).trans HG.out
       have hd0:w1.cell? ⟨g,0,none⟩=some (.slice A0 P.length c0):=(blk_cell hg1 0).trans rfl
       have hf0:=blk_frozen hg1 0
       have hd2:w1.cell? ⟨g,2,none⟩=some (.int .i64 n):=(blk_cell hg1 2).trans rfl
       have hf2:=blk_frozen hg1 2
       have HG1:=Aside0.mk hg1
       have HO:=Aside0.mk ho
       have HW:=Aside0.mk hb
       clear hg1 ho hb hc2 hc0))
  go_ret
  exact ⟨rfl,SpS.put0 HG.out R1.out L1.out (Below.trans (by repeat (first | exact Below.refl _ _ | apply pw_below_drewN | apply below_drew1)) HW.out) R2.out L2.out HB.out⟩
theorem add_large (k g B:Nat) (P L L':List Nat) (n:Int) (x ax T y:Nat) (w:World) (hI:SpS w g P L n) (hB:B≤g) (hn:decide (65536≤n)=false) (ha:math_Abs.f x=some ax)
    (hx:(FloatKind.f64.format.order x x != some .eq)=false) (hm:(FloatKind.f64.format.order ax 9218868437227405311 == some .gt)=false)
    (hl:math_Ldexp.f 4607182418800017408 900=some T) (ht:(FloatKind.f64.format.order ax T == some .lt)=false) (hy:math_Ldexp.f x (-200)=some y) (hgr:spread_grown.f k L y=some L') :
    Calls Tryd.prog 20 #[.pointer (some ⟨g,0,none⟩),.float .f64 x] w fun e w'=>e = .returned (.int .i64 0)∧SpS w' g P L' (wrap64 (n+1))∧KeepBut w w' g none∧Below B w w':=by
  obtain ⟨A0,c0,A1,c1,hg,r0,l0,r1,l1⟩:=hI
  have hc2:w.cell? ⟨g,2,none⟩=some (.int .i64 n):=(blk_cell hg 2).trans rfl
  have hc1:w.cell? ⟨g,1,none⟩=some (.slice A1 L.length c1):=(blk_cell hg 1).trans rfl
  have HA:=Aside0.mk ha
  have HG:=Aside0.mk hg
  have R0:=Aside0.mk r0
  have L0:=Aside0.mk l0
  have R1:=Aside0.mk r1
  have L1:=Aside0.mk l1
  have HL:=Aside0.mk hl
  have HY:=Aside0.mk hy
  have HGR:=Aside0.mk hgr
  have HB:=Aside0.mk hB
  clear hg r0 l0 r1 l1 ha hl hgr hB hy
  go_enter Tryd.func20,Tryd.ntmps20
  go_wp2_with (first
    | (go_at_call 45;refine (math_Abs.calls x ax _ HA.out).mono ?_;rintro e w1 ⟨rfl,⟨⟨m1,rfl⟩⟩⟩)
    | (go_at_call 46;refine (math_Ldexp.calls _ _ T _ HL.out).mono ?_;rintro e w1 ⟨rfl,⟨⟨m2,rfl⟩⟩⟩))
  go_region_with (first
    | (go_at_call 46;refine (math_Ldexp.calls _ _ y _ HY.out).mono ?_;rintro e w1 ⟨rfl,⟨⟨m2,rfl⟩⟩⟩)
    | (go_at_call 47;refine (spread_grown.calls k A1 c1 L y L' _ (by (with_reducible repeat (first | apply Kd.C_drewN | apply Kd.C_drew));exact R1.out) L1.out HGR.out).mono ?_;rintro e w1 ⟨v0,rfl,ho,hb⟩
       obtain ⟨A2,c2,rfl,hl2,hr2⟩:=Kd.R_reads ho
       have L2:=Aside0.mk hl2
       have R2:=Aside0.mk hr2
       clear hl2 hr2
       have hg1:w1.heap[g]? = some (.cells #[.slice A0 P.length c0,.slice A1 L.length c1,.int .i64 n] 70 (0,0)):=(hb.block g (blk_lt HG.out)).trans HG.out
       have hd1:w1.cell? ⟨g,1,none⟩=some (.slice A1 L.length c1):=(blk_cell hg1 1).trans rfl
       have hf1:=blk_frozen hg1 1
       have hd2:w1.cell? ⟨g,2,none⟩=some (.int .i64 n):=(blk_cell hg1 2).trans rfl
       have hf2:=blk_frozen hg1 2
       have HG1:=Aside0.mk hg1
       have HO:=Aside0.mk ho
       have HW:=Aside0.mk hb
       clear hg1 ho hb))
  all_goals
    go_wp2
    go_ret
    exact ⟨rfl,SpS.put1 HG.out R0.out L0.out (Below.trans (by repeat (first | exact Below.refl _ _ | apply pw_below_drewN | apply below_drew1)) HW.out) R2.out L2.out HB.out⟩
end Go.Proofs.YthimlebkjnajpaaDoor.Sp
namespace Go.Proofs.YthimlebkjnajpaaDoor.Sp
open Go Go.RowKit Go.Proofs.YthimlebkjnajpaaDoor.Pr Go.Proofs.YthimlebkjnajpaaDoorW.PrintWords Go.Proofs.YthimlebkjnajpaaDoorW.PrintLast Go.Proofs.YthimlebkjnajpaaDoorW.PrintMore
set_option linter.unusedVariables false
set_option linter.unusedSimpArgs false
def gfold (k:Nat):List Nat→List Nat→Option (List Nat)
  | P,[]=>some P
  | P,y::ys=>(spread_grown.f k P y).bind fun Q=>gfold k Q ys
def MR (w wr:World) (g B:Nat) (P L:List Nat) (n:Int) (B0 B1:Option Addr) (P2 L2:List Nat):Prop :=
  SpS wr g P L n∧KeepBut w wr g none∧Below B w wr∧F64.C wr B0 P2.length P2∧F64.C wr B1 L2.length L2
theorem MR.drewN {w wr:World} {g B:Nat} {P L:List Nat} {n:Int} {B0 B1:Option Addr} {P2 L2:List Nat} (h:MR w wr g B P L n B0 B1 P2 L2) (m:Nat):MR w (wr.drewN m) g B P L n B0 B1 P2 L2 :=
  ⟨h.1,h.2.1,pw_below_drewN h.2.2.1 m,Kd.C_drewN h.2.2.2.1 m,Kd.C_drewN h.2.2.2.2 m⟩
end Go.Proofs.YthimlebkjnajpaaDoor.Sp
namespace Go.Proofs.YthimlebkjnajpaaDoor.Sp
open Go Go.RowKit Go.Proofs.YthimlebkjnajpaaDoor.Pr Go.Proofs.YthimlebkjnajpaaDoorW.PrintWords Go.Proofs.YthimlebkjnajpaaDoorW.PrintLast Go.Proofs.YthimlebkjnajpaaDoorW.PrintMore
set_option linter.unusedVariables false
set_option linter.unusedSimpArgs false
set_option maxHeartbeats 20000000
set_option maxRecDepth 100000
abbrev Dy3:=Bool × List Int × Int
abbrev U32:Kd Int:=Kd.int .u32
def DyB (w:World) (g:Nat) (d:Dy3):Prop:=∃ A c,w.heap[g]? = some (.cells #[.bool d.1,.slice A d.2.1.length c,.int .i64 d.2.2] 30 (0,0))∧U32.C w A d.2.1.length d.2.1∧d.2.1.length≤c
def efold0 (k:Nat):Dy3→List Nat→Option Dy3
  | d,[]=>some d
  | d,x::xs=>(dyad_Of.f k x).bind fun o=>(dyad_Add.f k d.1 d.2.1 d.2.2 o.1 o.2.1 o.2.2.1).bind fun r=>efold0 k (r.1,r.2.1,r.2.2.1) xs
def efold1 (k:Nat):Dy3→List Nat→Option Dy3
  | d,[]=>some d
  | d,x::xs=>(dyad_Of.f k x).bind fun o=>(dyad_Make.f k o.1 o.2.1 (wrap64 (o.2.2.1+200))).bind fun o2=>(dyad_Add.f k d.1 d.2.1 d.2.2 o2.1 o2.2.1 o2.2.2.1).bind fun r=>efold1 k (r.1,r.2.1,r.2.2.1) xs
theorem efold0_at {k i:Nat} {d R:Dy3} {Y:List Nat} (h:efold0 k d (Y.drop i)=some R) (hi:i<Y.length):∃ o1 o2 o3 o4 r1 r2 r3 r4,dyad_Of.f k (Y.getD i 0)=some (o1,o2,o3,o4)∧dyad_Add.f k d.1 d.2.1 d.2.2 o1 o2 o3=some (r1,r2,r3,r4)∧efold0 k (r1,r2,r3) (Y.drop (i+1))=some R:=by
  rw [List.drop_eq_getElem_cons hi,efold0] at h
  obtain ⟨⟨o1,o2,o3,o4⟩,h1,h2⟩:=Option.bind_eq_some_iff.mp h
  obtain ⟨⟨r1,r2,r3,r4⟩,h3,h4⟩:=Option.bind_eq_some_iff.mp h2
  refine ⟨o1,o2,o3,o4,r1,r2,r3,r4,?_,h3,h4⟩
  rw [List.getD_eq_getElem?_getD,List.getElem?_eq_getElem hi];exact h1
theorem efold1_at {k i:Nat} {d R:Dy3} {Y:List Nat} (h:efold1 k d (Y.drop i)=some R) (hi:i<Y.length):∃ o1 o2 o3 o4 q1 q2 q3 q4 r1 r2 r3 r4,dyad_Of.f k (Y.getD i 0)=some (o1,o2,o3,o4)∧dyad_Make.f k o1 o2 (wrap64 (o3+200))=some (q1,q2,q3,q4)∧dyad_Add.f k d.1 d.2.1 d.2.2 q1 q2 q3=some (r1,r2,r3,r4)∧efold1 k (r1,r2,r3) (Y.drop (i+1))=some R:=by
  rw [List.drop_eq_getElem_cons hi,efold1] at h
  obtain ⟨⟨o1,o2,o3,o4⟩,h1,h2⟩:=Option.bind_eq_some_iff.mp h
  obtain ⟨⟨q1,q2,q3,q4⟩,h5,h6⟩:=Option.bind_eq_some_iff.mp h2
  obtain ⟨⟨r1,r2,r3,r4⟩,h3,h4⟩:=Option.bind_eq_some_iff.mp h6
  refine ⟨o1,o2,o3,o4,q1,q2,q3,q4,r1,r2,r3,r4,?_,h5,h3,h4⟩
  rw [List.getD_eq_getElem?_getD,List.getElem?_eq_getElem hi];exact h1
theorem D_apart {w:World} {A:Option Addr} {g:Nat} {xs:List Int} {B0:Option Addr} {m0 d0:Nat} {s:Bool} {n:Int} (h:U32.C w A xs.length xs) (hg:w.heap[g]? = some (.cells #[.bool s,.slice B0 m0 d0,.int .i64 n] 30 (0,0))) :
    ∀ ad,A=some ad→0<xs.length→ad.block≠g:=by
  intro ad he hl hb
  obtain ⟨ad',e,hc⟩:=Kd.at_int h 0 (by decide) (by omega)
  subst he
  cases e
  have e0:ad.add (Int.toNat 0)=ad:=rfl
  rw [e0] at hc
  unfold World.cell? at hc
  rw [hb,hg] at hc
  dsimp only at hc
  split at hc
  · cases hc
  · generalize ad.off=z at hc
    rcases z with _ | _ | _ | o
    · simp at hc
    · simp at hc
    · simp at hc
    · simp at hc
theorem below_grown {W w1:World} {g B:Nat} (h:W.grownBy w1 (some g)) (hB:B≤g) (hs:B≤W.heap.size):Below B W w1 :=
  ⟨h.os,h.tape,h.output,h.size,fun k hk=>h.block k (by omega) (by intro he;injection he;omega)⟩
theorem DyB.below {w w1:World} {g:Nat} {d:Dy3} (h:DyB w g d) (hb:Below w.heap.size w w1):DyB w1 g d:=by
  obtain ⟨A,c,hg,r,l⟩:=h
  exact ⟨A,c,(hb.block g (blk_lt hg)).trans hg,Kd.C_below r hb,l⟩
theorem DyB.far {w w1:World} {g g2:Nat} {d:Dy3} {B0:Option Addr} {m0 d0:Nat} {s:Bool} {n:Int} (h:DyB w g d) (hg2:w.heap[g2]? = some (.cells #[.bool s,.slice B0 m0 d0,.int .i64 n] 30 (0,0))) (hne:g≠g2) (hk:w.grownBy w1 (some g2)):DyB w1 g d:=by
  obtain ⟨A,c,hg,r,l⟩:=h
  exact ⟨A,c,blk_grown hg hk (by intro he;injection he with he;exact hne he),Kd.C_keep 0 r (KeepBut.of_grown hk g2 |> fun k=>⟨k.1,fun i hi hg hr=>hk.block i hi (by intro he;injection he with he;exact hg he)⟩) (D_apart r hg2),l⟩
theorem C_far {w w1:World} {g2:Nat} {A:Option Addr} {xs:List Int} {B0:Option Addr} {m0 d0:Nat} {s:Bool} {n:Int} (h:U32.C w A xs.length xs) (hg2:w.heap[g2]? = some (.cells #[.bool s,.slice B0 m0 d0,.int .i64 n] 30 (0,0))) (hk:w.grownBy w1 (some g2)):U32.C w1 A xs.length xs :=
  Kd.C_keep 0 h ⟨hk.size,fun i hi hg hr=>hk.block i hi (by intro he;injection he with he;exact hg he)⟩ (D_apart h hg2)
abbrev set3 (w:World) (g:Nat) (u0 u1 u2:Value):World:=((w.setCell ⟨g,0,none⟩ u0).setCell ⟨g,1,none⟩ u1).setCell ⟨g,2,none⟩ u2
theorem put3 {w:World} {g:Nat} {a0 a1 a2:Value} (h:w.heap[g]? = some (.cells #[a0,a1,a2] 30 (0,0))) (u0 u1 u2:Value) :
    (set3 w g u0 u1 u2).heap[g]? = some (.cells #[u0,u1,u2] 30 (0,0))∧w.grownBy (set3 w g u0 u1 u2) (some g):=by
  refine ⟨?_,?_⟩
  · refine blk_put (cs := #[u0,u1,a2]) ?_ 2 _ rfl
    refine blk_put (cs := #[u0,a1,a2]) ?_ 1 _ rfl
    exact blk_put h 0 _ rfl
  · have e:set3 w g u0 u1 u2=w.setCells g 0 [u0,u1,u2]:=rfl
    rw [e]
    obtain ⟨s1,s2,s3,s4⟩:=setCells_same g [u0,u1,u2] 0 w
    exact ⟨s1,s2,s3,by rw [s4];exact Nat.le_refl _,fun k _ hk=>setCells_far [u0,u1,u2] _ k (fun he=>hk (by rw [he]))⟩
def EX (w wr:World) (gR gO:Nat) (d:Dy3):Prop :=
  Below w.heap.size w wr∧DyB wr gO d∧w.heap.size≤gO∧wr.heap[gR]? = some (.cells #[.bool false,.slice none 0 0,.int .i64 0] 30 (0,0))∧w.heap.size≤gR∧gR≠gO
theorem EX.of {w wr w1 w2 w3:World} {gR gO g6:Nat} {d:Dy3} {o:Dy3} {Ao:Option Addr} {co:Nat} (h:EX w wr gR gO d) (hb1:Below wr.heap.size wr w1) (ro:U32.C w1 Ao o.2.1.length o.2.1) (lo:o.2.1.length≤co) (hg6:g6=w1.heap.size)
    (hb2:Below w1.heap.size w1 w2) (hx:w2.heap[g6]? = some (.cells #[.bool false,.slice none 0 0,.int .i64 0] 30 (0,0))) (hb3:w2.grownBy w3 (some g6)) (hy:w3.heap[g6]? = some (.cells #[.bool o.1,.slice Ao o.2.1.length co,.int .i64 o.2.2] 30 (0,0))) :
    EX w w3 gR gO d∧DyB w3 g6 o∧gO≠g6∧gR≠g6∧w.heap.size≤g6:=by
  obtain ⟨e1,e2,e3,e4,e5,e6⟩:=h
  have hO1:=e2.below hb1
  have hO2:=hO1.below hb2
  have hR1:=(hb1.block gR (blk_lt e4)).trans e4
  have hR2:=(hb2.block gR (blk_lt hR1)).trans hR1
  have nO:gO≠g6:=by
    obtain ⟨A,c,hg,_⟩:=hO1
    rw [hg6];exact Nat.ne_of_lt (blk_lt hg)
  have nR:gR≠g6:=by rw [hg6];exact Nat.ne_of_lt (blk_lt hR1)
  have hB1:Below w.heap.size w w1:=e1.trans (Below.mono hb1 e1.size)
  have hB2:Below w.heap.size w w2:=hB1.trans (Below.mono hb2 hB1.size)
  have hle:w.heap.size≤g6:=by rw [hg6];exact hB1.size
  have hB3:Below w.heap.size w w3:=hB2.trans (below_grown hb3 hle hB2.size)
  exact ⟨⟨hB3,hO2.far hx nO hb3,e3,blk_grown hR2 hb3 (by intro he;injection he with he;exact nR he),e5,e6⟩,⟨Ao,co,hy,C_far (Kd.C_below ro hb2) hx hb3,lo⟩,nO,nR,hle⟩
theorem EX.over {w wr w1 w2:World} {gR gO g6:Nat} {d o q:Dy3} {Aq:Option Addr} {cq:Nat} (h:EX w wr gR gO d) (h6:DyB wr g6 o) (nO:gO≠g6) (nR:gR≠g6) (hle:w.heap.size≤g6) (hb1:Below wr.heap.size wr w1) (rq:U32.C w1 Aq q.2.1.length q.2.1) (lq:q.2.1.length≤cq)
    (hb2:w1.grownBy w2 (some g6)) (hy:w2.heap[g6]? = some (.cells #[.bool q.1,.slice Aq q.2.1.length cq,.int .i64 q.2.2] 30 (0,0))):EX w w2 gR gO d∧DyB w2 g6 q:=by
  obtain ⟨e1,e2,e3,e4,e5,e6⟩:=h
  obtain ⟨A6,c6,k6,_⟩:=h6.below hb1
  have hO1:=e2.below hb1
  have hR1:=(hb1.block gR (blk_lt e4)).trans e4
  have hB1:Below w.heap.size w w1:=e1.trans (Below.mono hb1 e1.size)
  exact ⟨⟨hB1.trans (below_grown hb2 hle hB1.size),hO1.far k6 nO hb2,e3,blk_grown hR1 hb2 (by intro he;injection he with he;exact nR he),e5,e6⟩,⟨Aq,cq,hy,C_far rq k6 hb2,lq⟩⟩
theorem EX.sum {w wr w1 w2:World} {gR gO:Nat} {d q:Dy3} {Aq:Option Addr} {cq:Nat} (h:EX w wr gR gO d) (hb1:Below wr.heap.size wr w1) (rq:U32.C w1 Aq q.2.1.length q.2.1) (lq:q.2.1.length≤cq)
    (hb2:w1.grownBy w2 (some gO)) (hy:w2.heap[gO]? = some (.cells #[.bool q.1,.slice Aq q.2.1.length cq,.int .i64 q.2.2] 30 (0,0))):EX w w2 gR gO q:=by
  obtain ⟨e1,e2,e3,e4,e5,e6⟩:=h
  obtain ⟨A6,c6,k6,_⟩:=e2.below hb1
  have hR1:=(hb1.block gR (blk_lt e4)).trans e4
  have hB1:Below w.heap.size w w1:=e1.trans (Below.mono hb1 e1.size)
  exact ⟨hB1.trans (below_grown hb2 e3 hB1.size),⟨Aq,cq,hy,C_far rq k6 hb2,lq⟩,e3,blk_grown hR1 hb2 (by intro he;injection he with he;exact e6 he),e5,e6⟩
theorem exact_calls (k g:Nat) (P L:List Nat) (n:Int) (d R:Dy3) (w:World) (hG:GlobLaid w) (hI:SpS w g P L n) (h0:efold0 k (false,[],0) P=some d) (h1:efold1 k d L=some R) :
    Calls Tryd.prog 12 #[.pointer (some ⟨g,0,none⟩)] w fun e w'=>∃ A c,e = .returned (.agg #[.bool R.1,.slice A R.2.1.length c,.int .i64 R.2.2])∧U32.C w' A R.2.1.length R.2.1∧R.2.1.length≤c∧Below w.heap.size w w':=by
  have HI:=Aside0.mk hI
  have HF0:=Aside0.mk h0
  have HF1:=Aside0.mk h1
  have HGL:=Aside0.mk hG
  obtain ⟨A0,c0,A1,cL,hg,r0,l0,r1,l1⟩:=hI
  have hc0:w.cell? ⟨g,0,none⟩=some (.slice A0 P.length c0):=(blk_cell hg 0).trans rfl
  have HG:=Aside0.mk hg
  have R0:=Aside0.mk r0
  have R1:=Aside0.mk r1
  have hlen:P.length≤9223372036854775807∧L.length≤9223372036854775807:=⟨r0.2.1,r1.2.1⟩
  have HLN:=Aside0.mk hlen
  clear hg r0 l0 r1 l1 h0 h1 hlen hG
  go_enter Tryd.func12,Tryd.ntmps12
  go_wp2_with (first
    | ((with_reducible refine gate_dst (N:=2) rfl ?_);refine box_event ?hg (N:=2) ?hd (cs := #[.bool false,.slice none 0 0,.int .i64 0]) (t:=30) ?hr ?_;(case hd=>rfl);(case hg=>rfl);(case hr=>first | (go_simp;done) | (go_simp;rfl));intro gR hgR w1 hboxR hbR
       have HR1:=Aside0.mk hboxR
       have HBR:=Aside0.mk hbR
       have HGR:=Aside0.mk hgR
       clear hboxR hbR hgR)
    | ((with_reducible refine gate_dst (N:=3) rfl ?_);refine box_event ?hg (N:=3) ?hd (cs := #[.bool false,.slice none 0 0,.int .i64 0]) (t:=30) ?hr ?_;(case hd=>rfl);(case hg=>rfl);(case hr=>first | (go_simp;done) | (go_simp;rfl));intro gO hgO w2 hboxO hbO
       have hb2:Below w.heap.size w w2:=HBR.out.trans (Below.mono hbO HBR.out.size)
       have hc0':w2.cell? ⟨g,0,none⟩=some (.slice A0 P.length c0):=(blk_cell ((hb2.block g (blk_lt HG.out)).trans HG.out) 0).trans rfl
       have hex:EX w w2 gR gO (false,[],0):=⟨hb2,⟨none,0,hboxO,Kd.C_nil U32 w2,Nat.le_refl _⟩,by rw [hgO];exact HBR.out.size,(hbO.block gR (blk_lt HR1.out)).trans HR1.out,by rw [HGR.out];exact Nat.le_refl _,by rw [hgO];exact Nat.ne_of_lt (blk_lt HR1.out)⟩
       have HEX:=Aside0.mk hex
       clear hboxO hbO hgO hb2 hex hc0))
  go_loopg [17] P.length (fun q v wr=>∃ (i:Nat) (d':Dy3),i≤P.length∧q=P.length - i∧v = .int .i64 i∧Aside0 (EX w wr gR gO d')∧Aside0 (efold0 k d' (P.drop i)=some d))
  case atStart=>exact ⟨0,(false,[],0),by omega,by omega,rfl,HEX,⟨HF0.out⟩⟩
  case round =>
    clear HEX hc0'
    obtain ⟨i,d',hi,hq,rfl,HX,HF⟩:=hrel
    have HGk:=Aside0.mk hq
    have HIi:=Aside0.mk hi
    clear hq hi
    by_cases hlt:i<P.length
    · have c1:decide ((i:Int)<(P.length:Int))=true:=decide_eq_true (by omega)
      have c2:decide (i<P.length)=true:=decide_eq_true hlt
      have c5:=eq_true hlt
      have HLT:=Aside0.mk hlt
      have hw0:IntKind.i64.wrap ((i:Int)+1)=(i:Int)+1:=by rw [i64_w];unfold wrap64;have:=HLN.out.1;omega
      clear hlt
      obtain ⟨ad,e,hx⟩:=Kd.at_float R0.out (i:Int) (by omega) (by have:=HLT.out;omega)
      subst e
      rw [Int.toNat_natCast] at hx
      replace hx:=(HX.out.1.cell (World.block_lt_of_cell? w _ hx)).trans hx
      obtain ⟨o1,o2,o3,o4,r1,r2,r3,r4,ho,hr,hf⟩:=efold0_at HF.out HLT.out
      have HO:=Aside0.mk ho
      have HR:=Aside0.mk hr
      have HF2:=Aside0.mk hf
      have hrd:rdOf (0:Nat) P (i:Int)=P.getD i 0:=by unfold rdOf;rw [Int.toNat_natCast]
      rw [hrd] at hx
      generalize P.getD i 0=y at hx HO
      clear ho hr hf hrd
      go_wp2_with (first
        | (go_at_call 37;refine (dyad_Of.calls k y o1 o2 o3 o4 _ (GlobLaid.below HGL.out HX.out.1) HO.out).mono ?_;rintro e w1 ⟨v1,rfl,hq1,hb1⟩
           obtain ⟨Ao,co,rfl,_⟩:=Kd.Q_slice hq1
           have RO:=Aside0.mk (Kd.Q_reads' hq1).2.2
           have LO:=Aside0.mk (Kd.Q_reads' hq1).2.1
           have HB1:=Aside0.mk hb1
           clear hq1 hb1 hx)
        | ((with_reducible refine gate_dst (N:=6) rfl ?_);refine box_event ?hg (N:=6) ?hd (cs := #[.bool false,.slice none 0 0,.int .i64 0]) (t:=30) ?hr ?_;(case hd=>rfl);(case hg=>rfl);(case hr=>first | (go_simp;done) | (go_simp;rfl));intro g6 hg6 w2 hbox hb2
           obtain ⟨hy,hb3⟩:=put3 hbox (.bool o1) (.slice Ao o2.length co) (.int .i64 o3)
           obtain ⟨x1,x2,x3,x4,x5⟩:=EX.of (o:=(o1,o2,o3)) HX.out HB1.out RO.out LO.out hg6 hb2 hbox hb3 hy
           have hp0:w2.cell? ⟨g6,0,none⟩=some (.bool false):=(blk_cell hbox 0).trans rfl
           have hp1:w2.cell? ⟨g6,1,none⟩=some (.slice none 0 0):=(blk_cell hbox 1).trans rfl
           have hp2:w2.cell? ⟨g6,2,none⟩=some (.int .i64 0):=(blk_cell hbox 2).trans rfl
           have hf0:=blk_frozen hbox 0
           have hf1:=blk_frozen hbox 1
           have hf2:=blk_frozen hbox 2
           have HX3:=Aside0.mk x1
           obtain ⟨Ad,cd,hgO,rd,ld⟩:=(HX.out.2.1.below HB1.out).below hb2
           have hq0:w2.cell? ⟨gO,0,none⟩=some (.bool d'.1):=(blk_cell hgO 0).trans rfl
           have hq1:w2.cell? ⟨gO,1,none⟩=some (.slice Ad d'.2.1.length cd):=(blk_cell hgO 1).trans rfl
           have hq2:w2.cell? ⟨gO,2,none⟩=some (.int .i64 d'.2.2):=(blk_cell hgO 2).trans rfl
           have hne:=x3
           have hne2:=Ne.symm x3
           have RD:=Aside0.mk (C_far rd hbox hb3)
           have LD:=Aside0.mk ld
           have RE:=Aside0.mk (C_far (Kd.C_below RO.out hb2) hbox hb3)
           have LE:=Aside0.mk LO.out
           clear x1 x2 x3 x4 x5 hgO rd ld hy hb3 hg6 hbox hb2)
        | (go_at_call 38;refine (dyad_Add.calls k d'.1 Ad cd d'.2.1 d'.2.2 o1 Ao co o2 o3 r1 r2 r3 r4 _ (GlobLaid.below HGL.out HX3.out.1) RD.out LD.out RE.out LE.out HR.out).mono ?_;rintro e w4 ⟨v4,rfl,hq4,hb4⟩
           obtain ⟨Aq,cq,rfl,_⟩:=Kd.Q_slice hq4
           obtain ⟨Am,cm,hgm,_,_⟩:=HX3.out.2.1.below hb4
           obtain ⟨hy4,hb5⟩:=put3 hgm (.bool r1) (.slice Aq r2.length cq) (.int .i64 r3)
           have HXn:=Aside0.mk (EX.sum (q:=(r1,r2,r3)) HX3.out hb4 (Kd.Q_reads' hq4).2.2 (Kd.Q_reads' hq4).2.1 hb5 hy4)
           have hm0:w4.cell? ⟨gO,0,none⟩=some (.bool d'.1):=(blk_cell hgm 0).trans rfl
           have hm1:w4.cell? ⟨gO,1,none⟩=some (.slice Am d'.2.1.length cm):=(blk_cell hgm 1).trans rfl
           have hm2:w4.cell? ⟨gO,2,none⟩=some (.int .i64 d'.2.2):=(blk_cell hgm 2).trans rfl
           have hk0:=blk_frozen hgm 0
           have hk1:=blk_frozen hgm 1
           have hk2:=blk_frozen hgm 2
           clear hq4 hb4 hgm hy4 hb5 hp0 hp1 hp2 hf0 hf1 hf2 hq0 hq1 hq2))
      go_roundg (P.length - (i+1))
      case measure=>have:=HLT.out;have:=HGk.out;omega
      case rel=>exact ⟨i+1,(r1,r2,r3),HLT.out,rfl,by simp,HXn,HF2⟩
    · have c1:decide ((i:Int)<(P.length:Int))=false:=decide_eq_false (by omega)
      have c2:decide (i<P.length)=false:=decide_eq_false hlt
      have hi':i=P.length:=by have:=HIi.out;omega
      subst hi'
      have hd':d'=d:=by have:=HF.out;rw [List.drop_length,efold0] at this;exact Option.some.inj this
      subst hd'
      have HX2:=HX
      have hc1:wr.cell? ⟨g,1,none⟩=some (.slice A1 L.length cL):=(blk_cell ((HX.out.1.block g (blk_lt HG.out)).trans HG.out) 1).trans rfl
      clear hlt HF HGk HIi c1 c2 HX
      go_wp2
      go_loopg [38] L.length (fun q v wq=>∃ (i:Nat) (e':Dy3),i≤L.length∧q=L.length - i∧v = .int .i64 i∧Aside0 (EX w wq gR gO e')∧Aside0 (efold1 k e' (L.drop i)=some R))
      case atStart=>exact ⟨0,d',by omega,by omega,rfl,HX2,⟨HF1.out⟩⟩
      case round =>
        clear HX2 hc1
        obtain ⟨i,e',hi,hq,rfl,HX,HF⟩:=hrel
        have HGk:=Aside0.mk hq
        have HIi:=Aside0.mk hi
        clear hq hi
        by_cases hlt:i<L.length
        · have c1:decide ((i:Int)<(L.length:Int))=true:=decide_eq_true (by omega)
          have c2:decide (i<L.length)=true:=decide_eq_true hlt
          have c5:=eq_true hlt
          have HLT:=Aside0.mk hlt
          have hw0:IntKind.i64.wrap ((i:Int)+1)=(i:Int)+1:=by rw [i64_w];unfold wrap64;have:=HLN.out.2;omega
          clear hlt
          obtain ⟨ad,e,hx⟩:=Kd.at_float R1.out (i:Int) (by omega) (by have:=HLT.out;omega)
          subst e
          rw [Int.toNat_natCast] at hx
          replace hx:=(HX.out.1.cell (World.block_lt_of_cell? w _ hx)).trans hx
          obtain ⟨o1,o2,o3,o4,q1,q2,q3,q4,r1,r2,r3,r4,ho,hmk,hr,hf⟩:=efold1_at HF.out HLT.out
          have HO:=Aside0.mk ho
          have HMK:=Aside0.mk hmk
          have HR:=Aside0.mk hr
          have HF2:=Aside0.mk hf
          have hrd:rdOf (0:Nat) L (i:Int)=L.getD i 0:=by unfold rdOf;rw [Int.toNat_natCast]
          rw [hrd] at hx
          generalize L.getD i 0=y at hx HO
          clear ho hr hf hrd hmk
          go_wp2_with (first
            | (go_at_call 37;refine (dyad_Of.calls k y o1 o2 o3 o4 _ (GlobLaid.below HGL.out HX.out.1) HO.out).mono ?_;rintro e w1 ⟨v1,rfl,hq1,hb1⟩
               obtain ⟨Ao,co,rfl,_⟩:=Kd.Q_slice hq1
               have RO:=Aside0.mk (Kd.Q_reads' hq1).2.2
               have LO:=Aside0.mk (Kd.Q_reads' hq1).2.1
               have HB1:=Aside0.mk hb1
               clear hq1 hb1 hx)
            | ((with_reducible refine gate_dst (N:=10) rfl ?_);refine box_event ?hg (N:=10) ?hd (cs := #[.bool false,.slice none 0 0,.int .i64 0]) (t:=30) ?hr ?_;(case hd=>rfl);(case hg=>rfl);(case hr=>first | (go_simp;done) | (go_simp;rfl));intro g6 hg6 w2 hbox hb2
               obtain ⟨hy,hb3⟩:=put3 hbox (.bool o1) (.slice Ao o2.length co) (.int .i64 o3)
               obtain ⟨x1,x2,x3,x4,x5⟩:=EX.of (o:=(o1,o2,o3)) HX.out HB1.out RO.out LO.out hg6 hb2 hbox hb3 hy
               have hp0:w2.cell? ⟨g6,0,none⟩=some (.bool false):=(blk_cell hbox 0).trans rfl
               have hp1:w2.cell? ⟨g6,1,none⟩=some (.slice none 0 0):=(blk_cell hbox 1).trans rfl
               have hp2:w2.cell? ⟨g6,2,none⟩=some (.int .i64 0):=(blk_cell hbox 2).trans rfl
               have hf0:=blk_frozen hbox 0
               have hf1:=blk_frozen hbox 1
               have hf2:=blk_frozen hbox 2
               have HX3:=Aside0.mk x1
               have HD3:=Aside0.mk x2
               have HNO:=Aside0.mk x3
               have HNR:=Aside0.mk x4
               have HLE:=Aside0.mk x5
               have RE:=Aside0.mk (C_far (Kd.C_below RO.out hb2) hbox hb3)
               have LE:=Aside0.mk LO.out
               clear x1 x2 x3 x4 x5 hy hb3 hg6 hbox hb2)
            | (go_at_call 39;(try simp only [i64_w]);refine (dyad_Make.calls k o1 Ao co o2 (wrap64 (o3+200)) q1 q2 q3 q4 _ (GlobLaid.below HGL.out HX3.out.1) RE.out LE.out HMK.out).mono ?_;rintro e w4 ⟨v4,rfl,hq4,hb4⟩
               obtain ⟨Aq,cq,rfl,_⟩:=Kd.Q_slice hq4
               obtain ⟨Am,cm,hgm,_,_⟩:=HD3.out.below hb4
               obtain ⟨hy4,hb5⟩:=put3 hgm (.bool q1) (.slice Aq q2.length cq) (.int .i64 q3)
               obtain ⟨x1,x2⟩:=EX.over (q:=(q1,q2,q3)) HX3.out HD3.out HNO.out HNR.out HLE.out hb4 (Kd.Q_reads' hq4).2.2 (Kd.Q_reads' hq4).2.1 hb5 hy4
               have HX5:=Aside0.mk x1
               have RQ:=Aside0.mk (C_far (Kd.Q_reads' hq4).2.2 hgm hb5)
               have LQ:=Aside0.mk (Kd.Q_reads' hq4).2.1
               have hm0:w4.cell? ⟨g6,0,none⟩=some (.bool o1):=(blk_cell hgm 0).trans rfl
               have hm1:w4.cell? ⟨g6,1,none⟩=some (.slice Am o2.length cm):=(blk_cell hgm 1).trans rfl
               have hm2:w4.cell? ⟨g6,2,none⟩=some (.int .i64 o3):=(blk_cell hgm 2).trans rfl
               have hk0:=blk_frozen hgm 0
               have hk1:=blk_frozen hgm 1
               have hk2:=blk_frozen hgm 2
               obtain ⟨Ad,cd,hgO,rd,ld⟩:=HX3.out.2.1.below hb4
               have hq0:w4.cell? ⟨gO,0,none⟩=some (.bool e'.1):=(blk_cell hgO 0).trans rfl
               have hq1:w4.cell? ⟨gO,1,none⟩=some (.slice Ad e'.2.1.length cd):=(blk_cell hgO 1).trans rfl
               have hq2:w4.cell? ⟨gO,2,none⟩=some (.int .i64 e'.2.2):=(blk_cell hgO 2).trans rfl
               have hne:=HNO.out
               have hne2:=Ne.symm HNO.out
               have RD:=Aside0.mk (C_far rd hgm hb5)
               have LD:=Aside0.mk ld
               clear hq4 hb4 hgm hy4 hb5 x1 x2 hgO rd ld hp0 hp1 hp2 hf0 hf1 hf2)
            | (go_at_call 38;refine (dyad_Add.calls k e'.1 Ad cd e'.2.1 e'.2.2 q1 Aq cq q2 q3 r1 r2 r3 r4 _ (GlobLaid.below HGL.out HX5.out.1) RD.out LD.out RQ.out LQ.out HR.out).mono ?_;rintro e w6 ⟨v6,rfl,hq6,hb6⟩
               obtain ⟨As,cs,rfl,_⟩:=Kd.Q_slice hq6
               obtain ⟨An,cn,hgn,_,_⟩:=HX5.out.2.1.below hb6
               obtain ⟨hy6,hb7⟩:=put3 hgn (.bool r1) (.slice As r2.length cs) (.int .i64 r3)
               have HXn:=Aside0.mk (EX.sum (q:=(r1,r2,r3)) HX5.out hb6 (Kd.Q_reads' hq6).2.2 (Kd.Q_reads' hq6).2.1 hb7 hy6)
               have hn0:w6.cell? ⟨gO,0,none⟩=some (.bool e'.1):=(blk_cell hgn 0).trans rfl
               have hn1:w6.cell? ⟨gO,1,none⟩=some (.slice An e'.2.1.length cn):=(blk_cell hgn 1).trans rfl
               have hn2:w6.cell? ⟨gO,2,none⟩=some (.int .i64 e'.2.2):=(blk_cell hgn 2).trans rfl
               have hl0:=blk_frozen hgn 0
               have hl1:=blk_frozen hgn 1
               have hl2:=blk_frozen hgn 2
               clear hq6 hb6 hgn hy6 hb7 hm0 hm1 hm2 hk0 hk1 hk2 hq0 hq1 hq2))
          go_roundg (L.length - (i+1))
          case measure=>have:=HLT.out;have:=HGk.out;omega
          case rel=>exact ⟨i+1,(r1,r2,r3),HLT.out,rfl,by simp,HXn,HF2⟩
        · have c1:decide ((i:Int)<(L.length:Int))=false:=decide_eq_false (by omega)
          have c2:decide (i<L.length)=false:=decide_eq_false hlt
          have hi':i=L.length:=by have:=HIi.out;omega
          subst hi'
          have hd':e'=R:=by have:=HF.out;rw [List.drop_length,efold1] at this;exact Option.some.inj this
          subst hd'
          obtain ⟨b1,b2,b3,b4,b5,b6⟩:=HX.out
          obtain ⟨Ad,cd,hgO,rd,ld⟩:=b2
          have hq0:wr.cell? ⟨gO,0,none⟩=some (.bool e'.1):=(blk_cell hgO 0).trans rfl
          have hq1:wr.cell? ⟨gO,1,none⟩=some (.slice Ad e'.2.1.length cd):=(blk_cell hgO 1).trans rfl
          have hq2:wr.cell? ⟨gO,2,none⟩=some (.int .i64 e'.2.2):=(blk_cell hgO 2).trans rfl
          have hp0:wr.cell? ⟨gR,0,none⟩=some (.bool false):=(blk_cell b4 0).trans rfl
          have hp1:wr.cell? ⟨gR,1,none⟩=some (.slice none 0 0):=(blk_cell b4 1).trans rfl
          have hp2:wr.cell? ⟨gR,2,none⟩=some (.int .i64 0):=(blk_cell b4 2).trans rfl
          have hk0:=blk_frozen b4 0
          have hk1:=blk_frozen b4 1
          have hk2:=blk_frozen b4 2
          obtain ⟨hyR,hbR⟩:=put3 b4 (.bool e'.1) (.slice Ad e'.2.1.length cd) (.int .i64 e'.2.2)
          have HYR:=Aside0.mk hyR
          have HFIN:=Aside0.mk (show Below w.heap.size w (set3 wr gR (.bool e'.1) (.slice Ad e'.2.1.length cd) (.int .i64 e'.2.2)) from b1.trans (below_grown hbR b5 b1.size))
          have RD:=Aside0.mk (C_far rd b4 hbR)
          have LD:=Aside0.mk ld
          clear hlt HF HGk HIi c1 c2 hyR hbR b1 b3 b4 b5 b6 hgO rd ld
          go_wp2
          refine bodyPost_ret (results_cell_row rfl _ _ gR 30 #[.bool e'.1,.slice Ad e'.2.1.length cd,.int .i64 e'.2.2] (0,0) _ rfl HYR.out Tryd.underlying30 rfl (by kernel_rfl)) rfl ?_
          exact ⟨Ad,cd,rfl,RD.out,LD.out,HFIN.out⟩
end Go.Proofs.YthimlebkjnajpaaDoor.Sp
namespace Go.Proofs.YthimlebkjnajpaaDoor.Sp
open Go Go.RowKit Go.Proofs.YthimlebkjnajpaaDoor.Pr Go.Proofs.YthimlebkjnajpaaDoorW.PrintWords Go.Proofs.YthimlebkjnajpaaDoorW.PrintLast Go.Proofs.YthimlebkjnajpaaDoorW.PrintMore
set_option linter.unusedVariables false
set_option linter.unusedSimpArgs false
attribute [local go_sem] max_two min_two
set_option maxHeartbeats 20000000
set_option maxRecDepth 100000
theorem round_calls (k g:Nat) (P L:List Nat) (n m:Int) (d R:Dy3) (r1:Nat) (r2:Int) (w:World) (hG:GlobLaid w) (hI:SpS w g P L n) (h0:efold0 k (false,[],0) P=some d) (h1:efold1 k d L=some R) (hr:dyad_Round.f k R.1 R.2.1 R.2.2 m=some (r1,r2)) :
    Calls Tryd.prog 13 #[.pointer (some ⟨g,0,none⟩),.int .i64 m] w fun e w'=>e = .returned (.tuple #[.float .f64 r1,.int .i64 r2])∧Below w.heap.size w w':=by
  have HI:=Aside0.mk hI
  have HF0:=Aside0.mk h0
  have HF1:=Aside0.mk h1
  have HGL:=Aside0.mk hG
  have HR:=Aside0.mk hr
  clear hI h0 h1 hG hr
  go_enter Tryd.func13,Tryd.ntmps13
  go_wp2_with (first
    | (go_at_call 12;refine (exact_calls k g P L n d R _ HGL.out HI.out HF0.out HF1.out).mono ?_;rintro e w1 ⟨A,c,rfl,hc,hl,hb⟩
       have RC:=Aside0.mk hc
       have LC:=Aside0.mk hl
       have HB:=Aside0.mk hb
       clear hc hl hb)
    | (go_at_call 40;refine (dyad_Round.calls k R.1 A c R.2.1 R.2.2 m r1 r2 _ (GlobLaid.below HGL.out HB.out) RC.out LC.out HR.out).mono ?_;rintro e w2 ⟨rfl,hb2⟩
       have HB2:=Aside0.mk (HB.out.trans (Below.mono hb2 HB.out.size))
       clear hb2))
  go_ret2
  exact ⟨rfl,HB2.out⟩

def cl (x:Nat):Nat:=fmx .f64 18442240474082181119 (fmn .f64 9218868437227405311 x)
def prt (k:Nat):Nat→Dy3→List Nat→Option (List Nat)
  | 0,_,_=>none
  | q+1,d,acc=>(dyad_Sign.f k d.1 d.2.1 d.2.2).bind fun s=>if s=0 then some acc else (dyad_Round.f k d.1 d.2.1 d.2.2 0).bind fun x =>
    if (FloatKind.f64.format.order 9218868437227405311 x.1).isSome=true∧(FloatKind.f64.format.order 18442240474082181119 (fmn .f64 9218868437227405311 x.1)).isSome=true∧acc.length<17592186044416 then
      (dyad_Of.f k (cl x.1)).bind fun o=>(dyad_Sub.f k d.1 d.2.1 d.2.2 o.1 o.2.1 o.2.2.1).bind fun l=>prt k q (l.1,l.2.1,l.2.2.1) (acc++[cl x.1])
    else none
def PX (w wr:World) (gL:Nat) (d:Dy3) (v:Value) (acc:List Nat):Prop :=
  Below w.heap.size w wr∧DyB wr gL d∧w.heap.size≤gL∧Kd.R F64 34 wr w.heap.size (fun _=>True) v acc
theorem rows_ne {W:World} {b1 b2:Nat} {v u:Value} {acc:List Nat} {l:List Int} (hR:Kd.R F64 34 W b1 (fun _=>True) v acc) (hQ:Kd.Q U32 68 W b2 (fun _=>True) u l):∀ k,v.ownBlock=some k→some k≠u.ownBlock:=by
  intro k hk e
  obtain ⟨_,_,_,q,hq,c1,h1⟩:=(Kd.R_bound hR).1 k hk
  obtain ⟨_,_,_,q2,hq2,c2,h2⟩:=(Kd.Q_bound hQ).1 k e.symm
  have e1:q=34:=by simpa [F64,Kd.float,Kd.scalar] using hq
  have e2:q2=68:=by simpa [U32,Kd.int,Kd.scalar] using hq2
  rw [h1] at h2
  injection h2 with h2
  injection h2 with _ h2
  rw [e1,e2] at h2
  exact absurd h2 (by decide)
theorem PX.app {w W w7:World} {gL b2:Nat} {l:Dy3} {A:Option Addr} {c:Nat} {v v1:Value} {acc acc':List Nat} (hB:Below w.heap.size w w7) (hQ:Kd.Q U32 68 W b2 (fun _=>True) (.slice A l.2.1.length c) l.2.1)
    (hg:W.heap[gL]? = some (.cells #[.bool l.1,.slice A l.2.1.length c,.int .i64 l.2.2] 30 (0,0))) (hle:w.heap.size≤gL) (hO:Kd.R F64 34 W w.heap.size (fun _=>True) v acc) (hr:Kd.R F64 34 w7 w.heap.size (fun _=>True) v1 acc') (hgr:W.grownBy w7 v.ownBlock):PX w w7 gL l v1 acc':=by
  refine ⟨hB,⟨A,c,blk_grown hg hgr (Kd.R_ne hO hg (by decide)),?_,(Kd.Q_reads' hQ).2.1⟩,hle,hr⟩
  exact (Kd.Q_reads' (Kd.Q_grown2 hQ rfl hgr (rows_ne hO hQ))).2.2
theorem parts_calls (k N g:Nat) (P L X:List Nat) (n:Int) (d R:Dy3) (w:World) (hG:GlobLaid w) (hI:SpS w g P L n) (h0:efold0 k (false,[],0) P=some d) (h1:efold1 k d L=some R) (hp:prt k N R []=some X) :
    Calls Tryd.prog 14 #[.pointer (some ⟨g,0,none⟩)] w fun e w'=>∃ v,e = .returned v∧Kd.R F64 34 w' w.heap.size (fun _=>True) v X∧Below w.heap.size w w':=by
  have HI:=Aside0.mk hI
  have HF0:=Aside0.mk h0
  have HF1:=Aside0.mk h1
  have HGL:=Aside0.mk hG
  have HP:=Aside0.mk hp
  clear hI h0 h1 hG hp
  go_enter Tryd.func14,Tryd.ntmps14
  go_wp2
  go_step3
  go_wp2_with (first
    | (go_at_call 12;refine (exact_calls k g P L n d R _ HGL.out HI.out HF0.out HF1.out).mono ?_;rintro e w1 ⟨A,c,rfl,hc,hl,hb⟩
       have RC:=Aside0.mk hc
       have LC:=Aside0.mk hl
       have HB:=Aside0.mk hb
       clear hc hl hb)
    | ((with_reducible refine gate_dst (N:=4) rfl ?_);refine box_event ?hg (N:=4) ?hd (cs := #[.bool false,.slice none 0 0,.int .i64 0]) (t:=30) ?hr ?_;(case hd=>rfl);(case hg=>rfl);(case hr=>first | (go_simp;done) | (go_simp;rfl));intro gL hgL w2 hbox hb2
       obtain ⟨hy,hb3⟩:=put3 hbox (.bool R.1) (.slice A R.2.1.length c) (.int .i64 R.2.2)
       have hB2:Below w.heap.size w w2:=HB.out.trans (Below.mono hb2 HB.out.size)
       have hle:w.heap.size≤gL:=by rw [hgL];exact HB.out.size
       have HPX:=Aside0.mk (show PX w (set3 w2 gL (.bool R.1) (.slice A R.2.1.length c) (.int .i64 R.2.2)) gL R (.slice none 0 0) [] from ⟨hB2.trans (below_grown hb3 hle hB2.size),⟨A,c,hy,C_far (Kd.C_below RC.out hb2) hbox hb3,LC.out⟩,hle,Kd.R_nil _ _ _ _ _⟩)
       have hp0:w2.cell? ⟨gL,0,none⟩=some (.bool false):=(blk_cell hbox 0).trans rfl
       have hp1:w2.cell? ⟨gL,1,none⟩=some (.slice none 0 0):=(blk_cell hbox 1).trans rfl
       have hp2:w2.cell? ⟨gL,2,none⟩=some (.int .i64 0):=(blk_cell hbox 2).trans rfl
       have hf0:=blk_frozen hbox 0
       have hf1:=blk_frozen hbox 1
       have hf2:=blk_frozen hbox 2
       clear hy hb3 hB2 hle hgL hbox hb2))
  go_step3
  go_wp2
  clear hp0 hp1 hp2 hf0 hf1 hf2 HB RC LC
  go_loopg [3] N (fun q v wr=>∃ (d':Dy3) (acc:List Nat),Aside0 (PX w wr gL d' v acc)∧Aside0 (prt k q d' acc=some X))
  case atStart=>exact ⟨R,[],HPX,HP⟩
  case round =>
    clear HPX HP
    obtain ⟨d',acc,HX,HF⟩:=hrel
    cases gk with
    | zero=>exact absurd HF.out (by simp [prt])
    | succ q1 =>
      have hF0:=HF.out
      clear HF
      rw [prt] at hF0
      obtain ⟨s,hs,hF1⟩:=Option.bind_eq_some_iff.mp hF0
      have HS:=Aside0.mk hs
      obtain ⟨Ad,cd,hgl,rd,ld⟩:=HX.out.2.1
      have hq0:wr.cell? ⟨gL,0,none⟩=some (.bool d'.1):=(blk_cell hgl 0).trans rfl
      have hq1:wr.cell? ⟨gL,1,none⟩=some (.slice Ad d'.2.1.length cd):=(blk_cell hgl 1).trans rfl
      have hq2:wr.cell? ⟨gL,2,none⟩=some (.int .i64 d'.2.2):=(blk_cell hgl 2).trans rfl
      have RD:=Aside0.mk rd
      have LD:=Aside0.mk ld
      have HGB:=Aside0.mk hgl
      clear hgl rd ld hs hF0
      by_cases hs0:s=0
      · rw [if_pos hs0] at hF1
        have hX:acc=X:=Option.some.inj hF1
        subst hX
        have c1:decide (s=0)=true:=decide_eq_true hs0
        clear hF1
        go_wp2_with (first
          | (go_at_call 41;refine (dyad_Sign.calls k d'.1 Ad cd d'.2.1 d'.2.2 s _ RD.out LD.out HS.out).mono ?_;rintro e w1 ⟨rfl,hb1⟩
             have HB1:=Aside0.mk hb1
             clear hb1))
        rw [Exit.noGoto_ret]
        go_ret
        exact ⟨_,rfl,Kd.R_below HX.out.2.2.2 HB1.out,HX.out.1.trans (Below.mono HB1.out HX.out.1.size)⟩
      · rw [if_neg hs0] at hF1
        have c1:decide (s=0)=false:=decide_eq_false hs0
        obtain ⟨⟨x,e0⟩,hrd,hF2⟩:=Option.bind_eq_some_iff.mp hF1
        dsimp only at hF2
        obtain ⟨hcond,hF3⟩:(_∧_∧_)∧_:=by
          by_cases hc:(FloatKind.f64.format.order 9218868437227405311 x).isSome=true∧(FloatKind.f64.format.order 18442240474082181119 (fmn .f64 9218868437227405311 x)).isSome=true∧acc.length<17592186044416
          · rw [if_pos hc] at hF2;exact ⟨hc,hF2⟩
          · rw [if_neg hc] at hF2;cases hF2
        obtain ⟨hi1,hi2,hal⟩:=hcond
        obtain ⟨⟨o1,o2,o3,o4⟩,ho,hF4⟩:=Option.bind_eq_some_iff.mp hF3
        obtain ⟨⟨l1,l2,l3,l4⟩,hl,hF5⟩:=Option.bind_eq_some_iff.mp hF4
        dsimp only at hF5 hl
        have HRD:=Aside0.mk hrd
        have HO:=Aside0.mk ho
        have HL:=Aside0.mk hl
        have HF6:=Aside0.mk hF5
        have HAL:=Aside0.mk hal
        clear hrd ho hl hF5 hF1 hF2 hF3 hF4 hal
        obtain ⟨y,hy⟩:∃ y,y=fmx .f64 18442240474082181119 (fmn .f64 9218868437227405311 x):=⟨_,rfl⟩
        have hy2:cl x=y:=hy.symm
        rw [hy2] at HO HF6
        have hmn:=min2_float .f64 _ _ hi1
        have hmx:=max2_float .f64 _ _ hi2
        rw [← hy] at hmx
        clear hy hy2
        go_wp2_with (first
          | (go_at_call 41;refine (dyad_Sign.calls k d'.1 Ad cd d'.2.1 d'.2.2 s _ RD.out LD.out HS.out).mono ?_;rintro e w1 ⟨rfl,hb1⟩
             have HB1:=Aside0.mk hb1
             have HX1:=Aside0.mk (show PX w w1 gL d' u3 acc from ⟨HX.out.1.trans (Below.mono hb1 HX.out.1.size),HX.out.2.1.below hb1,HX.out.2.2.1,Kd.R_below HX.out.2.2.2 hb1⟩)
             have hg1:=(hb1.block gL (blk_lt HGB.out)).trans HGB.out
             have hp0:w1.cell? ⟨gL,0,none⟩=some (.bool d'.1):=(blk_cell hg1 0).trans rfl
             have hp1:w1.cell? ⟨gL,1,none⟩=some (.slice Ad d'.2.1.length cd):=(blk_cell hg1 1).trans rfl
             have hp2:w1.cell? ⟨gL,2,none⟩=some (.int .i64 d'.2.2):=(blk_cell hg1 2).trans rfl
             have RD1:=Aside0.mk (Kd.C_below RD.out hb1)
             have HGB1:=Aside0.mk hg1
             clear hb1 hg1 hq0 hq1 hq2)
          | (go_at_call 40;refine (dyad_Round.calls k d'.1 Ad cd d'.2.1 d'.2.2 0 x e0 _ (GlobLaid.below HGL.out HX1.out.1) RD1.out LD.out HRD.out).mono ?_;rintro e w2 ⟨rfl,hb2⟩
             have HX2:=Aside0.mk (show PX w w2 gL d' u3 acc from ⟨HX1.out.1.trans (Below.mono hb2 HX1.out.1.size),HX1.out.2.1.below hb2,HX1.out.2.2.1,Kd.R_below HX1.out.2.2.2 hb2⟩)
             have HGB2:=Aside0.mk ((hb2.block gL (blk_lt HGB1.out)).trans HGB1.out)
             have RD2:=Aside0.mk (Kd.C_below RD1.out hb2)
             clear hb2 hp0 hp1 hp2)
          | (go_at_call 37;refine (dyad_Of.calls k y o1 o2 o3 o4 _ (GlobLaid.below HGL.out HX2.out.1) HO.out).mono ?_;rintro e w3 ⟨v1,rfl,hq3,hb3⟩
             obtain ⟨Ao,co,rfl,_⟩:=Kd.Q_slice hq3
             have RO:=Aside0.mk (Kd.Q_reads' hq3).2.2
             have LO:=Aside0.mk (Kd.Q_reads' hq3).2.1
             have HX3:=Aside0.mk (show PX w w3 gL d' u3 acc from ⟨HX2.out.1.trans (Below.mono hb3 HX2.out.1.size),HX2.out.2.1.below hb3,HX2.out.2.2.1,Kd.R_below HX2.out.2.2.2 hb3⟩)
             have HGB3:=Aside0.mk ((hb3.block gL (blk_lt HGB2.out)).trans HGB2.out)
             have RD3:=Aside0.mk (Kd.C_below RD2.out hb3)
             clear hq3 hb3)
          | ((with_reducible refine gate_dst (N:=7) rfl ?_);refine box_event ?hg (N:=7) ?hd (cs := #[.bool false,.slice none 0 0,.int .i64 0]) (t:=30) ?hr ?_;(case hd=>rfl);(case hg=>rfl);(case hr=>first | (go_simp;done) | (go_simp;rfl));intro g7 hg7 w4 hbox hb4
             obtain ⟨hy,hb5⟩:=put3 hbox (.bool o1) (.slice Ao o2.length co) (.int .i64 o3)
             have hB4:Below w.heap.size w w4:=HX3.out.1.trans (Below.mono hb4 HX3.out.1.size)
             have hle:w.heap.size≤g7:=by rw [hg7];exact HX3.out.1.size
             have hgL4:=(hb4.block gL (blk_lt HGB3.out)).trans HGB3.out
             have hne:gL≠g7:=by rw [hg7];exact Nat.ne_of_lt (blk_lt HGB3.out)
             have hne2:=Ne.symm hne
             have hO4:=Kd.R_below HX3.out.2.2.2 hb4
             have HX4:=Aside0.mk (show PX w (set3 w4 g7 (.bool o1) (.slice Ao o2.length co) (.int .i64 o3)) gL d' u3 acc from
               ⟨hB4.trans (below_grown hb5 hle hB4.size),(HX3.out.2.1.below hb4).far hbox hne hb5,HX3.out.2.2.1,Kd.R_mono (Kd.R_grown (Kd.R_types hO4 hbox (by decide)) hb5 (fun k hk e=>hk.2 (Option.some.inj e))) (fun _ _=>trivial)⟩)
             have HGB4:=Aside0.mk (blk_grown hgL4 hb5 (by intro he;injection he with he;exact hne he))
             have RD4:=Aside0.mk (C_far (Kd.C_below RD3.out hb4) hbox hb5)
             have RO4:=Aside0.mk (C_far (Kd.C_below RO.out hb4) hbox hb5)
             have hp0:w4.cell? ⟨g7,0,none⟩=some (.bool false):=(blk_cell hbox 0).trans rfl
             have hp1:w4.cell? ⟨g7,1,none⟩=some (.slice none 0 0):=(blk_cell hbox 1).trans rfl
             have hp2:w4.cell? ⟨g7,2,none⟩=some (.int .i64 0):=(blk_cell hbox 2).trans rfl
             have hf0:=blk_frozen hbox 0
             have hf1:=blk_frozen hbox 1
             have hf2:=blk_frozen hbox 2
             have hq0:w4.cell? ⟨gL,0,none⟩=some (.bool d'.1):=(blk_cell hgL4 0).trans rfl
             have hq1:w4.cell? ⟨gL,1,none⟩=some (.slice Ad d'.2.1.length cd):=(blk_cell hgL4 1).trans rfl
             have hq2:w4.cell? ⟨gL,2,none⟩=some (.int .i64 d'.2.2):=(blk_cell hgL4 2).trans rfl
             clear hy hb5 hB4 hle hgL4 hg7 hbox hb4 hO4)
          | (go_at_call 42;refine (dyad_Sub.calls k d'.1 Ad cd d'.2.1 d'.2.2 o1 Ao co o2 o3 l1 l2 l3 l4 _ (GlobLaid.below HGL.out HX4.out.1) RD4.out LD.out RO4.out LO.out HL.out).mono ?_;rintro e w6 ⟨v6,rfl,hq6,hb6⟩
             obtain ⟨Am,cm,rfl,_⟩:=Kd.Q_slice hq6
             have hgL6:=(hb6.block gL (blk_lt HGB4.out)).trans HGB4.out
             obtain ⟨hy,hb7⟩:=put3 hgL6 (.bool l1) (.slice Am l2.length cm) (.int .i64 l3)
             have hB6:Below w.heap.size w w6:=HX4.out.1.trans (Below.mono hb6 HX4.out.1.size)
             have hO6:=Kd.R_below HX4.out.2.2.2 hb6
             have HB7:=Aside0.mk (hB6.trans (below_grown hb7 HX4.out.2.2.1 hB6.size))
             have HY7:=Aside0.mk hy
             have HO7:=Aside0.mk (show Kd.R F64 34 (set3 w6 gL (.bool l1) (.slice Am l2.length cm) (.int .i64 l3)) w.heap.size (fun _=>True) u3 acc from Kd.R_mono (Kd.R_grown (Kd.R_types hO6 hgL6 (by decide)) hb7 (fun k hk e=>hk.2 (Option.some.inj e))) (fun _ _=>trivial))
             have HQ7:=Aside0.mk (show Kd.Q U32 68 (set3 w6 gL (.bool l1) (.slice Am l2.length cm) (.int .i64 l3)) _ (fun _=>True) (.slice Am l2.length cm) l2 from Kd.Q_mono (Kd.Q_grown (Kd.Q_types hq6 hgL6 (by decide)) hb7 (fun k hk e=>hk.2 (Option.some.inj e))) (fun _ _=>trivial))
             have hm0:w6.cell? ⟨gL,0,none⟩=some (.bool d'.1):=(blk_cell hgL6 0).trans rfl
             have hm1:w6.cell? ⟨gL,1,none⟩=some (.slice Ad d'.2.1.length cd):=(blk_cell hgL6 1).trans rfl
             have hm2:w6.cell? ⟨gL,2,none⟩=some (.int .i64 d'.2.2):=(blk_cell hgL6 2).trans rfl
             have hk0:=blk_frozen hgL6 0
             have hk1:=blk_frozen hgL6 1
             have hk2:=blk_frozen hgL6 2
             clear hq6 hb6 hgL6 hy hb7 hB6 hO6 hp0 hp1 hp2 hf0 hf1 hf2 hq0 hq1 hq2)
          | ((with_reducible refine gate_builtin (b := .append) (xs := #[.tmp 34,.tmp 36]) rfl ?_);at_builtin;refine Kd.R_append (Kd.float .f64) (w0:=w) w.heap.size rfl (.tmp 34) (.tmp 36) 22 34 (.float .f64 0) 8 rfl Tryd.underlying22 info34 rfl (by decide) (by omega) u3 acc y [.float .f64 y] (fun _=>True) (fun _=>False) rfl (by first | rfl | (go_simp;done) | (go_simp;rfl)) ?aP (fun _ hk=>hk.elim) ?aF ?aO ?aB ?aS ?aL ?_;(case aP=>exact rfl);(case aB=>exact HB7.out);(case aF=>exact (fun _ _=>trivial));(case aO=>exact HO7.out);(case aS=>exact HB7.out.size);(case aL=>have:=HAL.out;omega);intro v1 w8 ho8 hb8 hg8 hat8
             have HX8:=Aside0.mk (PX.app (l:=(l1,l2,l3)) hb8 HQ7.out HY7.out HX4.out.2.2.1 HO7.out ho8 hg8)
             clear ho8 hb8 hg8 hat8 hm0 hm1 hm2 hk0 hk1 hk2))
        go_roundg q1
        case measure=>omega
        case rel=>exact ⟨(l1,l2,l3),acc++[y],HX8,HF6⟩
end Go.Proofs.YthimlebkjnajpaaDoor.Sp
namespace Go.Proofs.YthimlebkjnajpaaDoorW.NA
def WF (l:List Int):Prop:=∀ x ∈ l,0≤x∧x<4294967296
def V:List Int→Nat
 | []=>0
 | x::xs=>x.toNat+4294967296*V xs
def Cn (n:Nat):List Int:=if h:n=0 then [] else ((n%4294967296:Nat):Int)::Cn (n / 4294967296)
termination_by n
decreasing_by omega

theorem WF.nil:WF []:=fun _ h=>by simp at h
theorem WF.cons {x:Int} {l:List Int} (h0:0≤x) (h1:x<4294967296) (h:WF l):WF (x::l):=by
 intro y hy;rcases List.mem_cons.1 hy with rfl | hy
 ·exact ⟨h0,h1⟩
 ·exact h y hy
theorem WF.head {x:Int} {l:List Int} (h:WF (x::l)):0≤x∧x<4294967296:=h x (List.mem_cons_self ..)
theorem WF.tail {x:Int} {l:List Int} (h:WF (x::l)):WF l:=fun y hy=>h y (List.mem_cons_of_mem _ hy)
theorem WF.append {a b:List Int} (ha:WF a) (hb:WF b):WF (a++b):=by
 intro y hy;rcases List.mem_append.1 hy with hy | hy
 ·exact ha y hy
 ·exact hb y hy
theorem WF.take {l:List Int} (h:WF l) (k:Nat):WF (l.take k):=fun y hy=>h y (List.mem_of_mem_take hy)
theorem WF.drop {l:List Int} (h:WF l) (k:Nat):WF (l.drop k):=fun y hy=>h y (List.mem_of_mem_drop hy)
theorem WF.left {a b:List Int} (h:WF (a++b)):WF a:=fun y hy=>h y (List.mem_append_left _ hy)
theorem WF.right {a b:List Int} (h:WF (a++b)):WF b:=fun y hy=>h y (List.mem_append_right _ hy)
theorem WF.get {l:List Int} (h:WF l) {i:Nat} {x:Int} (hx:l[i]? = some x):0≤x∧x<4294967296:=h x (List.mem_of_getElem? hx)
theorem WF.set {l:List Int} (h:WF l) {x:Int} (h0:0≤x) (h1:x<4294967296) (i:Nat):WF (l.set i x):=by
 intro y hy;rcases List.mem_or_eq_of_mem_set hy with hy | rfl
 ·exact h y hy
 ·exact ⟨h0,h1⟩
theorem WF.replicate (n:Nat):WF (List.replicate n (0:Int)):=by
 intro y hy;rw [(List.mem_replicate.1 hy).2];omega

theorem V_nil:V []=0:=rfl
theorem V_cons (x:Int) (l:List Int):V (x::l)=x.toNat+4294967296*V l:=rfl
theorem V_append (a b:List Int):V (a++b)=V a+4294967296^a.length*V b:=by
 induction a with
 | nil=>simp [V]
 | cons x xs ih =>
  rw [List.cons_append,V_cons,V_cons,ih,List.length_cons,Nat.pow_succ,Nat.mul_add,Nat.mul_comm (4294967296^xs.length) 4294967296,Nat.mul_assoc];omega
theorem V_one (x:Int):V [x]=x.toNat:=by simp [V]
theorem V_snoc (a:List Int) (x:Int):V (a++[x])=V a+4294967296^a.length*x.toNat:=by rw [V_append,V_one]
theorem V_split (l:List Int) (k:Nat) (hk:k≤l.length):V l=V (l.take k)+4294967296^k*V (l.drop k):=by
 have:=V_append (l.take k) (l.drop k)
 rw [List.take_append_drop,List.length_take,Nat.min_eq_left hk] at this
 exact this
theorem V_lt {l:List Int} (h:WF l):V l<4294967296^l.length:=by
 induction l with
 | nil=>simp [V]
 | cons x xs ih =>
  have h1:=h.head
  have h2:=ih h.tail
  rw [V_cons,List.length_cons,Nat.pow_succ,Nat.mul_comm (4294967296^xs.length)]
  omega
theorem V_replicate (n:Nat):V (List.replicate n 0)=0:=by
 induction n with
 | zero=>rfl
 | succ n ih=>rw [List.replicate_succ,V_cons,ih];rfl

theorem Cn_zero:Cn 0=[]:=by rw [Cn];simp
theorem Cn_pos {n:Nat} (h:n≠0):Cn n=((n%4294967296:Nat):Int)::Cn (n / 4294967296):=by rw [Cn,dif_neg h]
theorem Cn_wf (n:Nat):WF (Cn n):=by
 induction n using Nat.strongRecOn with
 | _ n ih =>
  by_cases h:n=0
  ·rw [h,Cn_zero];exact WF.nil
  ·rw [Cn_pos h];exact WF.cons (by omega) (by omega) (ih _ (by omega))
theorem V_Cn (n:Nat):V (Cn n)=n:=by
 induction n using Nat.strongRecOn with
 | _ n ih =>
  by_cases h:n=0
  ·rw [h,Cn_zero];rfl
  ·rw [Cn_pos h,V_cons,ih _ (by omega)];omega
theorem Cn_nil {n:Nat}:Cn n=[]↔n=0:=by
 constructor
 ·intro h;rw [← V_Cn n,h];rfl
 ·rintro rfl;exact Cn_zero

theorem last_cons {x:Int} {l:List Int} (hl:l≠[]):(x::l).getLast? = l.getLast? := by
 cases l with
 | nil=>exact absurd rfl hl
 | cons y ys=>exact List.getLast?_cons_cons
def Fm (l:List Int):Prop:=∀ x,l.getLast? = some x→x≠0
theorem Cn_fm (n:Nat):Fm (Cn n):=by
 induction n using Nat.strongRecOn with
 | _ n ih =>
  by_cases h:n=0
  ·rw [h,Cn_zero];intro x hx;simp at hx
  ·rw [Cn_pos h]
   intro x hx
   by_cases h2:n / 4294967296=0
   ·rw [h2,Cn_zero] at hx
    simp at hx
    omega
   ·have h3:Cn (n / 4294967296)≠[]:=fun z=>h2 (Cn_nil.1 z)
    rw [last_cons h3] at hx
    exact ih _ (by omega) x hx
theorem Fm.tail {x:Int} {l:List Int} (h:Fm (x::l)) (hl:l≠[]):Fm l:=by
 intro y hy
 exact h y (by rw [last_cons hl];exact hy)
theorem eq_Cn {l:List Int} (hw:WF l) (hf:Fm l):l=Cn (V l):=by
 induction l with
 | nil=>rw [V_nil,Cn_zero]
 | cons x xs ih =>
  have h1:=hw.head
  by_cases hx:xs=[]
  ·subst hx
   have h2:x≠0:=hf x (by simp)
   rw [V_one,Cn_pos (by omega),show x.toNat / 4294967296=0 by omega,Cn_zero,show ((x.toNat%4294967296:Nat):Int)=x by omega]
  ·have h3:=ih hw.tail (hf.tail hx)
   have h4:V xs≠0:=by intro z;rw [z,Cn_zero] at h3;exact hx h3
   rw [V_cons,Cn_pos (by omega),show (x.toNat+4294967296*V xs) / 4294967296=V xs by omega,← h3,show (((x.toNat+4294967296*V xs)%4294967296:Nat):Int)=x by omega]
theorem Fm_nil:Fm []:=fun x h=>by simp at h
theorem take_Cn {l:List Int} (hw:WF l) {k:Nat} (hk:k≤l.length) (hz:V (l.drop k)=0) (hf:k=0∨∃ x,l[k - 1]? = some x∧x≠0):l.take k=Cn (V l):=by
 have h1:V l=V (l.take k):=by rw [V_split l k hk,hz];simp
 rw [h1]
 refine eq_Cn (hw.take k) ?_
 rcases hf with h | ⟨x,hx,h0⟩
 ·subst h;simpa using Fm_nil
 ·intro y hy
  by_cases hk0:k=0
  ·subst hk0;simp at hy
  ·rw [List.getLast?_eq_getElem?,List.length_take,Nat.min_eq_left hk,List.getElem?_take,if_pos (by omega),hx] at hy
   cases hy;exact h0
theorem Cn_length_lt {n k:Nat} (h:n<4294967296^k):(Cn n).length≤k:=by
 induction k generalizing n with
 | zero =>
  have:n=0:=by simpa using h
  rw [this,Cn_zero];simp
 | succ k ih =>
  by_cases h0:n=0
  ·rw [h0,Cn_zero];simp
  ·rw [Cn_pos h0,List.length_cons]
   have:=ih (n:=n / 4294967296) (by rw [Nat.div_lt_iff_lt_mul (by omega)];rw [Nat.pow_succ] at h;exact h)
   omega
theorem Cn_length_le {n k:Nat} (h:(Cn n).length≤k):n<4294967296^k:=by
 have:=V_lt (Cn_wf n)
 rw [V_Cn] at this
 exact Nat.lt_of_lt_of_le this (Nat.pow_le_pow_right (by omega) h)
theorem Cn_length (n k:Nat):(Cn n).length≤k↔n<4294967296^k:=⟨Cn_length_le,Cn_length_lt⟩
end Go.Proofs.YthimlebkjnajpaaDoorW.NA
namespace Go.Proofs.YthimlebkjnajpaaDoorW.FL
open Go Go.RowKit
theorem wrap64_id {x:Int} (h0 : -9223372036854775808≤x) (h1:x<9223372036854775808):wrap64 x=x:=by unfold wrap64;omega
theorem wrap_u64 (n:Int):IntKind.u64.wrap n=n%18446744073709551616:=by simp [IntKind.wrap,IntKind.bits,IntKind.signed]
theorem wraps_u64 (n:Int) (h₀:0≤n) (h₁:n<2^64):IntKind.u64.wrap n=n:=by rw [wrap_u64];omega
theorem wraps_i64 (n:Int) (h₀:0≤n) (h₁:n<2^63):IntKind.i64.wrap n=n:=by rw [IntKind.wrap_i64];omega

theorem u64_mask (i:Nat) (hi:i≤64) (x:Int) (h0:0≤x) (h1:x<18446744073709551616):bits .and .u64 x (2^i - 1)=x%2^i :=
 bits_mask .u64 64 (by decide) wraps_u64 i hi x h0 h1
theorem i64_mask (i:Nat) (hi:i≤63) (x:Int) (h0:0≤x) (h1:x<9223372036854775808):bits .and .i64 x (2^i - 1)=x%2^i :=
 bits_mask .i64 63 (by decide) wraps_i64 i hi x h0 h1
theorem u64_join (i:Nat) (x y:Int) (hx₀:0≤x) (hx:x%2^i=0) (hx₁:x<18446744073709551616) (hy₀:0≤y) (hy:y<2^i) (hy₁:y<18446744073709551616):bits .or .u64 x y=x+y :=
 bits_join .u64 64 (by decide) wraps_u64 i x y hx₀ hx hx₁ hy₀ hy hy₁

theorem u64_and52 {x:Int} (h0:0≤x) (h1:x<18446744073709551616):bits .and .u64 x 4503599627370495=x%4503599627370496:=u64_mask 52 (by decide) x h0 h1
theorem u64_and1 {x:Int} (h0:0≤x) (h1:x<18446744073709551616):bits .and .u64 x 1=x%2:=u64_mask 1 (by decide) x h0 h1
theorem i64_and11 {x:Int} (h0:0≤x) (h1:x<9223372036854775808):bits .and .i64 x 2047=x%2048:=i64_mask 11 (by decide) x h0 h1
theorem u64_andNot63 {x:Int} (h0:0≤x) (h1:x<18446744073709551616):bits .andNot .u64 x 9223372036854775808=x%9223372036854775808:=by
 obtain ⟨a,rfl⟩:=Int.eq_ofNat_of_zero_le h0
 have ha:a<2^64:=by omega
 have e:bits .andNot .u64 (a:Int) 9223372036854775808=bits .and .u64 (a:Int) (2^63 - 1):=by
  simp only [bits,BitVec.ofInt_natCast]
  congr 3
 rw [e,u64_mask 63 (by decide) _ h0 h1]
 rfl
theorem u64_and63 {x:Int} (h0:0≤x) (h1:x<18446744073709551616):bits .and .u64 x 9223372036854775808=x / 9223372036854775808*9223372036854775808:=by
 obtain ⟨a,rfl⟩:=Int.eq_ofNat_of_zero_le h0
 have ha:a<2^64:=by omega
 have e:bits .and .u64 (a:Int) ((2^63:Nat):Int)=((a &&& 2^63:Nat):Int):=(bits_nat .u64 64 (by decide) wraps_u64 a (2^63) ha (by decide)).1
 have e2:a &&& 2^63=a / 2^63*2^63:=by
  have hq:a / 2^63=(a.testBit 63).toNat:=by
   rw [Nat.testBit_eq_decide_div_mod_eq]
   have:a / 2^63<2:=by omega
   generalize a / 2^63=q at this ⊢
   have:q=0∨q=1:=by omega
   rcases this with rfl | rfl <;> rfl
  rw [hq]
  apply Nat.eq_of_testBit_eq
  intro i
  rw [Nat.testBit_and,Nat.testBit_two_pow]
  by_cases h:63=i
  ·subst h;cases a.testBit 63
   ·simp
   ·rfl
  ·cases a.testBit 63
   ·simp [h]
   ·rw [show true.toNat*2^63=2^63 from rfl,Nat.testBit_two_pow];simp [h]
 rw [e2] at e
 simpa using e
end Go.Proofs.YthimlebkjnajpaaDoorW.FL
namespace Go.Proofs.YthimlebkjnajpaaDoorW.FL
theorem two_pow_pos (n:Nat):0<2^n:=Nat.two_pow_pos n

def U (p r:Nat):Nat:=if r<2^p then r else (2^p+r%2^p)*2^(r / 2^p - 1)

theorem U_low {p r:Nat} (h:r<2^p):U p r=r:=by simp [U,h]

theorem U_parts {p e k:Nat} (h1:2^p≤k) (h2:k<2^(p+1)):U p (e*2^p+k)=k*2^e:=by
 have hp:=two_pow_pos p
 rw [Nat.pow_succ] at h2
 have hk:k=2^p+(k - 2^p):=by omega
 have h3:k - 2^p<2^p:=by omega
 have e1:e*2^p+k=(e+1)*2^p+(k - 2^p):=by rw [Nat.add_mul,Nat.one_mul];omega
 have e2:(e*2^p+k) / 2^p=e+1:=by
  rw [e1,Nat.mul_comm,Nat.mul_add_div hp,Nat.div_eq_of_lt h3,Nat.add_zero]
 have e3:(e*2^p+k)%2^p=k - 2^p:=by
  rw [e1,Nat.mul_comm,Nat.mul_add_mod,Nat.mod_eq_of_lt h3]
 have e4:¬ (e*2^p+k<2^p):=by omega
 unfold U
 rw [if_neg e4,e2,e3,Nat.add_sub_cancel,← hk]

theorem U_small {p k:Nat} (h2:k<2^(p+1)):U p k=k:=by
 by_cases h:k<2^p
 ·exact U_low h
 ·have:=U_parts (p:=p) (e:=0) (k:=k) (by omega) h2
  simpa using this

theorem parts_of {p r:Nat} (h:2^p≤r):∃ e k,r=e*2^p+k∧2^p≤k∧k<2^(p+1)∧e=r / 2^p - 1:=by
 have hp:=two_pow_pos p
 have h1:1≤r / 2^p:=(Nat.one_le_div_iff hp).2 h
 refine ⟨r / 2^p - 1,2^p+r%2^p,?_,by omega,?_,rfl⟩
 ·have:=Nat.div_add_mod r (2^p)
  have e:(r / 2^p - 1)*2^p+2^p=r / 2^p*2^p:=by
   rw [← Nat.succ_mul];congr 1;omega
  have e2:2^p*(r / 2^p)=r / 2^p*2^p:=Nat.mul_comm _ _
  omega
 ·have:=Nat.mod_lt r hp
  rw [Nat.pow_succ];omega

theorem U_succ (p r:Nat):U p (r+1)=U p r+2^(r / 2^p - 1):=by
 have hp:=two_pow_pos p
 by_cases h:r<2^p
 ·have h0:r / 2^p=0:=Nat.div_eq_of_lt h
  rw [U_small (by rw [Nat.pow_succ];omega),U_low h,h0]
 ·obtain ⟨e,k,rfl,h1,h2,he⟩:=parts_of (p:=p) (r:=r) (by omega)
  rw [← he,U_parts h1 h2]
  by_cases h3:k+1<2^(p+1)
  ·rw [Nat.add_assoc,U_parts (by omega) h3,Nat.add_mul,Nat.one_mul]
  ·have hk:k+1=2^(p+1):=by omega
   have e1:e*2^p+k+1=(e+1)*2^p+2^p:=by
    rw [Nat.add_mul,Nat.one_mul,Nat.add_assoc,hk,Nat.pow_succ];omega
   rw [e1,U_parts (Nat.le_refl _) (by rw [Nat.pow_succ];omega)]
   have:k*2^e+2^e=(k+1)*2^e:=by rw [Nat.add_mul,Nat.one_mul]
   rw [this,hk,Nat.pow_succ,Nat.pow_succ,Nat.mul_assoc,Nat.mul_comm 2]

theorem U_lt_succ (p r:Nat):U p r<U p (r+1):=by
 rw [U_succ];have:=two_pow_pos (r / 2^p - 1);omega

theorem U_lt {p r s:Nat} (h:r<s):U p r<U p s:=by
 induction s with
 | zero=>omega
 | succ s ih =>
  by_cases e:r=s
  ·subst e;exact U_lt_succ p r
  ·exact Nat.lt_trans (ih (by omega)) (U_lt_succ p s)

theorem U_le {p r s:Nat} (h:r≤s):U p r≤U p s:=by
 by_cases e:r=s
 ·subst e;exact Nat.le_refl _
 ·exact Nat.le_of_lt (U_lt (by omega))

theorem U_lt_iff {p r s:Nat}:U p r<U p s↔r<s:=by
 constructor
 ·intro h
  by_cases e:r<s
  ·exact e
  ·have:=U_le (p:=p) (show s≤r by omega);omega
 ·exact U_lt

theorem U_zero (p:Nat):U p 0=0:=U_low (two_pow_pos p)
end Go.Proofs.YthimlebkjnajpaaDoorW.FL
namespace Go.Proofs.YthimlebkjnajpaaDoorW.FL
open Ieee
def neg (f:Format) (w:Nat):Bool:=w / f.signWeight%2 == 1
def rung (f:Format) (w:Nat):Nat:=w%f.signWeight
def sgn (s:Bool) (n:Nat):Int:=if s then -(n:Int) else (n:Int)
def S (f:Format) (w:Nat):Int:=sgn (neg f w) (U f.fractionBits (rung f w))

theorem read_low {f:Format} {w:Nat} (h:rung f w<f.binade):f.read w = .number (neg f w) (rung f w) f.leastPlace:=by
 unfold Format.read;simp only [rung] at h;simp only [rung,neg,h,if_true]
theorem read_mid {f:Format} {w:Nat} (h:¬ rung f w<f.binade) (h2:rung f w<f.infRung) :
  f.read w = .number (neg f w) (f.binade+rung f w%f.binade) (f.leastPlace+(rung f w / f.binade - 1:Nat)):=by
 unfold Format.read;simp only [rung] at h h2;simp only [rung,neg,h,h2,if_true,if_false]
theorem read_inf {f:Format} {w:Nat} (h:¬ rung f w<f.binade) (h2:rung f w=f.infRung):f.read w = .infinity (neg f w):=by
 unfold Format.read;simp only [rung] at h h2;simp only [neg,h,if_false];rw [h2];simp
theorem read_nan {f:Format} {w:Nat} (h:¬ rung f w<f.binade) (h2:f.infRung<rung f w):f.read w = .nan (neg f w) (rung f w - f.infRung):=by
 unfold Format.read;simp only [rung] at h h2;simp only [rung,neg,h,if_false]
 rw [if_neg (by omega),if_neg (by omega)]

theorem read_num {f:Format} {w:Nat} (h:rung f w<f.infRung):∃ m e:Nat,f.read w = .number (neg f w) m (f.leastPlace+e)∧m*2^e=U f.fractionBits (rung f w):=by
 by_cases h1:rung f w<f.binade
 ·exact ⟨rung f w,0,by rw [read_low h1];simp,by simp [U_low (p:=f.fractionBits) h1]⟩
 ·refine ⟨_,_,read_mid h1 h,?_⟩
  have:¬ rung f w<2^f.fractionBits:=h1
  simp only [U,this,if_false,Format.binade]

theorem signed_eq (s:Bool) (m k:Nat):signed s m k=sgn s (m*2^k):=by
 simp [signed,sgn,Nat.shiftLeft_eq]

theorem sgn_mul (s:Bool) (n k:Nat):sgn s (n*k)=sgn s n*(k:Int):=by
 cases s <;> simp [sgn,Int.neg_mul]

theorem compare_mul (x y:Int) {k:Int} (hk:0<k):compare (x*k) (y*k)=compare x y:=by
 rcases Int.lt_trichotomy x y with h | h | h
 ·have:=Int.mul_lt_mul_of_pos_right h hk
  rw [Int.compare_eq_lt.2 h,Int.compare_eq_lt.2 this]
 ·subst h;simp
 ·have:=Int.mul_lt_mul_of_pos_right h hk
  rw [Int.compare_eq_gt.2 h,Int.compare_eq_gt.2 this]

theorem binade_le_inf {f:Format} (hf:1≤f.exponentBits):f.binade≤f.infRung:=by
 unfold Format.infRung
 have:1≤2^f.exponentBits - 1:=by
  have h2:2^1≤2^f.exponentBits:=Nat.pow_le_pow_right (by omega) hf
  omega
 exact Nat.le_mul_of_pos_left _ this

theorem order_num (s t:Bool) (m n a b:Nat) (L:Int) :
  Datum.order (.number s m (L+a)) (.number t n (L+b))=some (compare (sgn s (m*2^a)) (sgn t (n*2^b))):=by
 have key:∀ c:Nat,c≤a→c≤b→compare (signed s m (a - c)) (signed t n (b - c))=compare (sgn s (m*2^a)) (sgn t (n*2^b)):=by
  intro c h1 h2
  rw [signed_eq,signed_eq,← compare_mul _ _ (k:=((2^c:Nat):Int)) (by exact_mod_cast two_pow_pos c),← sgn_mul,← sgn_mul,Nat.mul_assoc,Nat.mul_assoc,← Nat.pow_add,← Nat.pow_add,Nat.sub_add_cancel h1,Nat.sub_add_cancel h2]
 simp only [Datum.order]
 by_cases h:a≤b
 ·have e:min (L+(a:Int)) (L+b)=L+a:=by omega
  rw [e,show (L+(a:Int) - (L+a)).toNat=a - a by omega,show (L+(b:Int) - (L+a)).toNat=b - a by omega,key a (Nat.le_refl _) h]
 ·have e:min (L+(a:Int)) (L+b)=L+b:=by omega
  rw [e,show (L+(a:Int) - (L+b)).toNat=a - b by omega,show (L+(b:Int) - (L+b)).toNat=b - b by omega,key b (by omega) (Nat.le_refl _)]

def nan (f:Format) (w:Nat):Prop:=f.infRung<rung f w

theorem sgn_lt_inf {s t:Bool} {m n:Nat} (h:m<n):compare (sgn s m) (sgn t n)=if t then .gt else .lt:=by
 cases t
 ·simp only [Bool.false_eq_true,if_false];apply Int.compare_eq_lt.2;cases s <;> simp [sgn] <;> omega
 ·simp only [if_true];apply Int.compare_eq_gt.2;cases s <;> simp [sgn] <;> omega
theorem sgn_gt_inf {s t:Bool} {m n:Nat} (h:n<m):compare (sgn s m) (sgn t n)=if s then .lt else .gt:=by
 cases s
 ·simp only [Bool.false_eq_true,if_false];apply Int.compare_eq_gt.2;cases t <;> simp [sgn] <;> omega
 ·simp only [if_true];apply Int.compare_eq_lt.2;cases t <;> simp [sgn] <;> omega
theorem sgn_eq_inf {s t:Bool} {m:Nat} (h:0<m):compare (sgn s m) (sgn t m)=compare t.toNat s.toNat:=by
 have e1:compare (sgn true m) (sgn false m) = .lt:=by apply Int.compare_eq_lt.2;simp [sgn];omega
 have e2:compare (sgn false m) (sgn true m) = .gt:=by apply Int.compare_eq_gt.2;simp [sgn];omega
 cases s <;> cases t
 ·simp
 ·rw [e2];rfl
 ·rw [e1];rfl
 ·simp

theorem order_none {f:Format} (hf:1≤f.exponentBits) {a b:Nat} (h:nan f a∨nan f b):f.order a b=none:=by
 have hb:=binade_le_inf hf
 unfold Format.order
 rcases h with h | h
 ·rw [read_nan (by unfold nan at h;omega) h];rfl
 ·rw [read_nan (w:=b) (by unfold nan at h;omega) h];cases f.read a <;> rfl

theorem order_eq {f:Format} (hf:1≤f.exponentBits) {a b:Nat} (ha:¬ nan f a) (hb:¬ nan f b):f.order a b=some (compare (S f a) (S f b)):=by
 have hI:=binade_le_inf hf
 have hp:0<f.binade:=two_pow_pos _
 unfold nan at ha hb
 unfold Format.order S
 by_cases h1:rung f a<f.infRung
 ·obtain ⟨m,i,e1,u1⟩:=read_num h1
  by_cases h2:rung f b<f.infRung
  ·obtain ⟨n,j,e2,u2⟩:=read_num h2
   rw [e1,e2,order_num,u1,u2]
  ·have h2':rung f b=f.infRung:=by omega
   rw [e1,read_inf (w:=b) (by omega) h2',h2']
   rw [sgn_lt_inf (U_lt h1)];rfl
 ·have h1':rung f a=f.infRung:=by omega
  rw [read_inf (w:=a) (by omega) h1',h1']
  by_cases h2:rung f b<f.infRung
  ·obtain ⟨n,j,e2,u2⟩:=read_num h2
   rw [e2,sgn_gt_inf (U_lt h2)];rfl
  ·have h2':rung f b=f.infRung:=by omega
   rw [read_inf (w:=b) (by omega) h2',h2',sgn_eq_inf]
   ·rfl
   ·have:=U_lt (p:=f.fractionBits) (r:=0) (s:=f.infRung) (by omega);omega

theorem nan_iff {f:Format} (hf:1≤f.exponentBits) (a:Nat):(f.order a a != some .eq)=true↔nan f a:=by
 by_cases h:nan f a
 ·rw [order_none hf (Or.inl h)];simp [h]
 ·rw [order_eq hf h h];simp [h]
def rne (n g:Nat):Nat:=n / g+(if g<2*(n%g)∨(g=2*(n%g)∧n / g%2=1) then 1 else 0)

theorem lt_two_pow_log2 (n:Nat):n<2^(n.log2+1):=by
 by_cases h:n=0
 ·subst h;decide
 ·exact (Nat.log2_lt h).1 (by omega)

theorem two_pow_log2_le {n:Nat} (h:n≠0):2^n.log2≤n:=(Nat.le_log2 h).1 (Nat.le_refl _)

theorem log2_eq {n e:Nat} (h1:2^e≤n) (h2:n<2^(e+1)):n.log2=e:=by
 have hn:n≠0:=by have:=two_pow_pos e;omega
 have a:=(Nat.le_log2 hn).2 h1
 have b:=(Nat.log2_lt hn).2 h2
 omega

theorem log2_mul_pow {n:Nat} (h:n≠0) (i:Nat):(n*2^i).log2=n.log2+i:=by
 apply log2_eq
 ·rw [Nat.pow_add];exact Nat.mul_le_mul_right _ (two_pow_log2_le h)
 ·rw [show n.log2+i+1=(n.log2+1)+i by omega,Nat.pow_add]
  exact Nat.mul_lt_mul_of_pos_right (lt_two_pow_log2 n) (two_pow_pos i)

theorem rne_small {n g:Nat} (h:2*n<g):rne n g=0:=by
 unfold rne
 rw [Nat.div_eq_of_lt (by omega),Nat.mod_eq_of_lt (by omega),if_neg (by omega)]

theorem rne_one (n:Nat):rne n 1=n:=by unfold rne;simp [Nat.mod_one]

theorem rne_mul (n g:Nat) {k:Nat} (hk:0<k):rne (n*k) (g*k)=rne n g:=by
 unfold rne
 rw [Nat.mul_div_mul_right _ _ hk,Nat.mul_mod_mul_right]
 have e1:g*k<2*(n%g*k)↔g<2*(n%g):=by
  rw [← Nat.mul_assoc];exact Nat.mul_lt_mul_right hk
 have e2:g*k=2*(n%g*k)↔g=2*(n%g):=by
  rw [← Nat.mul_assoc];exact Nat.mul_left_inj (by omega)
 simp only [e1,e2]

theorem rne_mul_self (n:Nat) {k:Nat} (hk:0<k):rne (n*k) k=n:=by
 have:=rne_mul n 1 hk
 rw [Nat.one_mul,rne_one] at this;exact this

theorem cut_even (s:Bool) (n d:Nat):Toward.even.cut s n d=rne n (2^d):=by
 have key:∀ c,Toward.even.cut s n d=rne n (1 <<< c)∨c≠min d (n.log2+2):=by
  intro c
  by_cases hc:c=min d (n.log2+2)
  ·left
   subst hc
   unfold Toward.cut rne
   simp only
   congr 1
   generalize 1 <<< min d (n.log2+2)=g
   by_cases h:g<2*(n%g)∨(g=2*(n%g)∧n / g%2=1)
   ·rw [if_pos h]
    rcases h with h | h
    ·simp [h]
    ·simp [← h.1,h.2]
   ·rw [if_neg h]
    have h1:¬ g<2*(n%g):=fun z=>h (Or.inl z)
    have h2:¬ (g=2*(n%g)∧n / g%2=1):=fun z=>h (Or.inr z)
    simp only [h1,decide_false,Bool.false_or]
    by_cases h3:g=2*(n%g)
    ·have h4:¬ n / g%2=1:=fun z=>h2 ⟨h3,z⟩
     simp [h4]
    ·simp [h3]
  ·exact Or.inr hc
 have h:=(key (min d (n.log2+2))).resolve_right (by simp)
 rw [h,Nat.shiftLeft_eq,Nat.one_mul]
 by_cases hd:d≤n.log2+2
 ·rw [Nat.min_eq_left hd]
 ·rw [Nat.min_eq_right (by omega)]
  have a:=lt_two_pow_log2 n
  have b:2^(n.log2+2)=2*2^(n.log2+1):=by rw [Nat.pow_succ 2 (n.log2+1)];omega
  have c:2^(n.log2+2)≤2^d:=Nat.pow_le_pow_right (by omega) (by omega)
  rw [rne_small (by omega),rne_small (by omega)]

def R (p k n:Nat):Nat:=(n.log2 - (p+k))*2^p+rne n (2^(n.log2 - (p+k)+k))

theorem nearest_eq {f:Format} {s:Bool} {mag:Nat} {place:Int} (i k:Nat) (hp:place+k=f.leastPlace+i) (hm:mag≠0) :
  f.nearest s mag place=f.word s (min (R f.fractionBits k (mag*2^i)) f.infRung):=by
 unfold Format.nearest R
 rw [if_neg hm]
 simp only [Format.binade]
 rw [cut_even,log2_mul_pow hm]
 generalize f.fractionBits=p
 generalize hl:mag.log2=l
 have e1:(max (place+(l:Int) - p) f.leastPlace - f.leastPlace).toNat=l+i - (p+k):=by omega
 rw [e1]
 congr 3
 generalize he:l+i - (p+k)=e
 have e2:(max (place+(l:Int) - p) f.leastPlace - place).toNat=e+k - i:=by omega
 have e3:(place - max (place+(l:Int) - p) f.leastPlace).toNat=i - (e+k):=by omega
 rw [e2,e3,Nat.shiftLeft_eq]
 by_cases h:i≤e+k
 ·rw [show i - (e+k)=0 by omega,Nat.pow_zero,Nat.mul_one]
  have:2^(e+k)=2^(e+k - i)*2^i:=by rw [← Nat.pow_add];congr 1;omega
  rw [this,rne_mul _ _ (two_pow_pos i)]
 ·rw [show e+k - i=0 by omega,Nat.pow_zero,rne_one]
  have:2^i=2^(i - (e+k))*2^(e+k):=by rw [← Nat.pow_add];congr 1;omega
  rw [this,← Nat.mul_assoc,rne_mul_self _ (two_pow_pos _)]

theorem R_shift {p k n:Nat} (hn:n≠0):R p k (n*2^k)=R p 0 n:=by
 unfold R
 rw [log2_mul_pow hn,show n.log2+k - (p+k)=n.log2 - (p+0) by omega,Nat.pow_add,rne_mul _ _ (two_pow_pos k)]
 simp

theorem R_spec (p k n:Nat) (hp:1≤p):∃ r,U p r*2^k≤n∧n<U p (r+1)*2^k ∧
  R p k n=r+(if (U p r+U p (r+1))*2^k<2*n∨((U p r+U p (r+1))*2^k=2*n∧r%2=1) then 1 else 0):=by
 generalize he:n.log2 - (p+k)=e
 have hP:=two_pow_pos p
 have hE:=two_pow_pos (e+k)
 have hl:n<2^(p+1+(e+k)):=Nat.lt_of_lt_of_le (lt_two_pow_log2 n) (Nat.pow_le_pow_right (by omega) (by omega))
 have hq:n / 2^(e+k)<2^(p+1):=by
  rw [Nat.div_lt_iff_lt_mul hE,← Nat.pow_add];exact hl
 have hq2:e=0∨2^p≤n / 2^(e+k):=by
  by_cases h:e=0
  ·exact Or.inl h
  ·right
   have hn:n≠0:=by intro z;subst z;simp at he;omega
   rw [Nat.le_div_iff_mul_le hE,← Nat.pow_add]
   have:p+(e+k)=n.log2:=by omega
   rw [this];exact two_pow_log2_le hn
 generalize hqq:n / 2^(e+k)=q at hq hq2
 have u1:U p (e*2^p+q)=q*2^e:=by
  rcases hq2 with h | h
  ·subst h;rw [Nat.zero_mul,Nat.zero_add,U_small hq];simp
  ·exact U_parts h hq
 have u2:U p (e*2^p+q+1)=(q+1)*2^e:=by
  rw [U_succ,u1,Nat.add_mul,Nat.one_mul]
  congr 2
  rcases hq2 with h | h
  ·subst h
   rw [Nat.zero_mul,Nat.zero_add]
   have:q / 2^p<2:=by rw [Nat.div_lt_iff_lt_mul hP];rw [Nat.pow_succ] at hq;omega
   omega
  ·rw [Nat.mul_comm e,Nat.mul_add_div hP]
   have h3:q / 2^p=1:=by
    have a:q / 2^p<2:=by rw [Nat.div_lt_iff_lt_mul hP];rw [Nat.pow_succ] at hq;omega
    have b:1≤q / 2^p:=(Nat.one_le_div_iff hP).2 h
    omega
   omega
 have hdm:=Nat.div_add_mod n (2^(e+k))
 have hml:=Nat.mod_lt n hE
 rw [hqq] at hdm
 have ee:2^e*2^k=2^(e+k):=(Nat.pow_add 2 e k).symm
 refine ⟨e*2^p+q,?_,?_,?_⟩
 ·rw [u1,Nat.mul_assoc,ee,Nat.mul_comm];omega
 ·rw [u2,Nat.mul_assoc,ee,Nat.add_mul,Nat.one_mul,Nat.mul_comm q];omega
 ·unfold R rne
  rw [he,hqq,u1,u2,Nat.add_assoc]
  congr 2
  generalize hg:2^(e+k)=g at hdm hml ee ⊢
  have e4:(q*2^e+(q+1)*2^e)*2^k=2*(g*q)+g:=by
   rw [Nat.add_mul,Nat.mul_assoc,Nat.mul_assoc,ee,Nat.add_mul,Nat.one_mul,Nat.mul_comm q];omega
  rw [e4]
  have par:(e*2^p+q)%2=q%2:=by
   obtain ⟨p',rfl⟩:∃ p',p=p'+1:=⟨p - 1,by omega⟩
   rw [Nat.pow_succ,← Nat.mul_assoc];omega
  rw [par]
  have c1:g<2*(n%g)↔2*(g*q)+g<2*n:=by omega
  have c2:g=2*(n%g)↔2*(g*q)+g=2*n:=by omega
  simp only [c1,c2]
end Go.Proofs.YthimlebkjnajpaaDoorW.FL
namespace Go.Proofs.YthimlebkjnajpaaDoorW.EV
open Go Go.RowKit Go.Proofs.YthimlebkjnajpaaDoorW.PrintWords Go.Proofs.YthimlebkjnajpaaDoorW.PrintLast Go.Proofs.YthimlebkjnajpaaDoorW.PrintMore Go.Proofs.YthimlebkjnajpaaDoorW.NA
open Go.Proofs.YthimlebkjnajpaaDoorW.FL (wrap64_id wrap_u64 log2_eq two_pow_log2_le lt_two_pow_log2)
def Evl {α:Type} (g:Nat→Option α) (r:α):Prop:=∃ k0,∀ k,k0≤k→g k=some r
theorem Evl.pure {α:Type} {g:Nat→Option α} {r:α} (h:∀ k,g k=some r):Evl g r:=⟨0,fun k _=>h k⟩
theorem Evl.step {α:Type} {g:Nat→Option α} {r:α} (h:∃ k0,∀ k,k0≤k→g (k+1)=some r):Evl g r:=by
 obtain ⟨k0,h⟩:=h
 refine ⟨k0+1,fun k hk => ?_⟩
 obtain ⟨j,rfl⟩:∃ j,k=j+1:=⟨k - 1,by omega⟩
 exact h j (by omega)
theorem Evl.bind {α β:Type} {g:Nat→Option α} {a:α} {h:Nat→α→Option β} {r:β} (h1:Evl g a) (h2:Evl (fun k=>h k a) r):Evl (fun k=>(g k).bind (h k)) r:=by
 obtain ⟨k1,e1⟩:=h1
 obtain ⟨k2,e2⟩:=h2
 refine ⟨max k1 k2,fun k hk => ?_⟩
 show (g k).bind (h k)=some r
 rw [e1 k (by omega),Option.bind_some];exact e2 k (by omega)
theorem Evl.congr {α:Type} {g g':Nat→Option α} {r:α} (h:Evl g r) (e:∀ k,g' k=g k):Evl g' r:=by
 obtain ⟨k0,h⟩:=h;exact ⟨k0,fun k hk=>(e k).trans (h k hk)⟩
theorem Evl.unique {α:Type} {g:Nat→Option α} {r s:α} (h:Evl g r) (h':Evl g s):r=s:=by
 obtain ⟨k1,e1⟩:=h
 obtain ⟨k2,e2⟩:=h'
 have a:=e1 (max k1 k2) (by omega)
 have b:=e2 (max k1 k2) (by omega)
 rw [a] at b;exact Option.some.inj b
theorem Evl.some {α:Type} (r:α):Evl (fun _=>some r) r:=⟨0,fun _ _=>rfl⟩
theorem rd_eq {l:List Int} {i:Nat} {x:Int} (h:l[i]? = Option.some x):rd l (i:Int)=x:=by
 unfold rd;rw [Int.toNat_natCast,List.getD_eq_getElem?_getD,h];rfl
theorem get_some {l:List Int} {i:Nat} (h:i<l.length):∃ x,l[i]? = Option.some x:=⟨l[i],by simp [h]⟩
theorem V_drop {l:List Int} {i:Nat} {x:Int} (h:l[i]? = Option.some x):V (l.drop i)=x.toNat+4294967296*V (l.drop (i+1)):=by
 have hi:i<l.length:=by
  obtain ⟨hi,_⟩:=List.getElem?_eq_some_iff.1 h;exact hi
 rw [List.drop_eq_getElem_cons hi,V_cons]
 have:l[i]=x:=by
  obtain ⟨_,e⟩:=List.getElem?_eq_some_iff.1 h;exact e
 rw [this]
theorem V_drop_ge {l:List Int} {i:Nat} (h:l.length≤i):V (l.drop i)=0:=by rw [List.drop_eq_nil_of_le h];rfl
theorem V_set {l:List Int} (hw:WF l) {n:Nat} {x:Int} (y:Int) (h:l[n]? = Option.some x):V (l.set n y)+4294967296^n*x.toNat=V l+4294967296^n*y.toNat:=by
 induction l generalizing n with
 | nil=>simp at h
 | cons z zs ih =>
  cases n with
  | zero=>simp at h;subst h;simp [V];omega
  | succ n =>
   have:=ih hw.tail (n:=n) (by simpa using h)
   rw [List.set_cons_succ,V_cons,V_cons,Nat.pow_succ]
   grind
def sz (l:List Int):Nat:=(Cn (V l)).length
def ats (l:List Int) (i:Nat):Nat:=(l.getD i 0).toNat
def cz (x y:Nat):Int:=if x<y then -1 else if y<x then 1 else 0
theorem drop_lt {a b:List Int} (ha:WF a) {i:Nat} (h1:i≤a.length) (h2:i≤b.length) (h:V (a.drop i)<V (b.drop i)):V a<V b:=by
 have e1:=V_split a i h1
 have e2:=V_split b i h2
 have e3:=V_lt (ha.take i)
 rw [List.length_take,Nat.min_eq_left h1] at e3
 have e4:4294967296^i*(V (a.drop i)+1)≤4294967296^i*V (b.drop i):=Nat.mul_le_mul_left _ h
 rw [Nat.mul_add,Nat.mul_one] at e4
 omega
theorem len_lt {m n:Nat} (h:(Cn m).length<(Cn n).length):m<n:=by
 by_cases c:m<n
 ·exact c
 ·have:=Cn_length_le (n:=m) (Nat.le_refl _)
  have h2:=Cn_length_lt (n:=n) (k:=(Cn m).length) (by omega)
  omega
theorem drop_sz {l:List Int} (hs:sz l≤l.length) (h:l.take (sz l)=Cn (V l)):V (l.drop (sz l))=0:=by
 have e:=V_split l (sz l) hs
 rw [h,V_Cn] at e
 have:4294967296^sz l*V (l.drop (sz l))=0:=by omega
 rcases Nat.mul_eq_zero.1 this with z | z
 ·have:=Nat.pow_pos (n:=sz l) (show 0<4294967296 by decide);omega
 ·exact z
theorem wadd {i j:Nat} (h:i+j<4611686018427387904):wrap64 ((i:Int)+(j:Int))=((i+j:Nat):Int):=by rw [wrap64_id (by omega) (by omega)];omega
theorem wsucc {i:Nat} (h:i<4611686018427387904):wrap64 ((i:Int)+1)=((i+1:Nat):Int):=by rw [wrap64_id (by omega) (by omega)];omega
theorem inner_sum {P X Y Z u q r over W V0:Nat} (hdm:4294967296*q+r=X*Y+Z+over) (s:W+P*Z=V0+P*r):W+P*4294967296*(X*u+q)=V0+P*(X*(Y+4294967296*u)+over):=by
 have a1:X*(Y+4294967296*u)=X*Y+4294967296*(X*u):=by rw [Nat.mul_add,Nat.mul_left_comm]
 have a2:X*Y+4294967296*(X*u)+over+Z=4294967296*(X*u+q)+r:=by
  clear s a1
  generalize X*Y=XY at hdm ⊢
  generalize X*u=Xu
  omega
 have e:P*(X*(Y+4294967296*u)+over)+P*Z=P*4294967296*(X*u+q)+P*r:=by
  rw [a1,← Nat.mul_add P,a2,Nat.mul_add P,← Nat.mul_assoc P 4294967296]
 clear a1 a2 hdm
 generalize P*(X*(Y+4294967296*u)+over)=L1 at e ⊢
 generalize P*4294967296*(X*u+q)=L2 at e ⊢
 generalize P*Z=L3 at e s
 generalize P*r=L4 at e s
 omega
theorem mul_wrap {x y z:Int} {over t:Nat} (rx:0≤x∧x<4294967296) (ry:0≤y∧y<4294967296) (rz:0≤z∧z<4294967296) (ho:over<4294967296) (ht:x.toNat*y.toNat+z.toNat+over=t) :
  IntKind.u64.wrap (IntKind.u64.wrap (IntKind.u64.wrap (IntKind.u64.wrap x*IntKind.u64.wrap y)+IntKind.u64.wrap z)+(over:Int))=(t:Int):=by
 obtain ⟨X,rfl⟩:=Int.eq_ofNat_of_zero_le rx.1
 obtain ⟨Y,rfl⟩:=Int.eq_ofNat_of_zero_le ry.1
 obtain ⟨Z,rfl⟩:=Int.eq_ofNat_of_zero_le rz.1
 simp only [Int.toNat_natCast] at ht
 have hprod:X*Y≤4294967295*4294967295:=Nat.mul_le_mul (by omega) (by omega)
 have e1:IntKind.u64.wrap (X:Int)=X:=by rw [wrap_u64];omega
 have e2:IntKind.u64.wrap (Y:Int)=Y:=by rw [wrap_u64];omega
 have e3:IntKind.u64.wrap (Z:Int)=Z:=by rw [wrap_u64];omega
 rw [e1,e2,e3,← Int.natCast_mul,wrap_u64,wrap_u64,wrap_u64]
 clear e1 e2 e3 rx ry
 generalize X*Y=p at hprod ht ⊢
 omega
theorem one_word {x:Int} (h0:0≤x) (h1:x<4294967296):WF [x]:=WF.cons h0 h1 WF.nil
theorem wpred {i:Nat} (h:i<4611686018427387904):wrap64 ((i:Int) - 1)=(i:Int) - 1:=wrap64_id (by omega) (by omega)
theorem cz_nonneg {x y:Nat}:cz x y≥0↔y≤x:=by
 unfold cz;by_cases h:x<y
 ·rw [if_pos h];omega
 ·rw [if_neg h];split <;> omega
theorem pow32 (n:Nat):4294967296^n=2^(32*n):=by rw [Nat.pow_mul]
theorem V_div {l:List Int} (hw:WF l) {k:Nat} (hk:k≤l.length):V l / 4294967296^k=V (l.drop k):=by
 have e:=V_split l k hk
 have h:=V_lt (hw.take k)
 rw [List.length_take,Nat.min_eq_left hk] at h
 rw [e,Nat.add_comm,Nat.mul_add_div (by omega),Nat.div_eq_of_lt h,Nat.add_zero]
theorem shl1 {r:Nat} (h:r<32):shl .u32 1 (r:Int)=((2^r:Nat):Int)∧(2^r:Nat)<4294967296:=by
 have h2:2^r<2^32:=Nat.pow_lt_pow_right (by decide) h
 have hm:min (Int.toNat (r:Int)) (IntKind.bits .u32)=r:=by rw [Int.toNat_natCast];exact Nat.min_eq_left (show r≤32 by omega)
 refine ⟨?_,by omega⟩
 unfold shl
 rw [hm,Int.one_mul]
 have:((2:Int)^r)=((2^r:Nat):Int):=by rw [Int.natCast_pow];rfl
 rw [this]
 generalize 2^r=p at h2
 simp [IntKind.wrap,IntKind.bits,IntKind.signed]
 omega
theorem wnat {p:Nat} (h:p<4294967296):WF [(p:Int)]:=one_word (by omega) (by omega)
theorem tdiv32 (n:Nat):Int.tdiv (n:Int) 32=((n / 32:Nat):Int):=by rw [Int.tdiv_eq_ediv_of_nonneg (by omega)];omega
theorem tmod32 (n:Nat):Int.tmod (n:Int) 32=((n%32:Nat):Int):=by rw [Int.tmod_eq_emod_of_nonneg (by omega)];omega
theorem wrapn {n:Nat} (h:n<4611686018427387904):wrap64 (n:Int)=(n:Int):=wrap64_id (by omega) (by omega)
theorem wneg {n:Nat} (h:n<4611686018427387904):wrap64 (-(-(n:Int)))=(n:Int):=by rw [wrap64_id (by omega) (by omega)];omega
def bl (n:Nat):Nat:=if n=0 then 0 else n.log2+1
theorem bl_half {n:Nat} (h:n≠0):bl n=bl (n / 2)+1:=by
 unfold bl
 rw [if_neg h]
 by_cases h2:n / 2=0
 ·rw [if_pos h2]
  have:n.log2=0:=log2_eq (by omega) (by omega)
  omega
 ·rw [if_neg h2]
  congr 1
  have a:=two_pow_log2_le h2
  have b:=lt_two_pow_log2 (n / 2)
  generalize (n / 2).log2=e at a b
  have hp:2^(e+1+1)=2*2^(e+1):=by rw [Nat.pow_succ 2 (e+1)];omega
  have hp2:2^(e+1)=2*2^e:=by rw [Nat.pow_succ 2 e];omega
  exact log2_eq (by omega) (by omega)
theorem bl_top {P x w s:Nat} (hP:P=2^s) (hx:x≠0) (hw:w<P):bl (w+P*x)=s+bl x:=by
 subst hP
 have hp:=Nat.two_pow_pos s
 have h0:w+2^s*x≠0:=by
  have:0<2^s*x:=Nat.mul_pos hp (by omega)
  omega
 unfold bl
 rw [if_neg h0,if_neg hx]
 have a:=two_pow_log2_le hx
 have b:=lt_two_pow_log2 x
 have e1:2^(s+x.log2)=2^s*2^x.log2:=Nat.pow_add ..
 have e2:2^(s+x.log2+1)=2^s*2^(x.log2+1):=by rw [Nat.add_assoc,Nat.pow_add]
 have h1:2^s*2^x.log2≤2^s*x:=Nat.mul_le_mul_left _ a
 have h2:2^s*(x+1)≤2^s*2^(x.log2+1):=Nat.mul_le_mul_left _ b
 rw [Nat.mul_add,Nat.mul_one] at h2
 have:=log2_eq (n:=w+2^s*x) (e:=s+x.log2) (by omega) (by omega)
 omega
theorem testBit_word:∀ {l:List Int},WF l→∀ (i:Nat),(V l).testBit i=(ats l (i / 32)).testBit (i%32):=by
 intro l
 induction l with
 | nil=>intro _ i;simp [V,ats]
 | cons x xs ih =>
  intro hw i
  have h1:=hw.head
  have e:V (x::xs)=2^32*V xs+x.toNat:=by rw [V_cons];omega
  rw [e,Nat.testBit_two_pow_mul_add _ (show x.toNat<2^32 by omega)]
  by_cases c:i<32
  ·rw [if_pos c,show i / 32=0 by omega,show i%32=i by omega];rfl
  ·rw [if_neg c,ih hw.tail,show i / 32=(i - 32) / 32+1 by omega,show i%32=(i - 32)%32 by omega]
   unfold ats;simp
theorem u32_and1 {x:Int} (h0:0≤x) (h1:x<4294967296):bits .and .u32 x 1=x%2 :=
 bits_mask .u32 32 (by decide) (fun n h₀ h₁=>by simp [IntKind.wrap,IntKind.bits,IntKind.signed];omega) 1 (by decide) x h0 (by omega)
theorem odd_parts:∀ {n:Nat},n≠0→∃ e m,n=(2*m+1)*2^e:=by
 intro n
 induction n using Nat.strongRecOn with
 | _ n ih =>
  intro h
  by_cases c:n%2=1
  ·exact ⟨0,n / 2,by omega⟩
  ·obtain ⟨e,m,he⟩:=ih (n / 2) (by omega) (by omega)
   refine ⟨e+1,m,?_⟩
   rw [Nat.pow_succ,← Nat.mul_assoc,← he];omega
theorem testBit_odd (m e i:Nat) (h:i≤e):((2*m+1)*2^e).testBit i=decide (i=e):=by
 rw [Nat.testBit_mul_two_pow]
 by_cases c:i=e
 ·subst c;simp [Nat.testBit_zero]
 ·simp [c];omega
theorem Cn_len_pow {n b:Nat} (h:n<2^b):(Cn n).length≤b / 32+1:=by
 apply Cn_length_lt
 rw [pow32]
 exact Nat.lt_of_lt_of_le h (Nat.pow_le_pow_right (by decide) (by omega))
theorem cz_mul (a b:Nat) {p:Nat} (hp:0<p):cz (a*p) (b*p)=cz a b:=by
 unfold cz
 simp only [Nat.mul_lt_mul_right hp]
theorem cz_swap (a b:Nat):cz a b = - cz b a:=by
 unfold cz
 rcases Nat.lt_trichotomy a b with h | h | h
 ·rw [if_pos h,if_neg (by omega),if_pos h]
 ·subst h;simp
 ·rw [if_neg (by omega),if_pos h,if_pos h];rfl
theorem cz_zero_l {a b:Nat} {p q:Nat} (h:a=0) (hq:0<q):cz (a*p) (b*q)=cz a b:=by
 subst h;rw [Nat.zero_mul];unfold cz
 by_cases z:b=0
 ·subst z;simp
 ·rw [if_pos (Nat.mul_pos (by omega) hq),if_pos (by omega)]
theorem cz_zero_r {a b:Nat} {p q:Nat} (h:b=0) (hp:0<p):cz (a*p) (b*q)=cz a b:=by
 rw [cz_swap,cz_zero_l h hp,← cz_swap]
theorem bl_le {n:Nat} (h:n≠0):2^(bl n - 1)≤n:=by unfold bl;rw [if_neg h];exact two_pow_log2_le h
theorem bl_lt (n:Nat):n<2^bl n:=by
 unfold bl;split
 ·omega
 ·exact lt_two_pow_log2 n
theorem bl_zero {n:Nat}:bl n=0↔n=0:=by unfold bl;split <;> omega
theorem bl_bound {n b:Nat} (h:n<2^b):bl n≤b:=by
 by_cases z:n=0
 ·rw [bl_zero.2 z];omega
 ·have h1:=bl_le z
  have h2:2^(bl n - 1)<2^b:=Nat.lt_of_le_of_lt h1 h
  have:=(Nat.pow_lt_pow_iff_right (by decide)).1 h2
  omega
theorem wrap_small {n:Nat} (h:n<18446744073709551616):IntKind.u64.wrap (n:Int)=(n:Int):=by rw [wrap_u64];omega
theorem cz_pos {x y:Nat}:cz x y>0↔y<x:=by
 unfold cz;by_cases h:x<y
 ·rw [if_pos h];omega
 ·rw [if_neg h];split <;> omega
theorem cz_nonpos {x y:Nat}:cz x y≤0↔x≤y:=by
 unfold cz;by_cases h:x<y
 ·rw [if_pos h];omega
 ·rw [if_neg h];split <;> omega
theorem cz_zero {x y:Nat}:cz x y=0↔x=y:=by
 unfold cz;by_cases h:x<y
 ·rw [if_pos h];omega
 ·rw [if_neg h];split <;> omega
theorem u64mid {f t:Nat} (h:f+t<18446744073709551616):IntKind.u64.wrap (Int.tdiv (IntKind.u64.wrap ((f:Int)+(t:Int))) 2)=(((f+t) / 2:Nat):Int):=by
 rw [wrap_u64,wrap_u64,Int.tdiv_eq_ediv_of_nonneg (by omega)];omega
theorem u64dif {f t:Nat} (h:f≤t) (h2:t<18446744073709551616):IntKind.u64.wrap ((t:Int) - (f:Int))=((t - f:Nat):Int):=by rw [wrap_u64];omega
theorem u64suc {r:Nat} (h:r<18446744073709551615):IntKind.u64.wrap ((r:Int)+1)=((r+1:Nat):Int):=by rw [wrap_u64];omega
end Go.Proofs.YthimlebkjnajpaaDoorW.EV
namespace Go.Proofs.YthimlebkjnajpaaDoor.P02
open Go Go.RowKit Go.Proofs.YthimlebkjnajpaaDoor.Pr Go.Proofs.YthimlebkjnajpaaDoorW.PrintWords Go.Proofs.YthimlebkjnajpaaDoorW.PrintLast Go.Proofs.YthimlebkjnajpaaDoorW.PrintMore Go.Proofs.YthimlebkjnajpaaDoorW.NA Go.Proofs.YthimlebkjnajpaaDoorW.EV
open Go.Proofs.YthimlebkjnajpaaDoorW.FL (wrap64_id wrap_u64 log2_eq two_pow_log2_le lt_two_pow_log2)
set_option linter.unusedVariables false
set_option linter.unusedSimpArgs false
theorem take_full {l:List Int} {n:Nat} (h:l.length=n):l.take n=l:=List.take_of_length_le (by omega)
theorem V_take_zero {l:List Int} {n:Nat} (h:n≤l.length) (hz:V (l.drop n)=0):V (l.take n)=V l:=by
 have:=V_split l n h
 rw [hz,Nat.mul_zero,Nat.add_zero] at this
 exact this.symm
theorem V_last {l:List Int} {n:Nat} {x:Int} (hl:l.length=n+1) (hx:l[n]? = some x):V (l.drop n)=x.toNat:=by
 rw [V_drop hx,V_drop_ge (by omega)];omega
theorem form_last {l:List Int} {n:Nat} {x:Int} (hw:WF l) (hl:l.length=n+1) (hx:l[n]? = some x) (h0:x≠0):l=Cn (V l):=by
 have:=take_Cn hw (k:=n+1) (by omega) (V_drop_ge (by omega)) (Or.inr ⟨x,by simpa using hx,h0⟩)
 rwa [take_full hl] at this
theorem cut_loop:∀ (n:Nat) (l:List Int),WF l→l.length=n→n<4611686018427387904→∀ k,wide_cut.l0 (n+1+k) l=some (Cn (V l)):=by
 intro n
 induction n with
 | zero =>
  intro l hw hl _ k
  have:l=[]:=List.length_eq_zero_iff.1 hl
  subst this
  rw [show 0+1+k=k+1 by omega,wide_cut.l0,if_neg (by simp),V_nil,Cn_zero]
 | succ n ih =>
  intro l hw hl hn k
  obtain ⟨x,hx⟩:=get_some (l:=l) (i:=n) (by omega)
  have ew:wrap64 (((n+1:Nat):Int) - 1)=(n:Int):=by rw [wrap64_id (by omega) (by omega)];omega
  have c1:((n+1:Nat):Int)>0:=by omega
  have c2:(n:Int)<((n+1:Nat):Int):=by omega
  have c3:(n:Int)≤((n+1:Nat):Int):=by omega
  rw [show n+1+1+k=(n+1+k)+1 by omega,wide_cut.l0,hl,if_pos c1,ew,if_pos (Int.natCast_nonneg n),if_pos c2,rd_eq hx]
  by_cases h0:x=0
  ·have hz:V (l.drop n)=0:=by rw [V_last hl hx,h0];rfl
   rw [if_pos h0,if_pos c3,Int.toNat_natCast,ih (l.take n) (hw.take n) (by rw [List.length_take];omega) (by omega) k,V_take_zero (by omega) hz]
  ·rw [if_neg h0,← form_last hw hl hx h0]
theorem cut_eq {l:List Int} (hw:WF l) (hl:l.length<4611686018427387904):Evl (fun k=>wide_cut.f k l) (Cn (V l)):=by
 refine ⟨l.length+1,fun k hk => ?_⟩
 obtain ⟨j,rfl⟩:∃ j,k=l.length+1+j:=⟨k - (l.length+1),by omega⟩
 exact cut_loop l.length l hw rfl hl j
theorem trimN_Cn {l:List Int} (hw:WF l):∀ n,n≤l.length→V (l.drop n)=0→l.take (trimN l n)=Cn (V l):=by
 intro n
 induction n with
 | zero=>intro _ hz;unfold trimN;exact take_Cn hw (by omega) hz (Or.inl rfl)
 | succ n ih =>
  intro hn hz
  obtain ⟨x,hx⟩:=get_some (l:=l) (i:=n) (by omega)
  unfold trimN
  rw [rd_eq hx]
  by_cases h0:x=0
  ·rw [if_pos h0];exact ih (by omega) (by rw [V_drop hx,hz,h0];rfl)
  ·rw [if_neg h0];exact take_Cn hw hn hz (Or.inr ⟨x,by simpa using hx,h0⟩)
theorem trm_Cn {l:List Int} (hw:WF l):trm l=Cn (V l):=trimN_Cn hw l.length (Nat.le_refl _) (V_drop_ge (Nat.le_refl _))
theorem fit1_eq {l:List Int} (hw:WF l):fit1 l=if 8192<(Cn (V l)).length then [] else Cn (V l):=by
 unfold fit1;rw [← trm_length,trm_Cn hw]
theorem fit2_eq {l:List Int} (hw:WF l):fit2 l=if 8192<(Cn (V l)).length then 2 else 0:=by
 unfold fit2;rw [← trm_length,trm_Cn hw]
theorem Cn_le {l:List Int} (hw:WF l):(Cn (V l)).length≤l.length:=Cn_length_lt (V_lt hw)
theorem cpy_rep {l:List Int} {n:Nat} (h:n≤l.length):cpy (List.replicate n 0) l=l.take n:=by
 unfold cpy
 rw [List.length_replicate,Nat.min_eq_right h,List.drop_of_length_le (by simp),List.append_nil]
theorem Norm_loop {l:List Int} (hw:WF l) (hlen:l.length<70368744177664):∀ n k:Nat,n≤l.length→V (l.drop n)=0→wide_Norm.l0 (n+1+k) l (n:Int)=some (Cn (V l)):=by
 have last:∀ n:Nat,n≤l.length→(if (0:Int)≤(n:Int) then (if ((n:Int):Int).toNat≤70368744177664 then (some (cpy (List.replicate ((n:Int):Int).toNat 0) l)) else none) else none)=some (l.take n):=by
  intro n hn
  rw [if_pos (Int.natCast_nonneg n),Int.toNat_natCast,if_pos (by omega),cpy_rep hn]
 intro n
 induction n with
 | zero =>
  intro k _ hz
  rw [show 0+1+k=k+1 by omega,wide_Norm.l0,if_neg (by omega),last 0 (by omega),take_Cn hw (by omega) hz (Or.inl rfl)]
 | succ n ih =>
  intro k hn hz
  obtain ⟨x,hx⟩:=get_some (l:=l) (i:=n) (by omega)
  have ew:wrap64 (((n+1:Nat):Int) - 1)=(n:Int):=by rw [wrap64_id (by omega) (by omega)];omega
  have c1:((n+1:Nat):Int)>0:=by omega
  have c2:(n:Int)<(l.length:Int):=by omega
  rw [show n+1+1+k=(n+1+k)+1 by omega,wide_Norm.l0,if_pos c1,ew,if_pos (Int.natCast_nonneg n),if_pos c2,rd_eq hx]
  by_cases h0:x=0
  ·rw [if_pos h0];exact ih k (by omega) (by rw [V_drop hx,hz,h0];rfl)
  ·rw [if_neg h0,last (n+1) hn,take_Cn hw hn hz (Or.inr ⟨x,by simpa using hx,h0⟩)]
theorem Norm_eq {l:List Int} (hw:WF l) (hlen:l.length<70368744177664):Evl (fun k=>wide_Norm.f k l) (Cn (V l)):=by
 refine ⟨l.length+1,fun k hk => ?_⟩
 obtain ⟨j,rfl⟩:∃ j,k=l.length+1+j:=⟨k - (l.length+1),by omega⟩
 exact Norm_loop hw hlen l.length j (Nat.le_refl _) (V_drop_ge (Nat.le_refl _))

set_option maxRecDepth 100000 in
theorem len8:∀ i:Fin 256,bt (⟨#[0,1,2,2,3,3,3,3,4,4,4,4,4,4,4,4,5,5,5,5,5,5,5,5,5,5,5,5,5,5,5,5,6,6,6,6,6,6,6,6,6,6,6,6,6,6,6,6,6,6,6,6,6,6,6,6,6,6,6,6,6,6,6,6,7,7,7,7,7,7,7,7,7,7,7,7,7,7,7,7,7,7,7,7,7,7,7,7,7,7,7,7,7,7,7,7,7,7,7,7,7,7,7,7,7,7,7,7,7,7,7,7,7,7,7,7,7,7,7,7,7,7,7,7,7,7,7,7,8,8,8,8,8,8,8,8,8,8,8,8,8,8,8,8,8,8,8,8,8,8,8,8,8,8,8,8,8,8,8,8,8,8,8,8,8,8,8,8,8,8,8,8,8,8,8,8,8,8,8,8,8,8,8,8,8,8,8,8,8,8,8,8,8,8,8,8,8,8,8,8,8,8,8,8,8,8,8,8,8,8,8,8,8,8,8,8,8,8,8,8,8,8,8,8,8,8,8,8,8,8,8,8,8,8,8,8,8,8,8,8,8,8,8,8,8,8,8,8,8,8,8,8,8,8,8,8]⟩:ByteArray) ((i.val:Nat):Int)=((if i.val=0 then 0 else i.val.log2+1:Nat):Int):=by decide
theorem len8' {i:Nat} (h:i<256):bt (⟨#[0,1,2,2,3,3,3,3,4,4,4,4,4,4,4,4,5,5,5,5,5,5,5,5,5,5,5,5,5,5,5,5,6,6,6,6,6,6,6,6,6,6,6,6,6,6,6,6,6,6,6,6,6,6,6,6,6,6,6,6,6,6,6,6,7,7,7,7,7,7,7,7,7,7,7,7,7,7,7,7,7,7,7,7,7,7,7,7,7,7,7,7,7,7,7,7,7,7,7,7,7,7,7,7,7,7,7,7,7,7,7,7,7,7,7,7,7,7,7,7,7,7,7,7,7,7,7,7,8,8,8,8,8,8,8,8,8,8,8,8,8,8,8,8,8,8,8,8,8,8,8,8,8,8,8,8,8,8,8,8,8,8,8,8,8,8,8,8,8,8,8,8,8,8,8,8,8,8,8,8,8,8,8,8,8,8,8,8,8,8,8,8,8,8,8,8,8,8,8,8,8,8,8,8,8,8,8,8,8,8,8,8,8,8,8,8,8,8,8,8,8,8,8,8,8,8,8,8,8,8,8,8,8,8,8,8,8,8,8,8,8,8,8,8,8,8,8,8,8,8,8,8,8,8,8,8]⟩:ByteArray) (i:Int)=(bl i:Int):=len8 ⟨i,h⟩
theorem bl_div {x:Nat} (s:Nat) (h:x / 2^s≠0):bl x=s+bl (x / 2^s):=by
 have e:=Nat.div_add_mod x (2^s)
 have:=bl_top (P:=2^s) (w:=x%2^s) (x:=x / 2^s) rfl h (Nat.mod_lt _ (Nat.two_pow_pos s))
 rw [Nat.add_comm,e] at this
 exact this
theorem bl_lt32 {x:Nat} (h:x<4294967296):bl x≤32:=bl_bound (b:=32) (by omega)
theorem Len32_eq {x:Nat} (h:x<4294967296):bits_Len32.f (x:Int)=some (bl x:Int):=by
 have hb:=bl_lt32 h
 unfold bits_Len32.f
 by_cases c1:x<65536
 ·rw [if_neg (by omega)]
  by_cases c2:x<256
  ·have e:(x:Int)%256=((x%256:Nat):Int):=by omega
   rw [if_neg (by omega),e,if_pos (by omega),if_pos (by omega),len8' (by omega),show x%256=x by omega,wrap64_id (x:=(bl x:Int)) (by omega) (by omega)]
   first
    | rfl
    | (rw [wrap64_id (by omega) (by omega)];congr 1;omega)
  ·have e:(x:Int) / 256%256=((x / 256:Nat):Int):=by omega
   have hd:=bl_div (x:=x) 8 (by omega)
   rw [if_pos (by omega),e,if_pos (by omega),if_pos (by omega),len8' (by omega)]
   rw [show (2:Nat)^8=256 by decide] at hd
   rw [wrap64_id (x:=(bl (x / 256):Int)) (by omega) (by omega),wrap64_id (by omega) (by omega)]
   congr 1;omega
 ·rw [if_pos (by omega)]
  by_cases c2:x / 65536<256
  ·have e:(x:Int) / 65536%256=((x / 65536:Nat):Int):=by omega
   have hd:=bl_div (x:=x) 16 (by omega)
   rw [if_neg (by omega),e,if_pos (by omega),if_pos (by omega),len8' (by omega)]
   rw [show (2:Nat)^16=65536 by decide] at hd
   rw [wrap64_id (x:=(bl (x / 65536):Int)) (by omega) (by omega),wrap64_id (by omega) (by omega)]
   congr 1;omega
  ·have e:(x:Int) / 65536 / 256%256=((x / 16777216:Nat):Int):=by omega
   have hd:=bl_div (x:=x) 24 (by omega)
   rw [if_pos (by omega),e,if_pos (by omega),if_pos (by omega),len8' (by omega)]
   rw [show (2:Nat)^24=16777216 by decide] at hd
   rw [wrap64_id (x:=(bl (x / 16777216):Int)) (by omega) (by omega),wrap64_id (by omega) (by omega)]
   congr 1;omega
theorem Len_eq {l:List Int} (hw:WF l) (hl:l.length<70368744177664):Evl (fun k=>wide_Len.f k l) (bl (V l):Int):=by
 refine Evl.bind (cut_eq hw (by omega)) (Evl.pure fun k => ?_)
 have hle:=Cn_le hw
 have hv:=V_Cn (V l)
 have hwf:=Cn_wf (V l)
 have hfm:=Cn_fm (V l)
 generalize V l=v at hle hv hwf hfm ⊢
 generalize hc:Cn v=c at hle hv hwf hfm ⊢
 rcases hn:c.length with _ | n
 ·have:c=[]:=List.length_eq_zero_iff.1 hn
  subst this
  rw [V_nil] at hv
  rw [if_pos (by simp),← hv];rfl
 ·obtain ⟨x,hx⟩:=get_some (l:=c) (i:=n) (by omega)
  have rx:=hwf.get hx
  have ew:wrap64 (((n+1:Nat):Int) - 1)=(n:Int):=by rw [wrap64_id (by omega) (by omega)];omega
  have hx0:x≠0:=hfm x (by rw [List.getLast?_eq_getElem?,hn];simpa using hx)
  have hX:x=(x.toNat:Int):=by omega
  have c1:¬ ((n+1:Nat):Int)=0:=by omega
  have c2:(n:Int)<((n+1:Nat):Int):=by omega
  have hb:=bl_lt32 (x:=x.toNat) (by omega)
  have ev:bl v=32*n+bl x.toNat:=by
   have e1:=V_split c n (by omega)
   rw [V_last hn hx,hv] at e1
   have e2:=V_lt (hwf.take n)
   rw [List.length_take,Nat.min_eq_left (by omega)] at e2
   rw [e1]
   exact bl_top (pow32 n) (by omega) e2
  rw [if_neg c1,ew,if_pos (Int.natCast_nonneg n),if_pos c2,rd_eq hx,hX,Len32_eq (by omega),Option.bind_some,ev,wrap64_id (x:=32*(n:Int)) (by omega) (by omega),wrap64_id (by omega) (by omega)]
  congr 1
theorem ctz_eq {x m e:Nat} (h:x<4294967296) (he:x=(2*m+1)*2^e):Lib.ctz 32 x=e:=by
 have hp:=Nat.two_pow_pos e
 have h0:0<x:=by rw [he];exact Nat.mul_pos (by omega) hp
 unfold Lib.ctz
 rw [if_neg (by omega)]
 obtain ⟨m2,h2,_⟩:=Lib.ctzFrom_spec 32 x h0 (by omega)
 generalize Lib.ctzFrom 32 x=f at h2
 have t1:=testBit_odd m e
 have t2:=testBit_odd m2 f
 rw [← he] at t1
 rw [Nat.mul_comm,] at h2
 rw [← h2] at t2
 rcases Nat.lt_trichotomy e f with c | c | c
 ·have a:=t1 e (Nat.le_refl _)
  have b:=t2 e (by omega)
  rw [a] at b;simp at b;omega
 ·exact c.symm
 ·have a:=t1 f (by omega)
  have b:=t2 f (Nat.le_refl _)
  rw [a] at b;simp at b;omega
theorem Low_loop {l:List Int} (hw:WF l) (hl:l.length<70368744177664) {m e:Nat}:∀ (d i k:Nat),i+d=l.length→V (l.drop i)=(2*m+1)*2^e→wide_Low.l0 (d+1+k) l (l.length:Int) (i:Int)=some ((32*i+e:Nat):Int):=by
 intro d
 induction d generalizing e with
 | zero =>
  intro i k hi hv
  exfalso
  rw [V_drop_ge (by omega)] at hv
  have:=Nat.two_pow_pos e
  have:0<(2*m+1)*2^e:=Nat.mul_pos (by omega) this
  omega
 | succ d ih =>
  intro i k hi hv
  obtain ⟨x,hx⟩:=get_some (l:=l) (i:=i) (by omega)
  have rx:=hw.get hx
  rw [show d+1+1+k=(d+1+k)+1 by omega,wide_Low.l0,if_pos (by omega),if_pos (by omega),if_pos (by omega),rd_eq hx]
  rw [V_drop hx] at hv
  by_cases h0:x=0
  ·rw [if_pos h0,wsucc (by omega)]
   subst h0
   have he:32≤e:=by
    apply Nat.le_of_not_lt;intro hc
    have h1:(4294967296*V (l.drop (i+1))).testBit e=false:=by
     rw [show 4294967296*V (l.drop (i+1))=V (l.drop (i+1))*2^32 by omega,Nat.testBit_mul_two_pow];simp;omega
    have h2:=testBit_odd m e e (Nat.le_refl _)
    rw [← hv] at h2
    simp at h2
    rw [h1] at h2;cases h2
   obtain ⟨f,rfl⟩:∃ f,e=f+32:=⟨e - 32,by omega⟩
   have hv':V (l.drop (i+1))=(2*m+1)*2^f:=by
    rw [Nat.pow_add,← Nat.mul_assoc] at hv
    generalize (2*m+1)*2^f=z at hv ⊢
    generalize V (l.drop (i+1))=y at hv ⊢
    have:(2:Nat)^32=4294967296:=by decide
    rw [this] at hv
    have:(0:Int).toNat=0:=rfl
    omega
   rw [ih (e:=f) (i+1) k (by omega) hv']
   congr 2;omega
  ·rw [if_neg h0]
   obtain ⟨X,rfl⟩:=Int.eq_ofNat_of_zero_le rx.1
   rw [Int.toNat_natCast] at hv
   obtain ⟨e',m',hp⟩:=odd_parts (n:=X) (by omega)
   have he':e'<32:=by
    have h2:1*2^e'≤(2*m'+1)*2^e':=Nat.mul_le_mul_right _ (by omega)
    have h3:2^e'<2^32:=by omega
    exact (Nat.pow_lt_pow_iff_right (by decide)).1 h3
   have hee:e=e':=by
    have t1:=testBit_odd m e
    have t2:=testBit_odd m' e'
    rw [← hv] at t1
    rw [← hp] at t2
    have key:∀ j,j<32→(X+4294967296*V (l.drop (i+1))).testBit j=X.testBit j:=by
     intro j hj
     rw [show X+4294967296*V (l.drop (i+1))=2^32*V (l.drop (i+1))+X by omega,Nat.testBit_two_pow_mul_add _ (show X<2^32 by omega),if_pos hj]
    rcases Nat.lt_trichotomy e e' with c | c | c
    ·have a:=t1 e (Nat.le_refl _)
     rw [key e (by omega),t2 e (by omega)] at a
     simp at a;omega
    ·exact c
    ·have a:=t1 e' (by omega)
     rw [key e' he',t2 e' (Nat.le_refl _)] at a
     simp at a;omega
   unfold bits_TrailingZeros32.f
   rw [if_pos ⟨by omega,by omega⟩,Int.toNat_natCast,ctz_eq (by omega) hp,Option.bind_some,wrap64_id (x:=32*(i:Int)) (by omega) (by omega),wrap64_id (by omega) (by omega),hee]
   congr 1
theorem Low_eq {l:List Int} (hw:WF l) (hl:l.length<70368744177664) {m e:Nat} (hv:V l=(2*m+1)*2^e):Evl (fun k=>wide_Low.f k l) (e:Int):=by
 refine ⟨l.length+1,fun k hk => ?_⟩
 obtain ⟨j,rfl⟩:∃ j,k=l.length+1+j:=⟨k - (l.length+1),by omega⟩
 have:=Low_loop hw hl l.length 0 j (by omega) hv
 show wide_Low.l0 (l.length+1+j) l (l.length:Int) 0=_
 rw [show ((0:Nat):Int)=0 from rfl,Nat.mul_zero,Nat.zero_add] at this
 exact this
end Go.Proofs.YthimlebkjnajpaaDoor.P02
namespace Go.Proofs.YthimlebkjnajpaaDoor.P02
open Go Go.RowKit Go.Proofs.YthimlebkjnajpaaDoor.Pr Go.Proofs.YthimlebkjnajpaaDoorW.PrintWords Go.Proofs.YthimlebkjnajpaaDoorW.PrintLast Go.Proofs.YthimlebkjnajpaaDoorW.PrintMore Go.Proofs.YthimlebkjnajpaaDoorW.NA Go.Proofs.YthimlebkjnajpaaDoorW.EV
open Go.Proofs.YthimlebkjnajpaaDoorW.FL (wrap64_id wrap_u64 wraps_u64 u64_join log2_eq two_pow_log2_le lt_two_pow_log2)
set_option linter.unusedVariables false
set_option linter.unusedSimpArgs false
theorem wraps_u32 (n:Int) (h₀:0≤n) (h₁:n<2^32):IntKind.u32.wrap n=n:=by simp [IntKind.wrap,IntKind.bits,IntKind.signed];omega
theorem wrap_u32 (n:Int):IntKind.u32.wrap n=n%4294967296:=by simp [IntKind.wrap,IntKind.bits,IntKind.signed]
theorem u32_join (i:Nat) (x y:Int) (hx₀:0≤x) (hx:x%2^i=0) (hx₁:x<4294967296) (hy₀:0≤y) (hy:y<2^i) (hy₁:y<4294967296):Go.bits .or .u32 x y=x+y :=
 bits_join .u32 32 (by decide) wraps_u32 i x y hx₀ hx hx₁ hy₀ hy hy₁
theorem or_nat (a b:Nat) (ha:a<4294967296) (hb:b<4294967296):Go.bits .or .u32 (a:Int) (b:Int)=((a ||| b:Nat):Int):=(bits_nat .u32 32 (by decide) wraps_u32 a b ha hb).2
theorem and_nat (a b:Nat) (ha:a<4294967296) (hb:b<4294967296):Go.bits .and .u32 (a:Int) (b:Int)=((a &&& b:Nat):Int):=(bits_nat .u32 32 (by decide) wraps_u32 a b ha hb).1
theorem u32_join' (i:Nat) (x y:Nat) (hx:x%2^i=0) (hx₁:x<4294967296) (hy:y<2^i) (hy₁:y<4294967296):Go.bits .or .u32 (y:Int) (x:Int)=((x+y:Nat):Int):=by
 have h:=u32_join i (x:Int) (y:Int) (by omega) (by exact_mod_cast (by rw [hx]:((x%2^i:Nat):Int)=((0:Nat):Int))) (by omega) (by omega) (by exact_mod_cast hy) (by omega)
 rw [or_nat y x hy₁ hx₁,Nat.or_comm,← or_nat x y hx₁ hy₁,h];omega
theorem u64_join32 {x y:Nat} (hx:x<4294967296) (hy:y<4294967296):Go.bits .or .u64 ((4294967296*x:Nat):Int) (y:Int)=((4294967296*x+y:Nat):Int):=by
 rw [u64_join 32 _ _ (by omega) (by omega) (by omega) (by omega) (by omega) (by omega)];omega
theorem w64 {x:Nat} (h:x<18446744073709551616):IntKind.u64.wrap (x:Int)=(x:Int):=by rw [wrap_u64];omega
theorem two_words {l:List Int} (hl:l.length=2):∃ x y,l=[x,y]:=by
 rcases l with _ | ⟨x,_ | ⟨y,_ | ⟨z,l⟩⟩⟩ <;> simp at hl
 exact ⟨x,y,rfl⟩
theorem Small_eq {l:List Int} (hw:WF l) (hl:l.length<4611686018427387904):Evl (fun k=>wide_Small.f k l) (if V l<18446744073709551616 then ((V l:Nat):Int) else 0,if V l<18446744073709551616 then 0 else 2):=by
 refine Evl.bind (cut_eq hw hl) (Evl.pure fun k => ?_)
 have hv:=V_Cn (V l)
 have hwf:=Cn_wf (V l)
 have hlen:=Cn_length (V l) 2
 generalize V l=v at hv hwf hlen ⊢
 generalize Cn v=c at hv hwf hlen ⊢
 subst hv
 have hlen':c.length≤2↔V c<18446744073709551616:=hlen
 by_cases c3:V c<18446744073709551616
 ·rw [if_pos c3,if_pos c3]
  have h2:=hlen'.2 c3
  rw [if_neg (by omega)]
  by_cases c2:c.length=2
  ·obtain ⟨x,y,rfl⟩:=two_words c2
   have rx:=hwf.head
   have ry:=hwf.tail.head
   have e1:rd [x,y] 1=y:=rfl
   have e0:rd [x,y] 0=x:=rfl
   obtain ⟨X,rfl⟩:=Int.eq_ofNat_of_zero_le rx.1
   obtain ⟨Y,rfl⟩:=Int.eq_ofNat_of_zero_le ry.1
   rw [if_pos (by simp),if_pos (by simp),if_pos (by simp),if_pos (by simp),e1,e0,w64 (by omega),w64 (by omega),show (Y:Int)*4294967296=((4294967296*Y:Nat):Int) by omega,w64 (by omega),u64_join32 (by omega) (by omega),V_cons,V_cons,V_nil]
   simp only [Int.toNat_natCast]
   congr 2;omega
  ·rw [if_neg (by omega)]
   rcases c with _ | ⟨x,_ | ⟨y,c⟩⟩
   ·rw [if_neg (by simp),V_nil];rfl
   ·have rx:=hwf.head
    obtain ⟨X,rfl⟩:=Int.eq_ofNat_of_zero_le rx.1
    have e0:rd [(X:Int)] 0=(X:Int):=rfl
    have:=u64_join32 (x:=0) (y:=X) (by decide) (by omega)
    rw [Nat.mul_zero,Nat.zero_add] at this
    rw [if_pos (by simp),if_pos (by simp),e0,w64 (by omega),show (0:Int)=((0:Nat):Int) from rfl,this,V_cons,V_nil]
    simp only [Int.toNat_natCast]
    congr 2 <;> omega
   ·exfalso;simp only [List.length_cons] at h2 c2;omega
 ·rw [if_neg c3,if_neg c3]
  have:¬ c.length≤2:=fun z=>c3 (hlen'.1 z)
  rw [if_pos (by omega)]
theorem both_eq {a b:List Int} (ha:WF a) (hb:WF b) (la:a.length<4611686018427387904) (lb:b.length<4611686018427387904) :
  Evl (fun k=>wide_both.f k a b) (if (Cn (V a)).length≤8192∧(Cn (V b)).length≤8192 then (Cn (V a),Cn (V b),0) else ([],[],2)):=by
 refine Evl.bind (cut_eq ha la) (Evl.bind (cut_eq hb lb) (Evl.pure fun k => ?_))
 unfold mx
 by_cases c:(Cn (V a)).length≤8192∧(Cn (V b)).length≤8192
 ·rw [if_pos c,if_neg (by split <;> omega)]
 ·rw [if_neg c,if_pos (by split <;> omega)]
theorem ats_some {l:List Int} {i:Nat} {x:Int} (hx:l[i]? = some x):ats l i=x.toNat:=by unfold ats;rw [List.getD_eq_getElem?_getD,hx];rfl
theorem ats_none {l:List Int} {i:Nat} (h:l.length≤i):ats l i=0:=by unfold ats;rw [List.getD_eq_getElem?_getD,List.getElem?_eq_none h];rfl
theorem shr_nat (k:IntKind) (hk:32≤k.bits) (X r:Nat) (hr:r≤32):shr k (X:Int) (r:Int)=((X / 2^r:Nat):Int):=by
 unfold shr
 rw [Int.toNat_natCast,show min r k.bits=r from Nat.min_eq_left (by omega),Int.natCast_ediv,Int.natCast_pow];rfl
theorem shl_nat (k:IntKind) (hk:32≤k.bits) (X r:Nat) (hr:r≤32):shl k (X:Int) (r:Int)=k.wrap ((X*2^r:Nat):Int):=by
 unfold shl
 rw [Int.toNat_natCast,show min r k.bits=r from Nat.min_eq_left (by omega),Int.natCast_mul,Int.natCast_pow];rfl
theorem Bit_eq {l:List Int} (hw:WF l) {i:Nat} (hi:i<4611686018427387904):wide_Bit.f l (i:Int)=some ((V l).testBit i):=by
 unfold wide_Bit.f
 rw [if_pos (by omega),tdiv32,tmod32,wrapn (by omega),testBit_word hw]
 by_cases c:i / 32<l.length
 ·obtain ⟨x,hx⟩:=get_some c
  have rx:=hw.get hx
  obtain ⟨X,rfl⟩:=Int.eq_ofNat_of_zero_le rx.1
  rw [if_pos (by omega),if_pos (by omega),if_pos (by omega),rd_eq hx,ats_some hx,Int.toNat_natCast]
  have hr:i%32<32:=by omega
  generalize i%32=r at hr ⊢
  rw [shr_nat .u32 (by decide) X r (by omega),Nat.testBit_eq_decide_div_mod_eq]
  have hle:X / 2^r≤X:=Nat.div_le_self ..
  generalize X / 2^r=y at hle ⊢
  rw [u32_and1 (by omega) (by omega)]
  congr 1
  rw [Bool.eq_iff_iff,beq_iff_eq,decide_eq_true_eq]
  omega
 ·rw [if_neg (by omega),ats_none (by omega),Nat.zero_testBit]
theorem take_set {l:List Int} {i:Nat} (y:Int) (h:i<l.length):(l.set i y).take (i+1)=l.take i++[y]:=by
 rw [List.take_set,List.set_eq_take_append_cons_drop,List.length_take,Nat.min_eq_left (by omega),if_pos (by omega),List.take_take,Nat.min_eq_left (by omega)]
 congr 2
 rw [List.drop_eq_nil_of_le (by rw [List.length_take];omega)]
theorem V_take_succ {l:List Int} {i:Nat} {x:Int} (hx:l[i]? = some x):V (l.take (i+1))=V (l.take i)+4294967296^i*x.toNat:=by
 have hi:i<l.length:=(List.getElem?_eq_some_iff.1 hx).1
 have:l.take (i+1)=l.take i++[x]:=by
  rw [List.take_add_one,hx];rfl
 rw [this,V_snoc,List.length_take,Nat.min_eq_left (by omega)]
theorem V_take_set {l:List Int} {i:Nat} (y:Int) (h:i<l.length):V ((l.set i y).take (i+1))=V (l.take i)+4294967296^i*y.toNat:=by
 rw [take_set y h,V_snoc,List.length_take,Nat.min_eq_left (by omega)]
theorem WF_take_set {l:List Int} {i:Nat} {y:Int} (h:i<l.length) (hw:WF (l.take i)) (h0:0≤y) (h1:y<4294967296):WF ((l.set i y).take (i+1)):=by
 rw [take_set y h];exact hw.append (WF.cons h0 h1 WF.nil)

theorem up_word {X r c:Nat} (hX:X<4294967296) (hr:r≤31) (hc:c<2^r) :
  Go.bits .or .u32 (c:Int) ((shl .u64 (IntKind.u64.wrap (X:Int)) (r:Int))%4294967296)=(((X*2^r+c)%4294967296:Nat):Int)
  ∧ (shl .u64 (IntKind.u64.wrap (X:Int)) (r:Int)) / 4294967296%4294967296=(((X*2^r+c) / 4294967296:Nat):Int)∧(X*2^r+c) / 4294967296<2^r:=by
 have hp:2^r≤2^31:=Nat.pow_le_pow_right (by decide) hr
 have hp0:=Nat.two_pow_pos r
 have h1:X*2^r≤4294967295*2^r:=Nat.mul_le_mul_right _ (by omega)
 rw [w64 (by omega),shl_nat .u64 (by decide) X r (by omega),w64 (by omega)]
 obtain ⟨P,hP⟩:∃ P,4294967296=2^r*P:=⟨2^(32 - r),by rw [← Nat.pow_add,show r+(32 - r)=32 by omega]⟩
 have hmod:X*2^r%4294967296=X%P*2^r:=by rw [hP,Nat.mul_comm X,Nat.mul_mod_mul_left,Nat.mul_comm]
 have hP0:0<P:=by rcases P with _ | P;simp at hP;omega
 have hXP:X%P<P:=Nat.mod_lt _ hP0
 have hlow:X%P*2^r+c<4294967296:=by
  have h2:(X%P+1)*2^r≤P*2^r:=Nat.mul_le_mul_right _ hXP
  rw [Nat.mul_comm P,← hP,Nat.succ_mul] at h2;omega
 have hdm:=Nat.div_add_mod (X*2^r) 4294967296
 rw [hmod] at hdm
 refine ⟨?_,?_,?_⟩
 ·rw [show ((X*2^r:Nat):Int)%4294967296=((X*2^r%4294967296:Nat):Int) by omega,hmod,u32_join' r _ c (Nat.mul_mod_left ..) (by omega) hc (by omega)]
  generalize X%P*2^r=z at hlow hdm ⊢
  generalize X*2^r=t at hdm ⊢
  congr 1;omega
 ·generalize X%P*2^r=z at hlow hdm ⊢
  generalize X*2^r=t at hdm h1 ⊢
  omega
 ·have:(X*2^r+c) / 4294967296=X*2^r / 4294967296:=by
   generalize X%P*2^r=z at hlow hdm ⊢
   generalize X*2^r=t at hdm h1 ⊢
   omega
  rw [this]
  exact Nat.div_lt_of_lt_mul (by omega)
theorem up_loop {l:List Int} (hw:WF l) (hl:l.length<70368744177000) {r:Nat} (hr:r≤31):∀ (m i:Nat) (out:List Int) (c:Nat),l.length - i=m→i≤l.length→out.length=l.length+1→WF (out.take i)→out[i]? = some (c:Int)→c<2^r →
  V (out.take i)+4294967296^i*c=2^r*V (l.take i)→∃ o,(∀ k,wide_up.l0 (m+1+k) (r:Int) out l (l.length:Int) (i:Int)=some o)∧o.length=l.length+1∧WF o∧V o=2^r*V l:=by
 intro m
 induction m with
 | zero =>
  intro i out c hm hi ho hwo hx hc hv
  have hil:i=l.length:=by omega
  subst hil
  refine ⟨out,fun k=>by rw [show 0+1+k=k+1 by omega,wide_up.l0,if_neg (by omega)],ho,?_,?_⟩
  ·have e:out=out.take l.length++[(c:Int)]:=by
    have:=List.take_add_one (l:=out) (i:=l.length)
    rw [hx,List.take_of_length_le (by omega)] at this;exact this
   have hp:2^r≤2^31:=Nat.pow_le_pow_right (by decide) hr
   rw [e];exact hwo.append (WF.cons (by omega) (by omega) WF.nil)
  ·have:=V_take_succ hx
   rw [List.take_of_length_le (by omega),Int.toNat_natCast,hv,List.take_of_length_le (Nat.le_refl _)] at this
   exact this
 | succ m ih =>
  intro i out c hm hi ho hwo hx hc hv
  have hil:i<l.length:=by omega
  obtain ⟨x,hxl⟩:=get_some hil
  have rx:=hw.get hxl
  obtain ⟨X,rfl⟩:=Int.eq_ofNat_of_zero_le rx.1
  obtain ⟨u1,u2,u3⟩:=up_word (X:=X) (r:=r) (c:=c) (by omega) hr hc
  have e1:rd out (i:Int)=(c:Int):=rd_eq hx
  have c1:(i:Int)<(l.length:Int):=by omega
  have c2:(i:Int)<(out.length:Int):=by omega
  have c3:((i+1:Nat):Int)<(out.length:Int):=by omega
  generalize ht:(X*2^r+c)%4294967296=lo at u1
  generalize hq:(X*2^r+c) / 4294967296=q at u2 u3
  have hdm:4294967296*q+lo=X*2^r+c:=by rw [← hq,← ht];exact Nat.div_add_mod ..
  have hlo:lo<4294967296:=by rw [← ht];exact Nat.mod_lt _ (by decide)
  have hc0:(0:Int)≤(lo:Int):=Int.natCast_nonneg _
  have hc1:(lo:Int)<4294967296:=by omega
  have hw1:WF (((out.set i (lo:Int)).set (i+1) (q:Int)).take (i+1)):=by
   rw [List.take_set_of_le (by omega)]
   exact WF_take_set (by omega) hwo hc0 hc1
  have hg:((out.set i (lo:Int)).set (i+1) (q:Int))[i+1]? = some (q:Int):=by rw [List.getElem?_set_self (by simp;omega)]
  have hv1:V (((out.set i (lo:Int)).set (i+1) (q:Int)).take (i+1))+4294967296^(i+1)*q=2^r*V (l.take (i+1)):=by
   rw [List.take_set_of_le (by omega),V_take_set _ (by omega),V_take_succ hxl,Int.toNat_natCast,Int.toNat_natCast,Nat.pow_succ,Nat.mul_add,← hv]
   have:4294967296^i*lo+4294967296^i*4294967296*q=4294967296^i*c+2^r*(4294967296^i*X):=by
    rw [Nat.mul_assoc,← Nat.mul_add,Nat.add_comm lo,hdm]
    grind
   clear hv hdm u1 u2 u3 hq ht
   omega
  obtain ⟨o,h1,h2,h3,h4⟩:=ih (i+1) ((out.set i (lo:Int)).set (i+1) (q:Int)) q (by omega) (by omega) (by simp [ho]) hw1 hg u3 hv1
  refine ⟨o,fun k => ?_,h2,h3,h4⟩
  rw [show m+1+1+k=(m+1+k)+1 by omega,wide_up.l0,if_pos c1,if_pos (Int.natCast_nonneg i),if_pos c1,if_pos (Int.natCast_nonneg r),if_pos c2,wsucc (by omega),if_pos (Int.natCast_nonneg (i+1)),if_pos c3,rd_eq hxl,e1,u1,u2,Int.toNat_natCast,Int.toNat_natCast]
  exact h1 k
theorem up_eq {l:List Int} (hw:WF l) (hl:l.length<70368744177000) {r:Nat} (hr:r≤31):∃ o,Evl (fun k=>wide_up.f k l (r:Int)) o∧o.length=l.length+1∧WF o∧V o=2^r*V l:=by
 have h0:=Nat.two_pow_pos r
 obtain ⟨o,h1,h2,h3,h4⟩:=up_loop hw hl hr l.length 0 (List.replicate (l.length+1) 0) 0 (by omega) (by omega) (by simp) WF.nil (by simp) h0 (by simp [V])
 refine ⟨o,⟨l.length+1,fun k hk => ?_⟩,h2,h3,h4⟩
 obtain ⟨j,rfl⟩:∃ j,k=l.length+1+j:=⟨k - (l.length+1),by omega⟩
 show wide_up.f (l.length+1+j) l (r:Int)=some o
 unfold wide_up.f
 rw [wsucc (by omega),if_pos (by omega),Int.toNat_natCast,if_pos (by omega)]
 exact h1 j

theorem down_word {X Y r:Nat} (hX:X<4294967296) (hY:Y<4294967296) (hr:r≤31) :
  (shr .u64 (Go.bits .or .u64 (IntKind.u64.wrap (X:Int)) (IntKind.u64.wrap ((IntKind.u64.wrap (Y:Int))*4294967296))) (r:Int))%4294967296=(((X+4294967296*Y) / 2^r%4294967296:Nat):Int)
  ∧ (shr .u64 (IntKind.u64.wrap (X:Int)) (r:Int))%4294967296=((X / 2^r%4294967296:Nat):Int):=by
 have e1:Go.bits .or .u64 (X:Int) ((4294967296*Y:Nat):Int)=((X+4294967296*Y:Nat):Int):=by
  have h:=bits_nat .u64 64 (by decide) wraps_u64 X (4294967296*Y) (by omega) (by omega)
  have h':=bits_nat .u64 64 (by decide) wraps_u64 (4294967296*Y) X (by omega) (by omega)
  rw [h.2,Nat.or_comm,← h'.2,u64_join32 hY hX];omega
 rw [w64 (by omega),w64 (by omega),show (Y:Int)*4294967296=((4294967296*Y:Nat):Int) by omega,w64 (by omega),e1,shr_nat .u64 (by decide) _ r (by omega),shr_nat .u64 (by decide) _ r (by omega)]
 constructor
 ·generalize (X+4294967296*Y) / 2^r=z;omega
 ·generalize X / 2^r=z;omega
theorem div_word (r X T:Nat) (hX:X<4294967296):(X+4294967296*T) / 2^r=(X+4294967296*T) / 2^r%4294967296+4294967296*(T / 2^r):=by
 have h:(X+4294967296*T) / 2^r / 4294967296=T / 2^r:=by
  rw [Nat.div_div_eq_div_mul,Nat.mul_comm (2^r),← Nat.div_div_eq_div_mul,show (X+4294967296*T) / 4294967296=T by omega]
 rw [← h]
 generalize (X+4294967296*T) / 2^r=z
 omega
theorem low_word {r:Nat} (hr:r≤31) (X Y U:Nat):(X+4294967296*Y) / 2^r%4294967296=(X+4294967296*(Y+4294967296*U)) / 2^r%4294967296:=by
 obtain ⟨Q,hQ⟩:∃ Q,4294967296=2^r*Q:=⟨2^(32 - r),by rw [← Nat.pow_add,show r+(32 - r)=32 by omega]⟩
 have hp:=Nat.two_pow_pos r
 have e:∀ x t,(x+4294967296*t) / 2^r=x / 2^r+Q*t:=by
  intro x t
  rw [hQ,Nat.mul_assoc,Nat.add_mul_div_left _ _ hp]
 rw [e,e,Nat.mul_add,← Nat.add_assoc,Nat.mul_left_comm,Nat.add_mul_mod_self_left]
theorem down_loop {l:List Int} (hw:WF l) (hl:l.length<70368744177000) {r:Nat} (hr:r≤31):∀ (m i:Nat) (out:List Int),l.length - i=m→i≤l.length→out.length=l.length→WF (out.take i) →
  V (out.take i)+4294967296^i*(V (l.drop i) / 2^r)=V l / 2^r→∃ o,(∀ k,wide_down.l0 (m+1+k) l (r:Int) out l (l.length:Int) (i:Int)=some o)∧o.length=l.length∧WF o∧V o=V l / 2^r:=by
 intro m
 induction m with
 | zero =>
  intro i out hm hi ho hwo hv
  have hil:i=l.length:=by omega
  subst hil
  rw [List.take_of_length_le (by omega)] at hwo hv
  refine ⟨out,fun k=>by rw [show 0+1+k=k+1 by omega,wide_down.l0,if_neg (by omega)],ho,hwo,?_⟩
  rw [V_drop_ge (Nat.le_refl _),Nat.zero_div,Nat.mul_zero,Nat.add_zero] at hv
  exact hv
 | succ m ih =>
  intro i out hm hi ho hwo hv
  have hil:i<l.length:=by omega
  obtain ⟨x,hxl⟩:=get_some hil
  have rx:=hw.get hxl
  obtain ⟨X,rfl⟩:=Int.eq_ofNat_of_zero_le rx.1
  have hX:X<4294967296:=by omega
  have c1:(i:Int)<(l.length:Int):=by omega
  have c2:(i:Int)<(out.length:Int):=by omega
  have hd:=V_drop hxl
  rw [Int.toNat_natCast] at hd
  have key:∃ d:Nat,d=V (l.drop i) / 2^r%4294967296∧∀ k,wide_down.l0 (m+1+1+k) l (r:Int) out l (l.length:Int) (i:Int)=wide_down.l0 (m+1+k) l (r:Int) (out.set i (d:Int)) l (l.length:Int) ((i+1:Nat):Int):=by
   by_cases hn:i+1<l.length
   ·obtain ⟨y,hyl⟩:=get_some hn
    have ry:=hw.get hyl
    obtain ⟨Y,rfl⟩:=Int.eq_ofNat_of_zero_le ry.1
    have hd2:=V_drop hyl
    rw [Int.toNat_natCast] at hd2
    refine ⟨(X+4294967296*Y) / 2^r%4294967296,by rw [hd,hd2];exact low_word hr X Y _,fun k => ?_⟩
    have c3:((i+1:Nat):Int)<(l.length:Int):=by omega
    rw [show m+1+1+k=(m+1+k)+1 by omega,wide_down.l0,if_pos c1,if_pos (Int.natCast_nonneg i),if_pos c1,wsucc (by omega),if_pos c3,if_pos (Int.natCast_nonneg (i+1)),if_pos (Int.natCast_nonneg r),if_pos c2,rd_eq hxl,rd_eq hyl,(down_word hX (by omega) hr).1,Int.toNat_natCast]
   ·refine ⟨X / 2^r%4294967296,by rw [hd,V_drop_ge (by omega)];rfl,fun k => ?_⟩
    have c3:¬ ((i+1:Nat):Int)<(l.length:Int):=by omega
    rw [show m+1+1+k=(m+1+k)+1 by omega,wide_down.l0,if_pos c1,if_pos (Int.natCast_nonneg i),if_pos c1,wsucc (by omega),if_neg c3,if_pos (Int.natCast_nonneg r),if_pos c2,rd_eq hxl,(down_word (Y:=0) hX (by decide) hr).2,Int.toNat_natCast]
  obtain ⟨d,hdd,hstep⟩:=key
  have hd4:d<4294967296:=by rw [hdd];exact Nat.mod_lt _ (by decide)
  have hv1:V ((out.set i (d:Int)).take (i+1))+4294967296^(i+1)*(V (l.drop (i+1)) / 2^r)=V l / 2^r:=by
   rw [V_take_set _ (by omega),Int.toNat_natCast,← hv,Nat.add_assoc]
   congr 1
   have:=div_word r X (V (l.drop (i+1))) hX
   rw [← hd,← hdd] at this
   rw [this,Nat.mul_add,Nat.pow_succ,Nat.mul_assoc]
  obtain ⟨o,h1,h2,h3,h4⟩:=ih (i+1) (out.set i (d:Int)) (by omega) (by omega) (by simp [ho]) (WF_take_set (by omega) hwo (by omega) (by omega)) hv1
  exact ⟨o,fun k=>(hstep k).trans (h1 k),h2,h3,h4⟩
theorem down_eq {l:List Int} (hw:WF l) (hl:l.length<70368744177000) {r:Nat} (hr:r≤31):∃ o,Evl (fun k=>wide_down.f k l (r:Int)) o∧o.length=l.length∧WF o∧V o=V l / 2^r:=by
 obtain ⟨o,h1,h2,h3,h4⟩:=down_loop hw hl hr l.length 0 (List.replicate l.length 0) (by omega) (by omega) (by simp) WF.nil (by simp [V])
 refine ⟨o,⟨l.length+1,fun k hk => ?_⟩,h2,h3,h4⟩
 obtain ⟨j,rfl⟩:∃ j,k=l.length+1+j:=⟨k - (l.length+1),by omega⟩
 show wide_down.f (l.length+1+j) l (r:Int)=some o
 unfold wide_down.f
 rw [if_pos (by omega),Int.toNat_natCast,if_pos (by omega)]
 exact h1 j

theorem Shift_up {l:List Int} (hw:WF l) (hl:(Cn (V l)).length≤8192) (ll:l.length<4611686018427387904) {n:Nat} (hn:n+bl (V l)≤262144):Evl (fun k=>wide_Shift.f k l (n:Int)) (Cn (V l*2^n),0):=by
 refine Evl.bind (cut_eq hw ll) ?_
 have hc:=Cn_wf (V l)
 have hv:=V_Cn (V l)
 have hbl:=bl_lt (V l)
 by_cases hz:V l=0
 ·refine ⟨1,fun k hk => ?_⟩
  obtain ⟨j,rfl⟩:∃ j,k=j+1:=⟨k - 1,by omega⟩
  rw [hz,Cn_zero]
  dsimp only
  rw [if_neg (by simp),if_pos (by simp),wide_Shift.j0,if_pos rfl,Nat.zero_mul,Cn_zero]
 ·have hlen:¬ (Cn (V l)).length=0:=fun z=>hz (Cn_nil.1 (List.length_eq_zero_iff.1 z))
  have hb0:bl (V l)≠0:=fun z=>hz (bl_zero.1 z)
  have e8:262144=32*8192:=rfl
  obtain ⟨o,ho,h2,h3,h4⟩:=up_eq hc (by omega) (r:=n%32) (by omega)
  obtain ⟨k1,f1⟩:=Len_eq hc (by omega)
  rw [hv] at f1 h4
  obtain ⟨k2,f2⟩:=ho
  dsimp only at f1 f2
  refine ⟨max k1 k2+1,fun k hk => ?_⟩
  obtain ⟨j,rfl⟩:∃ j,k=j+1:=⟨k - 1,by omega⟩
  have g1:=f1 (j+1) (by omega)
  have g1':=f1 j (by omega)
  have g2:=f2 j (by omega)
  have hbb:bl (V l)≤262144:=by omega
  generalize hB:bl (V l)=B at *
  generalize hC:Cn (V l)=C at *
  have d1:decide ((n:Int) ≤ -(B:Int))=false:=decide_eq_false (by clear hbl h4 hv;omega)
  have cs:(¬ (C.length:Int)>8192)∧(¬ (C.length:Int)=0)∧(¬ (n:Int)<0)∧(¬ (n:Int)>262144 - (B:Int))∧(0:Int)≤((n / 32:Nat):Int)∧((n / 32:Nat):Int)≤((n / 32+C.length+1:Nat):Int)∧n / 32+C.length+1≤70368744177664∧(List.replicate (n / 32) (0:Int)).length+o.length<35184372088832:=by
   rw [List.length_replicate,h2];clear hbl h4 hv;refine ⟨?_,?_,?_,?_,?_,?_,?_,?_⟩ <;> omega
  have hsm:n / 32+C.length<1000000:=by clear hbl h4 hv;omega
  have hsn:n / 32<1000000:=by clear hbl h4 hv;omega
  have hBn:B<1000000:=by clear hbl h4 hv;omega
  have w1:wrap64 (-(B:Int)) = -(B:Int):=by clear d1 cs hbl h4 hv;exact wrap64_id (by omega) (by omega)
  have w2:wrap64 (262144 - (B:Int))=262144 - (B:Int):=by clear d1 cs hbl h4 hv w1;exact wrap64_id (by omega) (by omega)
  have w3:wrap64 (((n / 32:Nat):Int)+(C.length:Int))=((n / 32+C.length:Nat):Int):=wadd (Nat.lt_trans hsm (by decide))
  have w4:wrap64 (((n / 32+C.length:Nat):Int)+1)=((n / 32+C.length+1:Nat):Int):=wsucc (Nat.lt_trans hsm (by decide))
  have wn:wrap64 ((n / 32:Nat):Int)=((n / 32:Nat):Int):=wrapn (Nat.lt_trans hsn (by decide))
  have hf:WF (List.replicate (n / 32) 0++o):=(WF.replicate _).append h3
  have hfv:V (List.replicate (n / 32) 0++o)=V l*2^n:=by
   rw [V_append,V_replicate,List.length_replicate,h4,pow32,Nat.zero_add,← Nat.mul_assoc,← Nat.pow_add,show 32*(n / 32)+n%32=n by omega,Nat.mul_comm]
  have hfit:¬ 8192<(Cn (V l*2^n)).length:=by
   have h8:∀ c8:Nat,c8=8192→(Cn (V l*2^n)).length≤c8:=by
    intro c8 hc8
    apply Cn_length_lt
    rw [pow32]
    have:V l*2^n<2^B*2^n:=Nat.mul_lt_mul_of_pos_right hbl (Nat.two_pow_pos n)
    rw [← Nat.pow_add] at this
    exact Nat.lt_of_lt_of_le this (Nat.pow_le_pow_right (by decide) (by clear this hbl;omega))
   have h:=h8 8192 rfl
   exact Nat.not_lt.2 h
  obtain ⟨s1,s2,s3,s4,s5,s6,s7,s8⟩:=cs
  dsimp only
  rw [if_neg s1,if_neg s2,g1,Option.bind_some,w1,d1,wide_Shift.j0,if_neg (by decide),if_neg s3,g1',Option.bind_some,w2,if_neg s4,tdiv32,tmod32,wn,if_pos s5,w3,w4,if_pos s6,Int.toNat_natCast,if_pos s7,Int.toNat_natCast,Option.bind_some,g2,Option.bind_some,if_pos s8,Option.bind_some,fit1_eq hf,fit2_eq hf,hfv,if_neg hfit,if_neg hfit]
theorem Shift_down {l:List Int} (hw:WF l) (hl:(Cn (V l)).length≤8192) (ll:l.length<4611686018427387904) {n:Nat} (h0:0<n) (hn:n<4611686018427387904):Evl (fun k=>wide_Shift.f k l (-(n:Int))) (Cn (V l / 2^n),0):=by
 refine Evl.bind (cut_eq hw ll) ?_
 have hc:=Cn_wf (V l)
 have hv:=V_Cn (V l)
 have hbl:=bl_lt (V l)
 by_cases hz:V l=0
 ·refine ⟨1,fun k hk => ?_⟩
  obtain ⟨j,rfl⟩:∃ j,k=j+1:=⟨k - 1,by omega⟩
  rw [hz,Cn_zero]
  dsimp only
  rw [if_neg (by simp),if_pos (by simp),wide_Shift.j0,if_pos rfl,Nat.zero_div,Cn_zero]
 ·have hlen:¬ (Cn (V l)).length=0:=fun z=>hz (Cn_nil.1 (List.length_eq_zero_iff.1 z))
  have hb32:bl (V l)≤32*(Cn (V l)).length:=by
   apply bl_bound
   rw [← pow32]
   exact Cn_length_le (Nat.le_refl _)
  obtain ⟨k1,f1⟩:=Len_eq hc (by omega)
  rw [hv] at f1
  dsimp only at f1
  by_cases hbig:bl (V l)≤n
  ·have e0:V l / 2^n=0:=Nat.div_eq_of_lt (Nat.lt_of_lt_of_le hbl (Nat.pow_le_pow_right (by decide) hbig))
   refine ⟨k1+1,fun k hk => ?_⟩
   obtain ⟨j,rfl⟩:∃ j,k=j+1:=⟨k - 1,by omega⟩
   have g1:=f1 (j+1) (by omega)
   generalize hB:bl (V l)=B at *
   generalize hC:Cn (V l)=C at *
   have d1:decide (-(n:Int) ≤ -(B:Int))=true:=decide_eq_true (by clear hbl e0;omega)
   have s1:¬ (C.length:Int)>8192:=by clear hbl e0;omega
   have s2:¬ (C.length:Int)=0:=by clear hbl e0;omega
   have w1:wrap64 (-(B:Int)) = -(B:Int):=by clear d1 hbl e0;exact wrap64_id (by omega) (by omega)
   dsimp only
   rw [if_neg s1,if_neg s2,g1,Option.bind_some,w1,d1,wide_Shift.j0,if_pos rfl,e0,Cn_zero]
  ·have hd:=hc.drop (n / 32)
   have hdl:((Cn (V l)).drop (n / 32)).length<70368744177000:=by rw [List.length_drop];omega
   have hle:n / 32≤(Cn (V l)).length:=by omega
   obtain ⟨o,⟨k2,f2⟩,h2,h3,h4⟩:=down_eq hd hdl (r:=n%32) (by omega)
   obtain ⟨k3,f3⟩:=Norm_eq h3 (by omega)
   have ev:V o=V l / 2^n:=by
    rw [h4,← V_div hc hle,hv,pow32,Nat.div_div_eq_div_mul,← Nat.pow_add,show 32*(n / 32)+n%32=n by omega]
   rw [ev] at f3
   dsimp only at f2 f3
   refine ⟨max k1 (max k2 k3)+1,fun k hk => ?_⟩
   obtain ⟨j,rfl⟩:∃ j,k=j+1:=⟨k - 1,by omega⟩
   have g1:=f1 (j+1) (by omega)
   have g2:=f2 j (by omega)
   have g3:=f3 j (by omega)
   generalize hB:bl (V l)=B at *
   generalize hC:Cn (V l)=C at *
   have d1:decide (-(n:Int) ≤ -(B:Int))=false:=decide_eq_false (by clear hbl ev h4;omega)
   have s1:¬ (C.length:Int)>8192:=by clear hbl ev h4;omega
   have s2:¬ (C.length:Int)=0:=by clear hbl ev h4;omega
   have s3:(-(n:Int))<0:=by clear hbl ev h4;omega
   have s4:((n / 32:Nat):Int)≤(C.length:Int):=by clear hbl ev h4;omega
   have s5:n / 32<4611686018427387904:=by clear hbl ev h4;omega
   have w1:wrap64 (-(B:Int)) = -(B:Int):=by clear d1 hbl ev h4;exact wrap64_id (by omega) (by omega)
   dsimp only
   rw [if_neg s1,if_neg s2,g1,Option.bind_some,w1,d1,wide_Shift.j0,if_neg (by decide),if_pos s3,wneg hn,tdiv32,tmod32,wrapn s5,if_pos (Int.natCast_nonneg _),if_pos s4,Int.toNat_natCast,g2,Option.bind_some,g3,Option.bind_some]
theorem Cmp_loop {a b:List Int} (ha:WF a) (hb:WF b) (la:a.length<4611686018427387904):∀ (i k:Nat),i≤a.length→i≤b.length→V (a.drop i)=V (b.drop i) →
  wide_Cmp.l0 (i+1+k) a b ((i:Int) - 1)=some (cz (V a) (V b)):=by
 intro i
 induction i with
 | zero =>
  intro k _ _ h
  rw [show 0+1+k=k+1 by omega,wide_Cmp.l0,if_neg (by omega)]
  have:V a=V b:=h
  unfold cz;rw [if_neg (by omega),if_neg (by omega)]
 | succ i ih =>
  intro k h1 h2 h
  obtain ⟨x,hx⟩:=get_some (l:=a) (i:=i) (by omega)
  obtain ⟨y,hy⟩:=get_some (l:=b) (i:=i) (by omega)
  have rx:=ha.get hx
  have ry:=hb.get hy
  have dx:=V_drop hx
  have dy:=V_drop hy
  have ei:((i+1:Nat):Int) - 1=(i:Int):=by omega
  rw [show i+1+1+k=(i+1+k)+1 by omega,wide_Cmp.l0,ei,if_pos (by omega),if_pos (by omega),if_pos (by omega),if_pos (by omega),rd_eq hx,rd_eq hy]
  by_cases c1:x<y
  ·have:=drop_lt (b:=b) ha (i:=i) (by omega) (by omega) (by omega)
   rw [if_pos c1];unfold cz;rw [if_pos this]
  ·rw [if_neg c1]
   by_cases c2:x>y
   ·have:=drop_lt (b:=a) hb (i:=i) (by omega) (by omega) (by omega)
    rw [if_pos c2];unfold cz;rw [if_neg (by omega),if_pos this]
   ·rw [if_neg c2,wrap64_id (by omega) (by omega)]
    exact ih k (by omega) (by omega) (by omega)
theorem Cmp_eq {a b:List Int} (ha:WF a) (hb:WF b) (la:a.length<4611686018427387904) (lb:b.length<4611686018427387904):Evl (fun k=>wide_Cmp.f k a b) (cz (V a) (V b)):=by
 refine Evl.bind (cut_eq ha la) (Evl.bind (cut_eq hb lb) ?_)
 have hle:=Cn_le ha
 by_cases c1:(Cn (V a)).length<(Cn (V b)).length
 ·refine Evl.pure fun k => ?_
  have:=len_lt c1
  rw [if_pos (by omega)];unfold cz;rw [if_pos this]
 ·by_cases c2:(Cn (V b)).length<(Cn (V a)).length
  ·refine Evl.pure fun k => ?_
   have:=len_lt c2
   rw [if_neg (by omega),if_pos (by omega)];unfold cz;rw [if_neg (by omega),if_pos this]
  ·refine ⟨(Cn (V a)).length+1,fun k hk => ?_⟩
   obtain ⟨j,rfl⟩:∃ j,k=(Cn (V a)).length+1+j:=⟨k - ((Cn (V a)).length+1),by omega⟩
   have:=Cmp_loop (Cn_wf (V a)) (Cn_wf (V b)) (by omega) (Cn (V a)).length j (Nat.le_refl _) (by omega) (by rw [V_drop_ge (Nat.le_refl _),V_drop_ge (by omega)])
   rw [V_Cn,V_Cn] at this
   dsimp only
   rw [if_neg (by omega),if_neg (by omega),wpred (by omega)]
   exact this

theorem xor_nat (a b:Nat) (ha:a<4294967296) (hb:b<4294967296):Go.bits .xor .u32 (a:Int) (b:Int)=((a ^^^ b:Nat):Int):=by
 have e:Go.bits .xor .u32 (a:Int) (b:Int)=IntKind.u32.wrap ((BitVec.ofInt 32 (a:Int) ^^^ BitVec.ofInt 32 (b:Int)).toNat:Int):=rfl
 have h1:(BitVec.ofInt 32 (a:Int)).toNat=a:=by rw [BitVec.ofInt_natCast,BitVec.toNat_ofNat];exact Nat.mod_eq_of_lt (by omega)
 have h2:(BitVec.ofInt 32 (b:Int)).toNat=b:=by rw [BitVec.ofInt_natCast,BitVec.toNat_ofNat];exact Nat.mod_eq_of_lt (by omega)
 have hx:a ^^^ b<2^32:=Nat.xor_lt_two_pow (by omega) (by omega)
 rw [e,BitVec.toNat_xor,h1,h2,wrap_u32];omega
theorem top_xor (a b:Nat):(a ^^^ b) / 2147483648=(a / 2147483648) ^^^ (b / 2147483648):=by
 have:=Nat.shiftRight_xor_distrib (a:=a) (b:=b) (i:=31)
 simpa [Nat.shiftRight_eq_div_pow] using this
theorem top_or (a b:Nat):(a ||| b) / 2147483648=(a / 2147483648) ||| (b / 2147483648):=by
 have:=Nat.shiftRight_or_distrib (a:=a) (b:=b) (i:=31)
 simpa [Nat.shiftRight_eq_div_pow] using this
theorem top_and (a b:Nat):(a &&& b) / 2147483648=(a / 2147483648) &&& (b / 2147483648):=by
 have:=Nat.shiftRight_and_distrib (a:=a) (b:=b) (i:=31)
 simpa [Nat.shiftRight_eq_div_pow] using this
theorem Sub32_eq {X Y c:Nat} (hX:X<4294967296) (hY:Y<4294967296) (hc:c≤1) :
  bits_Sub32.f (X:Int) (Y:Int) (c:Int)=some ((((X+4294967296 - Y - c)%4294967296:Nat):Int),((1 - (X+4294967296 - Y - c) / 4294967296:Nat):Int)):=by
 unfold bits_Sub32.f
 have e:(((X:Int) - (Y:Int))%4294967296 - (c:Int))%4294967296=(((X+4294967296 - Y - c)%4294967296:Nat):Int):=by omega
 rw [e]
 generalize hD:(X+4294967296 - Y - c)%4294967296=D
 have hD4:D<4294967296:=by omega
 have h1:(4294967295:Nat) ^^^ X<4294967296:=Nat.xor_lt_two_pow (n:=32) (by decide) (by omega)
 have h2:X ^^^ Y<4294967296:=Nat.xor_lt_two_pow (n:=32) (by omega) (by omega)
 have h3:(4294967295:Nat) ^^^ (X ^^^ Y)<4294967296:=Nat.xor_lt_two_pow (n:=32) (by decide) (by omega)
 have h4:((4294967295:Nat) ^^^ X) &&& Y<4294967296:=Nat.and_lt_two_pow (n:=32) _ (by omega)
 have h5:((4294967295:Nat) ^^^ (X ^^^ Y)) &&& D<4294967296:=Nat.and_lt_two_pow (n:=32) _ (by omega)
 have x1:Go.bits .xor .u32 4294967295 (X:Int)=((4294967295 ^^^ X:Nat):Int):=xor_nat 4294967295 X (by decide) hX
 have x2:Go.bits .xor .u32 4294967295 ((X ^^^ Y:Nat):Int)=((4294967295 ^^^ (X ^^^ Y):Nat):Int):=xor_nat 4294967295 _ (by decide) h2
 rw [x1,and_nat _ _ h1 hY,xor_nat X Y hX hY,x2,and_nat _ _ h3 hD4,or_nat _ _ h4 h5]
 have key:((((4294967295:Nat) ^^^ X) &&& Y) ||| (((4294967295:Nat) ^^^ (X ^^^ Y)) &&& D)) / 2147483648=1 - (X+4294967296 - Y - c) / 4294967296:=by
  rw [top_or,top_and,top_and,top_xor,top_xor,top_xor]
  have tX:X / 2147483648=0∨X / 2147483648=1:=by omega
  have tY:Y / 2147483648=0∨Y / 2147483648=1:=by omega
  have tD:D / 2147483648=0∨D / 2147483648=1:=by omega
  have t1:(4294967295:Nat) / 2147483648=1:=by decide
  rw [t1]
  clear x1 x2 h1 h2 h3 h4 h5 e
  rcases tX with a | a <;> rcases tY with b | b <;> rcases tD with f | f <;> rw [a,b,f] <;> simp <;> omega
 rw [← key]
 congr 2
theorem less_loop {a b:List Int} (ha:WF a) (hb:WF b) (la:a.length<70368744177000):∀ (m i:Nat) (out:List Int) (c:Nat),a.length - i=m→i≤a.length→out.length=a.length→WF (out.take i)→c≤1→c+V (b.drop i)≤V (a.drop i) →
  V (out.take i)+4294967296^i*(V (a.drop i) - V (b.drop i) - c)=V a - V b→∃ o,(∀ k,wide_less.l0 (m+1+k) a b out (c:Int) (a.length:Int) (i:Int)=some o)∧o.length=a.length∧WF o∧V o=V a - V b:=by
 intro m
 induction m with
 | zero =>
  intro i out c hm hi ho hwo hc hle hv
  have hil:i=a.length:=by omega
  subst hil
  rw [List.take_of_length_le (by omega)] at hwo hv
  refine ⟨out,fun k=>by rw [show 0+1+k=k+1 by omega,wide_less.l0,if_neg (by omega)],ho,hwo,?_⟩
  rw [V_drop_ge (l:=a) (Nat.le_refl _),Nat.zero_sub,Nat.zero_sub,Nat.mul_zero,Nat.add_zero] at hv
  exact hv
 | succ m ih =>
  intro i out c hm hi ho hwo hc hle hv
  have hil:i<a.length:=by omega
  obtain ⟨x,hxl⟩:=get_some hil
  have rx:=ha.get hxl
  obtain ⟨X,rfl⟩:=Int.eq_ofNat_of_zero_le rx.1
  have hX:X<4294967296:=by omega
  have c1:(i:Int)<(a.length:Int):=by omega
  have c2:(i:Int)<(out.length:Int):=by omega
  have hd:=V_drop hxl
  rw [Int.toNat_natCast] at hd
  have key:∃ Y:Nat,Y<4294967296∧V (b.drop i)=Y+4294967296*V (b.drop (i+1))∧∀ k,wide_less.l0 (m+1+1+k) a b out (c:Int) (a.length:Int) (i:Int)=wide_less.l0 (m+1+k) a b (out.set i (((X+4294967296 - Y - c)%4294967296:Nat):Int)) ((1 - (X+4294967296 - Y - c) / 4294967296:Nat):Int) (a.length:Int) ((i+1:Nat):Int):=by
   by_cases hn:i<b.length
   ·obtain ⟨y,hyl⟩:=get_some hn
    have ry:=hb.get hyl
    obtain ⟨Y,rfl⟩:=Int.eq_ofNat_of_zero_le ry.1
    have hd2:=V_drop hyl
    rw [Int.toNat_natCast] at hd2
    refine ⟨Y,by omega,hd2,fun k => ?_⟩
    have c3:(i:Int)<(b.length:Int):=by omega
    rw [show m+1+1+k=(m+1+k)+1 by omega,wide_less.l0,if_pos c1,if_pos c3,if_pos (Int.natCast_nonneg i),if_pos c1,rd_eq hxl,rd_eq hyl,Sub32_eq hX (by omega) hc,Option.bind_some,if_pos c2,wsucc (by omega),Int.toNat_natCast]
   ·refine ⟨0,by decide,by rw [V_drop_ge (by omega),V_drop_ge (by omega)],fun k => ?_⟩
    have c3:¬ (i:Int)<(b.length:Int):=by omega
    have hs:=Sub32_eq (Y:=0) hX (by decide) hc
    rw [show ((0:Nat):Int)=0 from rfl] at hs
    rw [show m+1+1+k=(m+1+k)+1 by omega,wide_less.l0,if_pos c1,if_neg c3,if_pos (Int.natCast_nonneg i),if_pos c1,rd_eq hxl,hs,Option.bind_some,if_pos c2,wsucc (by omega),Int.toNat_natCast]
  obtain ⟨Y,hY,hd2,hstep⟩:=key
  generalize ht:X+4294967296 - Y - c=t at hstep
  have hle':(1 - t / 4294967296)+V (b.drop (i+1))≤V (a.drop (i+1)):=by
   rw [hd,hd2] at hle;clear hv hstep;omega
  have ek:t%4294967296+4294967296*(V (a.drop (i+1)) - V (b.drop (i+1)) - (1 - t / 4294967296))=X+4294967296*V (a.drop (i+1)) - (Y+4294967296*V (b.drop (i+1))) - c:=by
   rw [hd,hd2] at hle;clear hv hstep;omega
  have hv1:V ((out.set i ((t%4294967296:Nat):Int)).take (i+1))+4294967296^(i+1)*(V (a.drop (i+1)) - V (b.drop (i+1)) - (1 - t / 4294967296))=V a - V b:=by
   rw [V_take_set _ (by omega),Int.toNat_natCast,← hv,Nat.add_assoc,hd,hd2,← ek,Nat.mul_add (4294967296^i),Nat.pow_succ,Nat.mul_assoc]
  obtain ⟨o,h1,h2,h3,h4⟩:=ih (i+1) (out.set i ((t%4294967296:Nat):Int)) (1 - t / 4294967296) (by omega) (by omega) (by simp [ho]) (WF_take_set (by omega) hwo (by omega) (by omega)) (by omega) hle' hv1
  exact ⟨o,fun k=>(hstep k).trans (h1 k),h2,h3,h4⟩
theorem less_eq {a b:List Int} (ha:WF a) (hb:WF b) (la:a.length<70368744177000) (h:V b≤V a):∃ o,Evl (fun k=>wide_less.f k a b) o∧o.length=a.length∧WF o∧V o=V a - V b:=by
 obtain ⟨o,h1,h2,h3,h4⟩:=less_loop ha hb la a.length 0 (List.replicate a.length 0) 0 (by omega) (by omega) (by simp) WF.nil (by omega) (by simpa using h) (by simp [V])
 refine ⟨o,⟨a.length+1,fun k hk => ?_⟩,h2,h3,h4⟩
 obtain ⟨j,rfl⟩:∃ j,k=a.length+1+j:=⟨k - (a.length+1),by omega⟩
 show wide_less.f (a.length+1+j) a b=some o
 unfold wide_less.f
 rw [if_pos (by omega),Int.toNat_natCast,if_pos (by omega)]
 exact h1 j
theorem cz_neg {x y:Nat}:cz x y<0↔x<y:=by
 unfold cz;by_cases h:x<y
 ·rw [if_pos h];omega
 ·rw [if_neg h];split <;> omega
theorem Sub_eq {a b:List Int} (ha:WF a) (hb:WF b) (la:a.length<70368744177000) (lb:b.length<70368744177000) (h:V b≤V a) (ca:(Cn (V a)).length≤8192):Evl (fun k=>wide_Sub.f k a b) (Cn (V a - V b),0):=by
 have hB0:∀ c8:Nat,(Cn (V a)).length≤c8→(Cn (V b)).length≤c8:=fun c8 hc=>Cn_length_lt (Nat.lt_of_le_of_lt h (Cn_length_le hc))
 have hB:(Cn (V b)).length≤8192:=hB0 8192 ca
 refine Evl.bind (both_eq ha hb (by omega) (by omega)) ?_
 rw [if_pos ⟨ca,hB⟩]
 have hc:=Cmp_eq (Cn_wf (V a)) (Cn_wf (V b)) (by omega) (by omega)
 rw [V_Cn,V_Cn] at hc
 obtain ⟨o,ho,h2,h3,h4⟩:=less_eq (Cn_wf (V a)) (Cn_wf (V b)) (by omega) (by rw [V_Cn,V_Cn];exact h)
 rw [V_Cn,V_Cn] at h4
 have hfit:¬ 8192<(Cn (V a - V b)).length:=by
  have hg:∀ c8:Nat,(Cn (V a)).length≤c8→(Cn (V a - V b)).length≤c8:=fun c8 h=>Cn_length_lt (Nat.lt_of_le_of_lt (Nat.sub_le _ _) (Cn_length_le h))
  exact Nat.not_lt.2 (hg 8192 ca)
 obtain ⟨k1,f1⟩:=hc
 obtain ⟨k2,f2⟩:=ho
 dsimp only at f1 f2
 refine ⟨max k1 k2,fun k hk => ?_⟩
 dsimp only
 rw [if_pos rfl,f1 k (by omega),Option.bind_some,if_neg (fun z=>Nat.not_lt.2 h (cz_neg.1 z)),f2 k (by omega),Option.bind_some,fit1_eq h3,fit2_eq h3,h4,if_neg hfit,if_neg hfit]

theorem Add32_eq {X Y c:Nat} (hX:X<4294967296) (hY:Y<4294967296) (hc:c≤1) :
  bits_Add32.f (X:Int) (Y:Int) (c:Int)=some ((((X+Y+c)%4294967296:Nat):Int),(((X+Y+c) / 4294967296:Nat):Int)):=by
 unfold bits_Add32.f
 rw [w64 (by omega),w64 (by omega),w64 (by omega),show (X:Int)+(Y:Int)=((X+Y:Nat):Int) by omega,w64 (by omega),show ((X+Y:Nat):Int)+(c:Int)=((X+Y+c:Nat):Int) by omega,w64 (by omega)]
 congr 2
 omega
theorem V_ext:∀ {a b:List Int},WF a→WF b→a.length=b.length→V a=V b→a=b
 | [],[],_,_,_,_=>rfl
 | [],_::_,_,_,h,_=>by simp at h
 | _::_,[],_,_,h,_=>by simp at h
 | x::xs,y::ys,ha,hb,hl,hv=>by
  have rx:=ha.head
  have ry:=hb.head
  rw [V_cons,V_cons] at hv
  have e1:V xs=V ys:=by omega
  have e2:x=y:=by omega
  rw [e2,V_ext ha.tail hb.tail (by simpa using hl) e1]
theorem dyad_sum_loop {a b:List Int} (ha:WF a) (hb:WF b) (la:a.length<70368744177000) (hba:b.length≤a.length) (T:Nat) (R:List Int)
  (hfin:∀ o,o.length=a.length+1→WF o→V o=T→Evl (fun k=>(fun _=>some o) k) R):∀ (m i:Nat) (out:List Int) (c:Nat),a.length - i=m→i≤a.length→out.length=a.length+1→WF (out.take i)→c≤1 →
  V (out.take i)+4294967296^i*(c+V (a.drop i)+V (b.drop i))=T→Evl (fun k=>dyad_sum.l0 k a b out (c:Int) (a.length:Int) (i:Int)) R:=by
 intro m
 induction m with
 | zero =>
  intro i out c hm hi ho hwo hc hv
  have hil:i=a.length:=by omega
  subst hil
  rw [V_drop_ge (l:=a) (Nat.le_refl _),V_drop_ge (l:=b) hba] at hv
  simp only [Nat.add_zero] at hv
  have hs:(out.set a.length (c:Int)).take (a.length+1)=out.set a.length (c:Int):=List.take_of_length_le (by simp [ho])
  have hw1:=WF_take_set (y:=(c:Int)) (by omega:a.length<out.length) hwo (by omega) (by omega)
  have hv1:=V_take_set (l:=out) (c:Int) (by omega:a.length<out.length)
  rw [hs] at hw1 hv1
  rw [Int.toNat_natCast,hv] at hv1
  obtain ⟨k0,f⟩:=hfin (out.set a.length (c:Int)) (by simp [ho]) hw1 hv1
  refine ⟨k0+1,fun k hk => ?_⟩
  obtain ⟨j,rfl⟩:∃ j,k=j+1:=⟨k - 1,by omega⟩
  have hf:=f j (by omega)
  dsimp only at hf ⊢
  have c2:(a.length:Int)<(out.length:Int):=by omega
  rw [dyad_sum.l0,if_neg (by omega),if_pos (Int.natCast_nonneg _),if_pos c2,Int.toNat_natCast]
  exact hf
 | succ m ih =>
  intro i out c hm hi ho hwo hc hv
  have hil:i<a.length:=by omega
  obtain ⟨x,hxl⟩:=get_some hil
  have rx:=ha.get hxl
  obtain ⟨X,rfl⟩:=Int.eq_ofNat_of_zero_le rx.1
  have hX:X<4294967296:=by omega
  have c1:(i:Int)<(a.length:Int):=by omega
  have c2:(i:Int)<(out.length:Int):=by omega
  have hd:=V_drop hxl
  rw [Int.toNat_natCast] at hd
  have key:∃ Y:Nat,Y<4294967296∧V (b.drop i)=Y+4294967296*V (b.drop (i+1))∧∀ k,dyad_sum.l0 (k+1) a b out (c:Int) (a.length:Int) (i:Int)=dyad_sum.l0 k a b (out.set i (((X+Y+c)%4294967296:Nat):Int)) (((X+Y+c) / 4294967296:Nat):Int) (a.length:Int) ((i+1:Nat):Int):=by
   by_cases hn:i<b.length
   ·obtain ⟨y,hyl⟩:=get_some hn
    have ry:=hb.get hyl
    obtain ⟨Y,rfl⟩:=Int.eq_ofNat_of_zero_le ry.1
    have hd2:=V_drop hyl
    rw [Int.toNat_natCast] at hd2
    refine ⟨Y,by omega,hd2,fun k => ?_⟩
    have c3:(i:Int)<(b.length:Int):=by omega
    rw [dyad_sum.l0,if_pos c1,if_pos c3,if_pos (Int.natCast_nonneg i),if_pos c1,rd_eq hxl,rd_eq hyl,Add32_eq hX (by omega) hc,Option.bind_some,if_pos c2,wsucc (by omega),Int.toNat_natCast]
   ·refine ⟨0,by decide,by rw [V_drop_ge (by omega),V_drop_ge (by omega)],fun k => ?_⟩
    have c3:¬ (i:Int)<(b.length:Int):=by omega
    have hs:=Add32_eq (Y:=0) hX (by decide) hc
    rw [show ((0:Nat):Int)=0 from rfl] at hs
    rw [dyad_sum.l0,if_pos c1,if_neg c3,if_pos (Int.natCast_nonneg i),if_pos c1,rd_eq hxl,hs,Option.bind_some,if_pos c2,wsucc (by omega),Int.toNat_natCast]
  obtain ⟨Y,hY,hd2,hstep⟩:=key
  generalize ht:X+Y+c=t at hstep
  have hv1:V ((out.set i ((t%4294967296:Nat):Int)).take (i+1))+4294967296^(i+1)*(t / 4294967296+V (a.drop (i+1))+V (b.drop (i+1)))=T:=by
   have ek:t%4294967296+4294967296*(t / 4294967296+V (a.drop (i+1))+V (b.drop (i+1)))=c+(X+4294967296*V (a.drop (i+1)))+(Y+4294967296*V (b.drop (i+1))):=by
    clear hv hstep;omega
   rw [V_take_set _ (by omega),Int.toNat_natCast,← hv,Nat.add_assoc,hd,hd2,← ek,Nat.mul_add (4294967296^i),Nat.pow_succ,Nat.mul_assoc]
  obtain ⟨k0,f⟩:=ih (i+1) (out.set i ((t%4294967296:Nat):Int)) (t / 4294967296) (by omega) (by omega) (by simp [ho]) (WF_take_set (by omega) hwo (by omega) (by omega)) (by omega) hv1
  refine ⟨k0+1,fun k hk => ?_⟩
  obtain ⟨j,rfl⟩:∃ j,k=j+1:=⟨k - 1,by omega⟩
  exact (hstep j).trans (f j (by omega))
theorem dsum_j {a b:List Int} (ha:WF a) (hb:WF b) (la:a.length<70368744177000) (hba:b.length≤a.length):∃ o,Evl (fun k=>dyad_sum.j0 k a b) o∧o.length=a.length+1∧WF o∧V o=V a+V b:=by
 have hrep:V ((List.replicate (a.length+1) (0:Int)).take 0)+4294967296^0*(0+V (a.drop 0)+V (b.drop 0))=V a+V b:=by simp [V]
 -- what it computes does not hang on the fuel: the last state is found by running it once
 have run:∀ R,(∀ o,o.length=a.length+1→WF o→V o=V a+V b→o=R)→Evl (fun k=>dyad_sum.l0 k a b (List.replicate (a.length+1) 0) ((0:Nat):Int) (a.length:Int) ((0:Nat):Int)) R:=fun R hR =>
  dyad_sum_loop ha hb la hba (V a+V b) R (fun o h1 h2 h3=>by rw [hR o h1 h2 h3];exact Evl.some R) a.length 0 (List.replicate (a.length+1) 0) 0 (by omega) (by omega) (by simp) WF.nil (by omega) hrep
 have uniq:∀ o o':List Int,o.length=a.length+1→WF o→V o=V a+V b→o'.length=a.length+1→WF o'→V o'=V a+V b→o=o':=fun o o' h1 h2 h3 h1' h2' h3'=>V_ext h2 h2' (h1.trans h1'.symm) (h3.trans h3'.symm)
 have hex:∃ o:List Int,o.length=a.length+1∧WF o∧V o=V a+V b:=by
  have hlt:V a+V b<4294967296^(a.length+1):=by
   have h1:=V_lt ha
   have h2:=V_lt hb
   have h3:4294967296^b.length≤4294967296^a.length:=Nat.pow_le_pow_right (by decide) hba
   rw [Nat.pow_succ];omega
  have hl:=Cn_length_lt hlt
  refine ⟨Cn (V a+V b)++List.replicate (a.length+1 - (Cn (V a+V b)).length) 0,by simp;omega,(Cn_wf _).append (WF.replicate _),by rw [V_append,V_replicate,V_Cn,Nat.mul_zero,Nat.add_zero]⟩
 obtain ⟨o,h1,h2,h3⟩:=hex
 obtain ⟨k0,f⟩:=run o (fun o' a1 a2 a3=>uniq o' o a1 a2 a3 h1 h2 h3)
 refine ⟨o,⟨k0+1,fun k hk => ?_⟩,h1,h2,h3⟩
 obtain ⟨j,rfl⟩:∃ j,k=j+1:=⟨k - 1,by omega⟩
 dsimp only
 rw [dyad_sum.j0,wsucc (by omega),if_pos (Int.natCast_nonneg _),Int.toNat_natCast,if_pos (by omega)]
 exact f j (by omega)
theorem dsum_eq {a b:List Int} (ha:WF a) (hb:WF b) (la:a.length<70368744177000) (lb:b.length<70368744177000):∃ o,Evl (fun k=>dyad_sum.f k a b) o∧o.length=max a.length b.length+1∧WF o∧V o=V a+V b:=by
 by_cases c:a.length<b.length
 ·obtain ⟨o,⟨k0,f⟩,h1,h2,h3⟩:=dsum_j hb ha lb (by omega)
  refine ⟨o,⟨k0,fun k hk => ?_⟩,by omega,h2,by omega⟩
  show dyad_sum.f k a b=some o
  unfold dyad_sum.f
  rw [if_pos (by omega)];exact f k hk
 ·obtain ⟨o,⟨k0,f⟩,h1,h2,h3⟩:=dsum_j ha hb la (by omega)
  refine ⟨o,⟨k0,fun k hk => ?_⟩,by omega,h2,h3⟩
  show dyad_sum.f k a b=some o
  unfold dyad_sum.f
  rw [if_neg (by omega)];exact f k hk
end Go.Proofs.YthimlebkjnajpaaDoor.P02
namespace Go.Proofs.YthimlebkjnajpaaDoorW.FL
open Ieee
theorem signed_lt (s:Bool) (n:Nat):sgn s n<0↔s=true∧0<n:=by cases s <;> simp [sgn] <;> omega
theorem sgn_natAbs (s:Bool) (n:Nat):(sgn s n).natAbs=n:=by cases s <;> simp [sgn]
theorem sgn_not (s:Bool) (n:Nat):sgn (!s) n = - sgn s n:=by cases s <;> simp [sgn]
theorem sgn_of (x:Int):sgn (decide (x<0)) x.natAbs=x:=by
 by_cases h:x<0 <;> simp [sgn,h] <;> omega
theorem natAbs_mul_pow (x:Int) (c:Nat):(x*((2^c:Nat):Int)).natAbs=x.natAbs*2^c:=by
 rw [Int.natAbs_mul,Int.natAbs_natCast]

def wr (f:Format) (z:Bool) (t:Int):Nat :=
 if t=0 then f.word z 0 else f.word (decide (t<0)) (min (R f.fractionBits 0 t.natAbs) f.infRung)

theorem sum_units {f:Format} (s t:Bool) (m n a b:Nat) :
  (Datum.sum (.number s m (f.leastPlace+a)) (.number t n (f.leastPlace+b))).map f.write=some (wr f (s&&t) (sgn s (m*2^a)+sgn t (n*2^b))):=by
 have key:∀ c:Nat,c≤a→c≤b→f.write (.number (if signed s m (a - c)+signed t n (b - c)=0 then s&&t else signed s m (a - c)+signed t n (b - c)<0) (signed s m (a - c)+signed t n (b - c)).natAbs (f.leastPlace+c))=wr f (s&&t) (sgn s (m*2^a)+sgn t (n*2^b)):=by
  intro c h1 h2
  rw [signed_eq,signed_eq]
  have e1:m*2^a=m*2^(a - c)*2^c:=by rw [Nat.mul_assoc,← Nat.pow_add,Nat.sub_add_cancel h1]
  have e2:n*2^b=n*2^(b - c)*2^c:=by rw [Nat.mul_assoc,← Nat.pow_add,Nat.sub_add_cancel h2]
  rw [e1,e2,sgn_mul s (m*2^(a - c)),sgn_mul t (n*2^(b - c)),← Int.add_mul]
  generalize sgn s (m*2^(a - c))+sgn t (n*2^(b - c))=x
  have hc:(0:Int)<((2^c:Nat):Int):=by exact_mod_cast two_pow_pos c
  unfold wr
  by_cases hx:x=0
  ·subst hx
   simp only [Int.zero_mul,if_true]
   simp [Format.write,Format.nearest]
  ·have hx2:¬ x*((2^c:Nat):Int)=0:=by
    intro h;rcases Int.mul_eq_zero.1 h with h | h
    ·exact hx h
    ·omega
   rw [if_neg hx,if_neg hx2]
   have e3:x*((2^c:Nat):Int)<0↔x<0:=by
    constructor
    ·intro h
     by_cases g:x<0
     ·exact g
     ·have:=Int.mul_nonneg (show 0≤x by omega) (Int.le_of_lt hc);omega
    ·intro h;exact Int.mul_neg_of_neg_of_pos h hc
   simp only [Format.write]
   rw [nearest_eq c 0 (by simp) (by omega),natAbs_mul_pow]
   simp only [e3]
 simp only [Datum.sum,Option.map_some]
 by_cases h:a≤b
 ·have e:min (f.leastPlace+(a:Int)) (f.leastPlace+b)=f.leastPlace+a:=by omega
  rw [e,show (f.leastPlace+(a:Int) - (f.leastPlace+a)).toNat=a - a by omega,show (f.leastPlace+(b:Int) - (f.leastPlace+a)).toNat=b - a by omega,key a (Nat.le_refl _) h]
 ·have e:min (f.leastPlace+(a:Int)) (f.leastPlace+b)=f.leastPlace+b:=by omega
  rw [e,show (f.leastPlace+(a:Int) - (f.leastPlace+b)).toNat=a - b by omega,show (f.leastPlace+(b:Int) - (f.leastPlace+b)).toNat=b - b by omega,key b (by omega) (Nat.le_refl _)]

theorem add_num {f:Format} {a b:Nat} (ha:rung f a<f.infRung) (hb:rung f b<f.infRung) :
  f.add a b=some (wr f (neg f a&&neg f b) (S f a+S f b)):=by
 obtain ⟨m,i,e1,u1⟩:=read_num ha
 obtain ⟨n,j,e2,u2⟩:=read_num hb
 unfold Format.add S
 rw [e1,e2,sum_units,u1,u2]

theorem sub_num {f:Format} {a b:Nat} (ha:rung f a<f.infRung) (hb:rung f b<f.infRung) :
  f.sub a b=some (wr f (neg f a && !neg f b) (S f a - S f b)):=by
 obtain ⟨m,i,e1,u1⟩:=read_num ha
 obtain ⟨n,j,e2,u2⟩:=read_num hb
 unfold Format.sub S
 rw [e1,e2,Datum.opposite,sum_units,u1,u2,sgn_not,Int.sub_eq_add_neg]

def wrk (f:Format) (k:Nat) (s:Bool) (n:Nat):Nat :=
 if n=0 then f.word s 0 else f.word s (min (R f.fractionBits k n) f.infRung)

theorem mul_num {f:Format} {a b k:Nat} (hL:f.leastPlace+k=0) (ha:rung f a<f.infRung) (hb:rung f b<f.infRung) :
  f.mul a b=some (wrk f k (neg f a ^^ neg f b) (U f.fractionBits (rung f a)*U f.fractionBits (rung f b))):=by
 obtain ⟨m,i,e1,u1⟩:=read_num ha
 obtain ⟨n,j,e2,u2⟩:=read_num hb
 unfold Format.mul
 rw [e1,e2]
 simp only [Datum.product,Option.map_some,Format.write]
 congr 1
 have e3:U f.fractionBits (rung f a)*U f.fractionBits (rung f b)=m*n*2^(i+j):=by
  rw [← u1,← u2,Nat.pow_add,Nat.mul_mul_mul_comm]
 rw [e3]
 unfold wrk
 have hp:=two_pow_pos (i+j)
 by_cases h:m*n=0
 ·rw [h];simp [Format.nearest]
 ·have h2:¬ m*n*2^(i+j)=0:=by
   intro z;rcases Nat.mul_eq_zero.1 z with z | z <;> omega
  rw [if_neg h2,nearest_eq (i+j) k (by omega) h]
end Go.Proofs.YthimlebkjnajpaaDoorW.FL
namespace Go.Proofs.YthimlebkjnajpaaDoorW.FL
open Go Go.RowKit Ieee
abbrev D:Format:=FloatKind.f64.format
abbrev F:Format:=FloatKind.f32.format
theorem f64_wf {a:Nat} (h:(Lit.float .f64 a).wf=true):a<18446744073709551616:=by
 simpa [Lit.wf] using h
theorem D_sign:D.signWeight=9223372036854775808:=rfl
theorem D_inf:D.infRung=9218868437227405312:=rfl
theorem D_least:D.leastPlace = -1074:=rfl
theorem D_rung (a:Nat):rung D a=a%9223372036854775808:=rfl
theorem D_neg {a:Nat} (h:a<18446744073709551616):neg D a=decide (9223372036854775808≤a):=by
 unfold neg
 rw [D_sign]
 have e:a / 9223372036854775808%2=if 9223372036854775808≤a then 1 else 0:=by split <;> omega
 rw [e];split <;> simp [*]
theorem D_nan_iff (a:Nat):(D.order a a != some .eq)=true↔9218868437227405312<a%9223372036854775808 :=
 nan_iff (f:=D) (by decide) a
def K (a:Nat):Int:=sgn (neg D a) (a%9223372036854775808)
theorem compare_sgn_U (p:Nat) (s t:Bool) (m n:Nat):compare (sgn s (U p m)) (sgn t (U p n))=compare (sgn s m) (sgn t n):=by
 have hm:=U_zero p
 have h0:∀ k,0<k→0<U p k:=fun k hk=>by have:=U_lt (p:=p) hk;omega
 rcases Nat.lt_trichotomy m n with h | h | h
 ·have:=U_lt (p:=p) h
  rw [sgn_lt_inf h,sgn_lt_inf this]
 ·subst h
  by_cases hz:m=0
  ·subst hz;rw [hm]
  ·rw [sgn_eq_inf (h0 m (by omega)),sgn_eq_inf (show 0<m by omega)]
 ·have:=U_lt (p:=p) h
  rw [sgn_gt_inf h,sgn_gt_inf this]
theorem D_order {a b:Nat} (ha:¬ 9218868437227405312<a%9223372036854775808) (hb:¬ 9218868437227405312<b%9223372036854775808) :
  D.order a b=some (compare (K a) (K b)):=by
 rw [order_eq (f:=D) (by decide) ha hb]
 unfold S K
 rw [compare_sgn_U];rfl
theorem D_order_none {a b:Nat} (h:9218868437227405312<a%9223372036854775808∨9218868437227405312<b%9223372036854775808):D.order a b=none :=
 order_none (f:=D) (by decide) h
theorem K_eq {a:Nat} (h:a<18446744073709551616):K a=if 9223372036854775808≤a then -((a:Int) - 9223372036854775808) else (a:Int):=by
 unfold K
 rw [D_neg h]
 by_cases e:9223372036854775808≤a
 ·simp [e,sgn];omega
 ·simp [e,sgn];omega
end Go.Proofs.YthimlebkjnajpaaDoorW.FL
namespace Go.Proofs.YthimlebkjnajpaaDoorW.EV
open Go Go.RowKit Go.Proofs.YthimlebkjnajpaaDoorW.PrintWords Go.Proofs.YthimlebkjnajpaaDoorW.PrintLast Go.Proofs.YthimlebkjnajpaaDoorW.PrintMore Go.Proofs.YthimlebkjnajpaaDoorW.NA
open Go.Proofs.YthimlebkjnajpaaDoorW.FL
abbrev Dy:=Bool × List Int × Int
def Fo (s:Bool) (n:Nat) (E:Int) (d:Dy):Prop:=(n=0∧d=(false,[],0))∨∃ m e:Nat,n=(2*m+1)*2^e∧d=(s,Cn (2*m+1),E+e)
def Ca (d:Dy):Prop:=d=(false,[],0)∨∃ m:Nat,d.2.1=Cn (2*m+1)
def Gd (b:Nat) (d:Dy):Prop:=WF d.2.1∧V d.2.1<2^b ∧ -(b:Int)≤d.2.2∧d.2.2≤b
def dU (K:Nat) (d:Dy):Int:=sgn d.1 (V d.2.1*2^(d.2.2+K).toNat)
theorem gd_mono {b c:Nat} {d:Dy} (h:b≤c) (g:Gd b d):Gd c d :=
 ⟨g.1,Nat.lt_of_lt_of_le g.2.1 (Nat.pow_le_pow_right (by decide) h),by have:=g.2.2.1;omega,by have:=g.2.2.2;omega⟩
theorem Fo.ca {s:Bool} {n:Nat} {E:Int} {d:Dy} (h:Fo s n E d):Ca d:=by
 rcases h with ⟨_,h⟩ | ⟨m,e,_,h⟩
 ·exact Or.inl h
 ·exact Or.inr ⟨m,by rw [h]⟩
theorem sgn_zero (s:Bool):sgn s 0=0:=by cases s <;> rfl
theorem Fo.units {s:Bool} {n:Nat} {E:Int} {d:Dy} (h:Fo s n E d) {K:Nat} (hK:0≤E+K):dU K d=sgn s (n*2^(E+K).toNat):=by
 rcases h with ⟨h1,h⟩ | ⟨m,e,h1,h⟩
 ·subst h;subst h1;unfold dU;rw [V_nil,Nat.zero_mul,Nat.zero_mul,sgn_zero,sgn_zero]
 ·subst h
  unfold dU
  rw [V_Cn,h1,Nat.mul_assoc,← Nat.pow_add]
  congr 3;simp only;omega
theorem Fo.empty {s:Bool} {n:Nat} {E:Int} {d:Dy} (h:Fo s n E d):d.2.1=[]↔n=0:=by
 rcases h with ⟨h1,h⟩ | ⟨m,e,h1,h⟩
 ·subst h;simp [h1]
 ·subst h
  have h2:Cn (2*m+1)≠[]:=fun z=>by have:=Cn_nil.1 z;omega
  have h3:n≠0:=by rw [h1];exact Nat.mul_ne_zero (by omega) (Nat.pos_iff_ne_zero.1 (Nat.two_pow_pos e))
  constructor
  ·intro z;exact absurd z h2
  ·intro z;exact absurd z h3
theorem ca_cases {d:Dy} (h:Ca d):d=(false,[],0)∨∃ m:Nat,d=(d.1,Cn (2*m+1),d.2.2):=by
 rcases h with h | ⟨m,h⟩
 ·exact Or.inl h
 ·right;refine ⟨m,?_⟩;obtain ⟨a,b,c⟩:=d;simp at h ⊢;exact h
theorem dU_zero (K:Nat):dU K (false,[],0)=0:=by unfold dU;rw [V_nil,Nat.zero_mul];rfl
theorem mn_eq (a b:Int):mn a b=min a b:=by unfold mn;split <;> omega
theorem pow_split {x y:Int} {K:Nat} (h:x≤y) (hx:0≤x+K) (m:Nat):m*2^(y+K).toNat=m*2^(y - x).toNat*2^(x+K).toNat:=by
 rw [Nat.mul_assoc,← Nat.pow_add];congr 2;omega
theorem sgn_add_same (s:Bool) (a b:Nat):sgn s a+sgn s b=sgn s (a+b):=by cases s <;> simp [sgn] <;> omega
theorem sgn_sub_other {s t:Bool} (h:s≠t) {a b:Nat} (hab:b≤a):sgn s a+sgn t b=sgn s (a - b):=by
 cases s <;> cases t <;> simp_all [sgn] <;> omega
theorem sgn_mul_sgn (s t:Bool) (a b:Nat):sgn s a*sgn t b=sgn (s ^^ t) (a*b):=by
 cases s <;> cases t <;> simp [sgn,Int.neg_mul,Int.mul_neg]
theorem odd_unique {m e m' e':Nat} (h:(2*m+1)*2^e=(2*m'+1)*2^e'):m=m'∧e=e':=by
 have t1:=testBit_odd m e
 have t2:=testBit_odd m' e'
 rw [h] at t1
 have he:e=e':=by
  rcases Nat.lt_trichotomy e e' with c | c | c
  ·have a:=t1 e (Nat.le_refl _)
   rw [t2 e (by omega)] at a;simp at a;omega
  ·exact c
  ·have a:=t1 e' (by omega)
   rw [t2 e' (Nat.le_refl _)] at a;simp at a;omega
 subst he
 have:=Nat.eq_of_mul_eq_mul_right (Nat.two_pow_pos e) h
 exact ⟨by omega,rfl⟩
theorem Fo.unique {s:Bool} {n:Nat} {E:Int} {d d':Dy} (h:Fo s n E d) (h':Fo s n E d'):d=d':=by
 rcases h with ⟨h1,h2⟩ | ⟨m,e,h1,h2⟩ <;> rcases h' with ⟨g1,g2⟩ | ⟨m',e',g1,g2⟩
 ·rw [h2,g2]
 ·exfalso;rw [h1] at g1;have:0<(2*m'+1)*2^e':=Nat.mul_pos (by omega) (Nat.two_pow_pos _);omega
 ·exfalso;rw [g1] at h1;have:0<(2*m+1)*2^e:=Nat.mul_pos (by omega) (Nat.two_pow_pos _);omega
 ·obtain ⟨a,b⟩:=odd_unique (h1.symm.trans g1)
  subst a;subst b;rw [h2,g2]
theorem Fo.shift {s:Bool} {n:Nat} {E:Int} {d:Dy} (h:Fo s n E d) (j:Nat):Fo s (n*2^j) (E - j) d:=by
 rcases h with ⟨h1,h2⟩ | ⟨m,e,h1,h2⟩
 ·exact Or.inl ⟨by rw [h1,Nat.zero_mul],h2⟩
 ·refine Or.inr ⟨m,e+j,by rw [h1,Nat.mul_assoc,← Nat.pow_add],?_⟩
  rw [h2];congr 2;omega
def tz (n:Nat):Nat:=Lib.ctzFrom n n
theorem tz_spec {n:Nat} (h:n≠0):∃ m,n=(2*m+1)*2^tz n:=by
 obtain ⟨m,hm,_⟩:=Lib.ctzFrom_spec n n (by omega) Nat.lt_two_pow_self
 exact ⟨m,by rw [Nat.mul_comm];exact hm⟩
def cd (K:Nat) (t:Int):Dy:=if t=0 then (false,[],0) else (decide (t<0),Cn (t.natAbs / 2^tz t.natAbs),(tz t.natAbs:Int) - K)
theorem cd_zero (K:Nat):cd K 0=(false,[],0):=by unfold cd;rw [if_pos rfl]
theorem cd_fo (K:Nat) (t:Int):Fo (decide (t<0)) t.natAbs (-(K:Int)) (cd K t):=by
 unfold cd
 by_cases h:t=0
 ·rw [if_pos h];exact Or.inl ⟨by omega,rfl⟩
 ·rw [if_neg h]
  obtain ⟨m,hm⟩:=tz_spec (n:=t.natAbs) (by omega)
  refine Or.inr ⟨m,tz t.natAbs,hm,?_⟩
  have:t.natAbs / 2^tz t.natAbs=2*m+1:=by
   generalize tz t.natAbs=e at hm ⊢
   rw [hm];exact Nat.mul_div_cancel _ (Nat.two_pow_pos _)
  rw [this];congr 2;omega
theorem cd_ca (K:Nat) (t:Int):Ca (cd K t):=(cd_fo K t).ca
theorem cd_units (K:Nat) (t:Int):dU K (cd K t)=t:=by
 rw [(cd_fo K t).units (K:=K) (by omega),show (-(K:Int)+K).toNat=0 by omega,Nat.pow_zero,Nat.mul_one]
 exact sgn_of t
theorem fo_cd {s:Bool} {n:Nat} {E:Int} {d:Dy} (h:Fo s n E d) {K:Nat} (hK:0≤E+K):d=cd K (sgn s (n*2^(E+K).toNat)):=by
 have h1:=h.shift (E+K).toNat
 rw [show E - ((E+K).toNat:Int) = -(K:Int) by omega] at h1
 by_cases hz:n*2^(E+K).toNat=0
 ·rw [hz] at h1 ⊢
  rcases h1 with ⟨_,h2⟩ | ⟨m,e,h2,_⟩
  ·rw [sgn_zero,cd_zero];exact h2
  ·exfalso;have:0<(2*m+1)*2^e:=Nat.mul_pos (by omega) (Nat.two_pow_pos _);omega
 ·have h2:=cd_fo K (sgn s (n*2^(E+K).toNat))
  rw [sgn_natAbs] at h2
  have h3:decide (sgn s (n*2^(E+K).toNat)<0)=s:=by
   have:=signed_lt s (n*2^(E+K).toNat)
   cases s
   ·simp at this;simp;omega
   ·simp at this;simp;omega
  rw [h3] at h2
  exact h1.unique h2
theorem ca_cd {d:Dy} (h:Ca d) {K:Nat} (hK:0≤d.2.2+K):d=cd K (dU K d):=by
 rcases ca_cases h with h | ⟨m,h⟩
 ·rw [h,dU_zero,cd_zero]
 ·have:Fo d.1 (2*m+1) d.2.2 d:=Or.inr ⟨m,0,by omega,by rw [h];simp⟩
  have e:=fo_cd this hK
  have eu:dU K d=sgn d.1 ((2*m+1)*2^(d.2.2+K).toNat):=this.units hK
  rw [eu];exact e
theorem cd_shift (K j:Nat) (t:Int):cd (K+j) (t*2^j)=cd K t:=by
 have h:=(cd_fo K t).shift j
 have e:=fo_cd (cd_fo K t) (K:=K+j) (by omega)
 rw [e,show (-(K:Int)+((K+j:Nat):Int)).toNat=j by omega]
 congr 1
 have:sgn (decide (t<0)) (t.natAbs*2^j)=sgn (decide (t<0)) t.natAbs*2^j:=by
  have h2:((2:Int)^j)=((2^j:Nat):Int):=by rw [Int.natCast_pow];rfl
  rw [h2]
  cases decide (t<0) <;> simp [sgn,Int.neg_mul]
 rw [this,sgn_of]
theorem cd_gd {K b:Nat} {t:Int} (h:t.natAbs<2^b):WF (cd K t).2.1∧V (cd K t).2.1≤t.natAbs∧(t≠0 → -(K:Int)≤(cd K t).2.2∧(cd K t).2.2<(b:Int) - K):=by
 unfold cd
 by_cases h0:t=0
 ·rw [if_pos h0];exact ⟨WF.nil,by rw [V_nil];omega,fun z=>absurd h0 z⟩
 ·rw [if_neg h0]
  obtain ⟨m,hm⟩:=tz_spec (n:=t.natAbs) (by omega)
  refine ⟨Cn_wf _,by rw [V_Cn];exact Nat.div_le_self .., fun _=>⟨by simp only;omega,?_⟩⟩
  have h1:1*2^tz t.natAbs≤(2*m+1)*2^tz t.natAbs:=Nat.mul_le_mul_right _ (by omega)
  have h2:tz t.natAbs<b:=(Nat.pow_lt_pow_iff_right (a:=2) (by decide)).1 (by omega)
  simp only;omega
def mant (r:Nat):Nat:=if r<4503599627370496 then r else 4503599627370496+r%4503599627370496
def plc (r:Nat):Int:=if r<4503599627370496 then -1074 else -1074+((r / 4503599627370496 - 1:Nat):Int)
theorem mant_U (r:Nat):mant r*2^(plc r+1074).toNat=U 52 r:=by
 unfold mant plc U
 by_cases h:r<4503599627370496
 ·rw [if_pos h,if_pos h,if_pos (show r<2^52 from h)];simp
 ·rw [if_neg h,if_neg h,if_neg (show ¬ r<2^52 from h),show (-1074+((r / 4503599627370496 - 1:Nat):Int)+1074).toNat=r / 4503599627370496 - 1 by omega]
theorem mant_lt (r:Nat):mant r<9007199254740992:=by unfold mant;split <;> omega
theorem plc_range {r:Nat} (h:r≤9218868437227405312) : -1074≤plc r∧plc r≤972:=by unfold plc;split <;> omega
theorem rung_units {r K:Nat} (hK:1074≤K):mant r*2^(plc r+K).toNat=U 52 r*2^(K - 1074):=by
 have hp : -1074≤plc r:=by unfold plc;split <;> omega
 have e:(plc r+K).toNat=(plc r+1074).toNat+(K - 1074):=by omega
 rw [← mant_U,Nat.mul_assoc,← Nat.pow_add,e]
end Go.Proofs.YthimlebkjnajpaaDoorW.EV
namespace Go.Proofs.YthimlebkjnajpaaDoor.P02
open Go Go.RowKit Go.Proofs.YthimlebkjnajpaaDoor.Pr Go.Proofs.YthimlebkjnajpaaDoorW.PrintWords Go.Proofs.YthimlebkjnajpaaDoorW.PrintLast Go.Proofs.YthimlebkjnajpaaDoorW.PrintMore Go.Proofs.YthimlebkjnajpaaDoorW.NA Go.Proofs.YthimlebkjnajpaaDoorW.EV
open Go.Proofs.YthimlebkjnajpaaDoorW.FL (wrap64_id wrap_u64 wraps_u64 u64_join log2_eq two_pow_log2_le lt_two_pow_log2 sgn sgn_natAbs)
set_option linter.unusedVariables false
set_option linter.unusedSimpArgs false
theorem lower_word {X Y r:Nat} (hX:X<4294967296) (hY:Y<4294967296) (h0:0<r) (hr:r≤31) :
  Go.bits .or .u32 (shr .u32 (X:Int) (r:Int)) (shl .u32 (Y:Int) ((32 - r:Nat):Int))=(((X+4294967296*Y) / 2^r%4294967296:Nat):Int):=by
 have hp:=Nat.two_pow_pos r
 have hP:4294967296=2^r*2^(32 - r):=by rw [← Nat.pow_add,show r+(32 - r)=32 by omega]
 have hQ0:=Nat.two_pow_pos (32 - r)
 rw [shr_nat .u32 (by decide) X r (by omega),shl_nat .u32 (by decide) Y (32 - r) (by omega),wrap_u32]
 have e1:(X+4294967296*Y) / 2^r=X / 2^r+2^(32 - r)*Y:=by
  rw [hP,Nat.mul_assoc,Nat.add_mul_div_left _ _ hp]
 have e2:Y*2^(32 - r)%4294967296=Y%2^r*2^(32 - r):=by
  rw [hP,Nat.mul_mod_mul_right]
 have hlt:X / 2^r<2^(32 - r):=by
  apply Nat.div_lt_of_lt_mul;rw [← hP];exact hX
 have hs:Y%2^r*2^(32 - r)+X / 2^r<4294967296:=by
  have h2:(Y%2^r+1)*2^(32 - r)≤2^r*2^(32 - r):=Nat.mul_le_mul_right _ (Nat.mod_lt _ hp)
  rw [← hP,Nat.succ_mul] at h2;omega
 rw [show ((Y*2^(32 - r):Nat):Int)%4294967296=((Y*2^(32 - r)%4294967296:Nat):Int) by omega,e2,u32_join' (32 - r) _ _ (Nat.mul_mod_left ..) (by omega) hlt (by omega),e1]
 congr 1
 have e3:(X / 2^r+2^(32 - r)*Y)%4294967296=(X / 2^r+Y*2^(32 - r)%4294967296)%4294967296:=by rw [Nat.mul_comm,Nat.add_mod_mod]
 rw [e3,e2,Nat.add_comm (X / 2^r)]
 exact (Nat.mod_eq_of_lt hs).symm
def lend (o:List Int):Option (List Int):=if 0≤(wrap64 ((o.length:Int) - 1)) then (if (wrap64 ((o.length:Int) - 1))<(o.length:Int) then (if (rd o (wrap64 ((o.length:Int) - 1)))=0 then (if (wrap64 ((o.length:Int) - 1))≤(o.length:Int) then (some (o.take ((wrap64 ((o.length:Int) - 1)):Int).toNat)) else (none)) else (some o)) else (none)) else (none)
theorem lower_loop {l:List Int} (hw:WF l) (hl:l.length<70368744177000) {r:Nat} (hr:r≤31):∀ (m i:Nat) (out:List Int),l.length - i=m→i≤l.length→out.length=l.length→WF (out.take i) →
  V (out.take i)+4294967296^i*(V (l.drop i) / 2^r)=V l / 2^r→∃ o,(∀ k,dyad_lower.l0 (m+1+k) l (r:Int) out l (l.length:Int) (i:Int)=lend o)∧o.length=l.length∧WF o∧V o=V l / 2^r:=by
 intro m
 induction m with
 | zero =>
  intro i out hm hi ho hwo hv
  have hil:i=l.length:=by omega
  subst hil
  rw [List.take_of_length_le (by omega)] at hwo hv
  refine ⟨out,fun k=>by rw [show 0+1+k=k+1 by omega,dyad_lower.l0,if_neg (by omega)];rfl,ho,hwo,?_⟩
  rw [V_drop_ge (Nat.le_refl _),Nat.zero_div,Nat.mul_zero,Nat.add_zero] at hv
  exact hv
 | succ m ih =>
  intro i out hm hi ho hwo hv
  have hil:i<l.length:=by omega
  obtain ⟨x,hxl⟩:=get_some hil
  have rx:=hw.get hxl
  obtain ⟨X,rfl⟩:=Int.eq_ofNat_of_zero_le rx.1
  have hX:X<4294967296:=by omega
  have c1:(i:Int)<(l.length:Int):=by omega
  have c2:(i:Int)<(out.length:Int):=by omega
  have hd:=V_drop hxl
  rw [Int.toNat_natCast] at hd
  have key:∃ d:Nat,d=V (l.drop i) / 2^r%4294967296∧∀ k,dyad_lower.l0 (m+1+1+k) l (r:Int) out l (l.length:Int) (i:Int)=dyad_lower.l0 (m+1+k) l (r:Int) (out.set i (d:Int)) l (l.length:Int) ((i+1:Nat):Int):=by
   have start:∀ k,dyad_lower.l0 (m+1+1+k) l (r:Int) out l (l.length:Int) (i:Int)=(if (r:Int)>0 then (if (wrap64 ((i:Int)+1))<(l.length:Int) then (if 0≤(wrap64 ((i:Int)+1)) then (if 0≤(wrap64 (32 - (r:Int))) then (dyad_lower.l0 (m+1+k) l (r:Int) ((out.set i (shr .u32 (X:Int) (r:Int))).set i (Go.bits .or .u32 (rd (out.set i (shr .u32 (X:Int) (r:Int))) (i:Int)) (shl .u32 (rd l (wrap64 ((i:Int)+1))) (wrap64 (32 - (r:Int)))))) l (l.length:Int) (wrap64 ((i:Int)+1))) else (none)) else (none)) else (dyad_lower.l0 (m+1+k) l (r:Int) (out.set i (shr .u32 (X:Int) (r:Int))) l (l.length:Int) (wrap64 ((i:Int)+1)))) else (dyad_lower.l0 (m+1+k) l (r:Int) (out.set i (shr .u32 (X:Int) (r:Int))) l (l.length:Int) (wrap64 ((i:Int)+1)))):=by
    intro k
    rw [show m+1+1+k=(m+1+k)+1 by omega,dyad_lower.l0,if_pos c1,if_pos (Int.natCast_nonneg i),if_pos c1,if_pos (Int.natCast_nonneg r),if_pos c2,rd_eq hxl,Option.bind_some,Int.toNat_natCast]
   have hs0:shr .u32 (X:Int) (r:Int)=((X / 2^r:Nat):Int):=shr_nat .u32 (by decide) X r (by omega)
   have hlt:X / 2^r<4294967296:=Nat.lt_of_le_of_lt (Nat.div_le_self ..) hX
   by_cases h0:0<r
   ·by_cases hn:i+1<l.length
    ·obtain ⟨y,hyl⟩:=get_some hn
     have ry:=hw.get hyl
     obtain ⟨Y,rfl⟩:=Int.eq_ofNat_of_zero_le ry.1
     have hd2:=V_drop hyl
     rw [Int.toNat_natCast] at hd2
     refine ⟨(X+4294967296*Y) / 2^r%4294967296,by rw [hd,hd2];exact low_word hr X Y _,fun k => ?_⟩
     have c3:((i+1:Nat):Int)<(l.length:Int):=by omega
     have c4:(r:Int)>0:=by omega
     have w32:wrap64 (32 - (r:Int))=((32 - r:Nat):Int):=by rw [wrap64_id (by omega) (by omega)];omega
     have hg:rd (out.set i (shr .u32 (X:Int) (r:Int))) (i:Int)=shr .u32 (X:Int) (r:Int):=rd_eq (by rw [List.getElem?_set_self (by omega)])
     rw [start,if_pos c4,wsucc (by omega),if_pos c3,if_pos (Int.natCast_nonneg _),w32,if_pos (Int.natCast_nonneg _),hg,rd_eq hyl,lower_word hX (by omega) h0 hr,List.set_set]
    ·refine ⟨X / 2^r,by rw [hd,V_drop_ge (by omega)];exact (Nat.mod_eq_of_lt hlt).symm,fun k => ?_⟩
     have c3:¬ ((i+1:Nat):Int)<(l.length:Int):=by omega
     have c4:(r:Int)>0:=by omega
     rw [start,if_pos c4,wsucc (by omega),if_neg c3,hs0]
   ·have hr0:r=0:=by omega
    subst hr0
    refine ⟨X,?_,fun k => ?_⟩
    ·rw [hd,Nat.pow_zero,Nat.div_one];omega
    ·rw [start,if_neg (by decide),wsucc (by omega),hs0,Nat.pow_zero,Nat.div_one]
  obtain ⟨d,hdd,hstep⟩:=key
  have hd4:d<4294967296:=by rw [hdd];exact Nat.mod_lt _ (by decide)
  have hv1:V ((out.set i (d:Int)).take (i+1))+4294967296^(i+1)*(V (l.drop (i+1)) / 2^r)=V l / 2^r:=by
   rw [V_take_set _ (by omega),Int.toNat_natCast,← hv,Nat.add_assoc]
   congr 1
   have:=div_word r X (V (l.drop (i+1))) hX
   rw [← hd,← hdd] at this
   rw [this,Nat.mul_add,Nat.pow_succ,Nat.mul_assoc]
  obtain ⟨o,h1,h2,h3,h4⟩:=ih (i+1) (out.set i (d:Int)) (by omega) (by omega) (by simp [ho]) (WF_take_set (by omega) hwo (by omega) (by omega)) hv1
  exact ⟨o,fun k=>(hstep k).trans (h1 k),h2,h3,h4⟩
theorem form_low {l:List Int} {n:Nat} (h:l=Cn (V l)) (hl:l.length=n+1):4294967296^n≤V l:=by
 apply Nat.le_of_not_lt;intro hc
 have:=Cn_length_lt hc
 rw [← h] at this;omega
theorem lower_eq {l:List Int} (hw:WF l) (hl:l.length<70368744177000) (hf:l=Cn (V l)) (h0:V l≠0) {r:Nat} (hr:r≤31):Evl (fun k=>dyad_lower.f k l (r:Int)) (Cn (V l / 2^r)):=by
 obtain ⟨o,h1,h2,h3,h4⟩:=lower_loop hw hl hr l.length 0 (List.replicate l.length 0) (by omega) (by omega) (by simp) WF.nil (by simp [V])
 have hlen:l.length≠0:=fun z=>h0 (by rw [List.length_eq_zero_iff.1 z];rfl)
 have hend:lend o=some (Cn (V l / 2^r)):=by
  obtain ⟨n,hn⟩:∃ n,l.length=n+1:=⟨l.length - 1,by omega⟩
  obtain ⟨x,hx⟩:=get_some (l:=o) (i:=n) (by omega)
  have ew:wrap64 ((o.length:Int) - 1)=(n:Int):=by rw [h2,hn,wrap64_id (by omega) (by omega)];omega
  have c1:(n:Int)<(o.length:Int):=by omega
  have c2:(n:Int)≤(o.length:Int):=by omega
  unfold lend
  rw [ew,if_pos (Int.natCast_nonneg n),if_pos c1,rd_eq hx]
  by_cases hz:x=0
  ·rw [if_pos hz,if_pos c2,Int.toNat_natCast]
   have hz1:V (o.drop n)=0:=by rw [V_last (by omega) hx,hz];rfl
   have hv:=V_take_zero (l:=o) (n:=n) (by omega) hz1
   rw [← h4,← hv]
   congr 1
   refine V_ext (h3.take n) (Cn_wf _) ?_ (by rw [V_Cn])
   have a1:=Cn_le (h3.take n)
   rw [List.length_take,Nat.min_eq_left (by omega)] at a1 ⊢
   apply Nat.le_antisymm _ a1
   apply Nat.le_of_not_lt;intro hc
   -- too few words would be too little
   have hlow:=form_low hf hn
   rcases n with _ | n
   ·omega
   ·have a2:=Cn_length_le (n:=V (o.take (n+1))) (k:=n) (by omega)
    rw [hv,h4] at a2
    have hp:=Nat.two_pow_pos r
    have a3:V l<4294967296^n*2^r:=by
     have:=Nat.lt_mul_of_div_lt a2 hp
     exact this
    have a4:4294967296^n*2^r≤4294967296^n*4294967296:=Nat.mul_le_mul_left _ (by
     have:2^r≤2^31:=Nat.pow_le_pow_right (by decide) hr
     omega)
    rw [Nat.pow_succ] at hlow
    omega
  ·rw [if_neg hz,← h4,← form_last h3 (by omega) hx hz]
 refine ⟨l.length+1,fun k hk => ?_⟩
 obtain ⟨j,rfl⟩:∃ j,k=l.length+1+j:=⟨k - (l.length+1),by omega⟩
 show dyad_lower.f (l.length+1+j) l (r:Int)=_
 unfold dyad_lower.f
 rw [if_pos (by omega),Int.toNat_natCast,if_pos (by omega),← hend]
 exact h1 j
theorem form_odd {s:Bool} {l:List Int} {E:Int} {m e:Nat} (hw:WF l) (hl:l.length<70368744177000) (hv:V l=(2*m+1)*2^e) (hE1 : -4611686018427387904<E) (hE2:E<4611686018427387904) :
  Evl (fun k=>dyad_form.f k s l E) (if E>1048576 - (e:Int)∨E < -1048576 - (e:Int)∨8192<(Cn (2*m+1)).length then (false,[],0,2) else (s,Cn (2*m+1),E+e,0)):=by
 have h0:V l≠0:=by rw [hv];exact Nat.mul_ne_zero (by omega) (Nat.pos_iff_ne_zero.1 (Nat.two_pow_pos e))
 have hlen:¬ ((Cn (V l)).length:Int)=0:=fun z=>h0 (Cn_nil.1 (List.length_eq_zero_iff.1 (by omega)))
 have lC:=Cn_le hw
 have he:e<32*(Cn (V l)).length:=by
  have h1:=Cn_length_le (n:=V l) (k:=(Cn (V l)).length) (Nat.le_refl _)
  rw [hv,pow32] at h1
  rw [← hv] at h1
  have h2:1*2^e≤(2*m+1)*2^e:=Nat.mul_le_mul_right _ (by omega)
  have h3:2^e<2^(32*(Cn (V l)).length):=by rw [← hv] at h2;omega
  exact (Nat.pow_lt_pow_iff_right (by decide)).1 h3
 refine Evl.bind (Norm_eq hw (by omega)) ?_
 obtain ⟨k1,f1⟩:=Low_eq (Cn_wf (V l)) (by omega) (m:=m) (e:=e) (by rw [V_Cn];exact hv)
 have hle:e / 32≤(Cn (V l)).length:=by omega
 have hd:=(Cn_wf (V l)).drop (e / 32)
 have hVd:V ((Cn (V l)).drop (e / 32))=V l / 4294967296^(e / 32):=by rw [← V_div (Cn_wf _) hle,V_Cn]
 have hq:V l / 4294967296^(e / 32)=(2*m+1)*2^(e%32):=by
  have h1:V l=(2*m+1)*2^(e%32)*4294967296^(e / 32):=by
   rw [hv,pow32,Nat.mul_assoc,← Nat.pow_add,show e%32+32*(e / 32)=e by omega]
  rw [h1];exact Nat.mul_div_cancel _ (Nat.pow_pos (by decide))
 have hfd:(Cn (V l)).drop (e / 32)=Cn (V ((Cn (V l)).drop (e / 32))):=by
  apply eq_Cn hd
  intro x hx
  have:=Cn_fm (V l) x
  apply this
  rw [List.getLast?_drop] at hx
  split at hx
  ·cases hx
  ·exact hx
 have hne:V ((Cn (V l)).drop (e / 32))≠0:=by rw [hVd,hq];exact Nat.mul_ne_zero (by omega) (Nat.pos_iff_ne_zero.1 (Nat.two_pow_pos _))
 have hdl:((Cn (V l)).drop (e / 32)).length<70368744177000:=by rw [List.length_drop];omega
 obtain ⟨k2,f2⟩:=lower_eq hd hdl hfd hne (r:=e%32) (by omega)
 rw [hVd,hq,Nat.mul_div_cancel _ (Nat.two_pow_pos _)] at f2
 dsimp only at f1 f2
 have c1:(((e / 32:Nat):Int))≤((Cn (V l)).length:Int):=by omega
 have heb:e<2251799813685248:=by omega
 clear he hdl lC hle hd hVd hq hfd hne hv
 have w1:wrap64 (1048576 - (e:Int))=1048576 - (e:Int):=wrap64_id (by omega) (by omega)
 have w2:wrap64 ((-1048576) - (e:Int)) = -1048576 - (e:Int):=wrap64_id (by omega) (by omega)
 have w3:wrap64 (E+(e:Int))=E+e:=wrap64_id (by omega) (by omega)
 have w4:wrap64 ((e / 32:Nat):Int)=((e / 32:Nat):Int):=wrapn (by omega)
 refine ⟨max k1 k2,fun k hk => ?_⟩
 dsimp only
 rw [if_neg hlen,f1 k (by omega),Option.bind_some,tdiv32,w4,if_pos (Int.natCast_nonneg _),if_pos c1,tmod32,Int.toNat_natCast,f2 k (by omega),Option.bind_some,w1,w2,w3]
 by_cases d1:E>1048576 - (e:Int)
 ·rw [if_pos d1,if_pos (Or.inl d1)]
 ·rw [if_neg d1]
  by_cases d2:E < -1048576 - (e:Int)
  ·rw [if_pos d2,if_pos (Or.inr (Or.inl d2))]
  ·rw [if_neg d2]
   by_cases d3:8192<(Cn (2*m+1)).length
   ·rw [if_pos (by omega),if_pos (Or.inr (Or.inr d3))]
   ·rw [if_neg (by omega),if_neg (by rintro (h | h | h);exact d1 h;exact d2 h;exact d3 h)]
theorem form_nought {s:Bool} {l:List Int} {E:Int} (hw:WF l) (hl:l.length<70368744177000) (hv:V l=0):Evl (fun k=>dyad_form.f k s l E) (false,[],0,0):=by
 refine Evl.bind (Norm_eq hw (by omega)) (Evl.pure fun k => ?_)
 rw [hv,Cn_zero,if_pos (by rfl)]
theorem form_cd {s:Bool} {l:List Int} {E:Int} {K b:Nat} (hw:WF l) (hl:l.length<70368744177000) (hK:0≤E+K) (hb:V l*2^(E+K).toNat<2^b) (hKb:K+b≤200000) (hE:E≤1000000) :
  Evl (fun k=>dyad_form.f k s l E) ((cd K (sgn s (V l*2^(E+K).toNat))).1,(cd K (sgn s (V l*2^(E+K).toNat))).2.1,(cd K (sgn s (V l*2^(E+K).toNat))).2.2,0):=by
 by_cases hz:V l=0
 ·rw [hz,Nat.zero_mul,sgn_zero,cd_zero]
  exact form_nought hw hl hz
 ·obtain ⟨e,m,he⟩:=odd_parts hz
  have hfo:Fo s (V l) E (s,Cn (2*m+1),E+e):=Or.inr ⟨m,e,he,rfl⟩
  have h:=fo_cd hfo hK
  rw [← h]
  have hle:V l≤V l*2^(E+K).toNat:=Nat.le_mul_of_pos_right _ (Nat.two_pow_pos _)
  have hodd:2*m+1≤V l:=by rw [he];exact Nat.le_mul_of_pos_right _ (Nat.two_pow_pos e)
  have hl2:=Cn_len_pow (Nat.lt_of_le_of_lt (Nat.le_trans hodd hle) hb)
  have hexp:e+(E+K).toNat<b:=by
   rw [he,Nat.mul_assoc,← Nat.pow_add] at hb
   have h2:1*2^(e+(E+K).toNat)≤(2*m+1)*2^(e+(E+K).toNat):=Nat.mul_le_mul_right _ (by omega)
   exact (Nat.pow_lt_pow_iff_right (a:=2) (by decide)).1 (by omega)
  have hf:=form_odd (s:=s) (E:=E) hw hl he (by omega) (by omega)
  rw [if_neg (by clear hb hle he hf h hfo;rintro (z | z | z) <;> omega)] at hf
  exact hf
end Go.Proofs.YthimlebkjnajpaaDoor.P02
namespace Go.Proofs.YthimlebkjnajpaaDoor.P02
open Go Go.RowKit Go.Proofs.YthimlebkjnajpaaDoor.Pr Go.Proofs.YthimlebkjnajpaaDoorW.PrintWords Go.Proofs.YthimlebkjnajpaaDoorW.PrintLast Go.Proofs.YthimlebkjnajpaaDoorW.PrintMore Go.Proofs.YthimlebkjnajpaaDoorW.NA Go.Proofs.YthimlebkjnajpaaDoorW.EV
open Go.Proofs.YthimlebkjnajpaaDoorW.FL (wrap64_id wrap_u64 wraps_u64 u64_join log2_eq two_pow_log2_le lt_two_pow_log2 sgn sgn_natAbs sgn_of)
set_option linter.unusedVariables false
set_option linter.unusedSimpArgs false
abbrev ans (d:Dy) (e:Int):Bool × List Int × Int × Int:=(d.1,d.2.1,d.2.2,e)
theorem cd_parts {K b:Nat} {t:Int} (h:t.natAbs<2^b) (h0:t≠0):∃ (m n:Nat),(cd K t).1=decide (t<0)∧(cd K t).2.1=Cn (2*m+1)∧(cd K t).2.2=(n:Int) - K∧t.natAbs=(2*m+1)*2^n∧n<b:=by
 obtain ⟨m,hm⟩:=tz_spec (n:=t.natAbs) (by omega)
 have hd:t.natAbs / 2^tz t.natAbs=2*m+1:=by
  generalize tz t.natAbs=e at hm ⊢
  rw [hm];exact Nat.mul_div_cancel _ (Nat.two_pow_pos _)
 have h1:1*2^tz t.natAbs≤(2*m+1)*2^tz t.natAbs:=Nat.mul_le_mul_right _ (by omega)
 have h2:tz t.natAbs<b:=(Nat.pow_lt_pow_iff_right (a:=2) (by decide)).1 (by omega)
 refine ⟨m,tz t.natAbs,?_,?_,?_,hm,h2⟩ <;> unfold cd <;> rw [if_neg h0]
 rw [hd]
theorem odd_len {m n b:Nat} {x:Nat} (h:x=(2*m+1)*2^n) (hx:x<2^b) (hb:b≤200000):(Cn (2*m+1)).length≤6251:=by
 have h1:2*m+1≤x:=by rw [h];exact Nat.le_mul_of_pos_right _ (Nat.two_pow_pos n)
 have:=Cn_len_pow (Nat.lt_of_le_of_lt h1 hx)
 clear h1 h hx;omega
theorem form_self {K b:Nat} {t:Int} (h:t.natAbs<2^b) (hb:K+b≤200000):Evl (fun k=>dyad_form.f k (cd K t).1 (cd K t).2.1 (cd K t).2.2) (ans (cd K t) 0):=by
 by_cases h0:t=0
 ·subst h0;rw [cd_zero];exact form_nought WF.nil (by decide) V_nil
 ·obtain ⟨m,n,e1,e2,e3,e4,e5⟩:=cd_parts (K:=K) h h0
  have hl:=odd_len e4 h (by omega)
  have ev:V (Cn (2*m+1))*2^((n:Int) - K+K).toNat=t.natAbs:=by rw [V_Cn,show ((n:Int) - K+K).toNat=n by omega];exact e4.symm
  have hf:=form_cd (s:=decide (t<0)) (l:=Cn (2*m+1)) (E:=(n:Int) - K) (K:=K) (b:=b) (Cn_wf _) (by omega) (by omega) (by rw [ev];exact h) hb (by omega)
  rw [ev,sgn_of] at hf
  rw [e1,e2,e3]
  exact hf
theorem both_cd {K b:Nat} {s t:Int} (hs:s.natAbs<2^b) (ht:t.natAbs<2^b) (hb:K+b≤200000) :
  Evl (fun k=>dyad_both.f k (cd K s).1 (cd K s).2.1 (cd K s).2.2 (cd K t).1 (cd K t).2.1 (cd K t).2.2) ((cd K s).1,(cd K s).2.1,(cd K s).2.2,(cd K t).1,(cd K t).2.1,(cd K t).2.2,0):=by
 refine Evl.bind (form_self hs hb) ?_
 refine Evl.congr (Evl.bind (form_self ht hb) (h:=fun _ bt=>some ((cd K s).1,(cd K s).2.1,(cd K s).2.2,bt.1,bt.2.1,bt.2.2.1,bt.2.2.2)) (Evl.some _)) (fun k => ?_)
 rw [if_pos rfl]
theorem signs {s t:Int} (hs:s≠0) (ht:t≠0) :
  (decide (s<0)=decide (t<0)→s+t=sgn (decide (s<0)) (s.natAbs+t.natAbs)) ∧
  (decide (s<0)≠decide (t<0)→t.natAbs≤s.natAbs→s+t=sgn (decide (s<0)) (s.natAbs - t.natAbs)) ∧
  (decide (s<0)≠decide (t<0)→s.natAbs≤t.natAbs→s+t=sgn (decide (t<0)) (t.natAbs - s.natAbs)):=by
 by_cases a:s<0 <;> by_cases b:t<0 <;> simp [a,b,sgn] <;> omega
theorem Add_cd {K b:Nat} {s t:Int} (hs:s.natAbs<2^b) (ht:t.natAbs<2^b) (hb:K+b+1≤200000) :
  Evl (fun k=>dyad_Add.f k (cd K s).1 (cd K s).2.1 (cd K s).2.2 (cd K t).1 (cd K t).2.1 (cd K t).2.2) (ans (cd K (s+t)) 0):=by
 refine Evl.bind (both_cd hs ht (by omega)) ?_
 dsimp only
 by_cases s0:s=0
 ·refine Evl.pure fun k => ?_
  subst s0
  rw [if_pos rfl,cd_zero,if_pos (by rfl),Int.zero_add]
 ·by_cases t0:t=0
  ·refine Evl.pure fun k => ?_
   subst t0
   obtain ⟨m,n,e1,e2,e3,e4,e5⟩:=cd_parts (K:=K) hs s0
   have hx:¬ (((cd K s).2.1.length:Nat):Int)=0:=by
    rw [e2];intro z
    have:Cn (2*m+1)=[]:=List.length_eq_zero_iff.1 (by omega)
    have:=Cn_nil.1 this;omega
   rw [if_pos rfl,if_neg hx,cd_zero,if_pos (by rfl),Int.add_zero]
  ·obtain ⟨m1,n1,a1,a2,a3,a4,a5⟩:=cd_parts (K:=K) hs s0
   obtain ⟨m2,n2,b1,b2,b3,b4,b5⟩:=cd_parts (K:=K) ht t0
   have l1:=odd_len a4 hs (by omega)
   have l2:=odd_len b4 ht (by omega)
   obtain ⟨g1,g2,g3⟩:=signs s0 t0
   rw [a1,a2,a3,b1,b2,b3]
   generalize hx:(decide (s<0))=sx at *
   generalize hy:(decide (t<0))=sy at *
   have z1:¬ ((Cn (2*m1+1)).length:Int)=0:=by
    intro z
    have:Cn (2*m1+1)=[]:=List.length_eq_zero_iff.1 (by omega)
    have:=Cn_nil.1 this;omega
   have z2:¬ ((Cn (2*m2+1)).length:Int)=0:=by
    intro z
    have:Cn (2*m2+1)=[]:=List.length_eq_zero_iff.1 (by omega)
    have:=Cn_nil.1 this;omega
   obtain ⟨n,hn⟩:∃ n,n=min n1 n2:=⟨_,rfl⟩
   have hmn:mn ((n1:Int) - K) ((n2:Int) - K)=(n:Int) - K:=by unfold mn;split <;> omega
   have w1:wrap64 ((n1:Int) - K - ((n:Int) - K))=((n1 - n:Nat):Int):=by rw [wrap64_id (by omega) (by omega)];omega
   have w2:wrap64 ((n2:Int) - K - ((n:Int) - K))=((n2 - n:Nat):Int):=by rw [wrap64_id (by omega) (by omega)];omega
   -- the values,moved
   have p1:s.natAbs=(2*m1+1)*2^(n1 - n)*2^n:=by rw [a4,Nat.mul_assoc,← Nat.pow_add];congr 2;omega
   have p2:t.natAbs=(2*m2+1)*2^(n2 - n)*2^n:=by rw [b4,Nat.mul_assoc,← Nat.pow_add];congr 2;omega
   have bnd:∀ m k:Nat,∀ u:Int,u.natAbs<2^b→u.natAbs=(2*m+1)*2^k*2^n→k+bl (2*m+1)≤b∧(2*m+1)*2^k<2^b:=by
    intro m k u hu e
    have h1:(2*m+1)*2^k≤u.natAbs:=by rw [e];exact Nat.le_mul_of_pos_right _ (Nat.two_pow_pos n)
    have h2:(2*m+1)*2^k<2^b:=Nat.lt_of_le_of_lt h1 hu
    have h3:=bl_le (n:=2*m+1) (by omega)
    have h4:2^(bl (2*m+1) - 1)*2^k≤(2*m+1)*2^k:=Nat.mul_le_mul_right _ h3
    rw [← Nat.pow_add] at h4
    have h5:=(Nat.pow_lt_pow_iff_right (a:=2) (by decide)).1 (Nat.lt_of_le_of_lt h4 h2)
    have h6:bl (2*m+1)≠0:=fun z=>by have:=bl_zero.1 z;omega
    exact ⟨by omega,h2⟩
   obtain ⟨c1,c1'⟩:=bnd m1 (n1 - n) s hs p1
   obtain ⟨c2,c2'⟩:=bnd m2 (n2 - n) t ht p2
   have S1:=Shift_up (l:=Cn (2*m1+1)) (Cn_wf _) (by rw [V_Cn];omega) (by omega) (n:=n1 - n) (by rw [V_Cn];omega)
   have S2:=Shift_up (l:=Cn (2*m2+1)) (Cn_wf _) (by rw [V_Cn];omega) (by omega) (n:=n2 - n) (by rw [V_Cn];omega)
   rw [V_Cn] at S1 S2
   obtain ⟨k1,f1⟩:=S1
   obtain ⟨k2,f2⟩:=S2
   have fin:∃ k0,∀ k,k0≤k→dyad_Add.j0 k ((n:Int) - K) (Cn ((2*m1+1)*2^(n1 - n))) (Cn ((2*m2+1)*2^(n2 - n))) false sx (Cn (2*m1+1)) ((n1:Int) - K) sy (Cn (2*m2+1)) ((n2:Int) - K)=some (ans (cd K (s+t)) 0):=by
    generalize hP:(2*m1+1)*2^(n1 - n)=P at *
    generalize hQ:(2*m2+1)*2^(n2 - n)=Q at *
    have lP:=Cn_len_pow c1'
    have lQ:=Cn_len_pow c2'
    have eK:((n:Int) - K+K).toNat=n:=by omega
    have small:∀ z:Nat,z≤b / 32+1→z<70368744177000:=by intro z hz;omega
    have lPs:(Cn P).length<70368744177000:=small _ lP
    have lQs:(Cn Q).length<70368744177000:=small _ lQ
    have lP8:(Cn P).length≤8192:=by clear hs ht p1 p2 c1' c2' f1 f2;omega
    have lQ8:(Cn Q).length≤8192:=by clear hs ht p1 p2 c1' c2' f1 f2;omega
    have hpow:2^(b+1)=2*2^b:=by rw [Nat.pow_succ];omega
    have hnn:=Nat.two_pow_pos n
    have fcd:∀ (sg:Bool) (l:List Int) (u:Nat),WF l→l.length<70368744177000→V l=u→u*2^n<2^(b+1)→Evl (fun k=>dyad_form.f k sg l ((n:Int) - K)) (ans (cd K (sgn sg (u*2^n))) 0):=by
     intro sg l u hw hl hv hlt
     have:=form_cd (s:=sg) (E:=(n:Int) - K) (K:=K) (b:=b+1) hw hl (by omega) (by rw [eK,hv];exact hlt) (by omega) (by omega)
     rw [eK,hv] at this;exact this
    by_cases hss:sx=sy
    ·obtain ⟨o,⟨k3,f3⟩,o2,o3,o4⟩:=dsum_eq (Cn_wf P) (Cn_wf Q) lPs lQs
     rw [V_Cn,V_Cn] at o4
     have hlt:(P+Q)*2^n<2^(b+1):=by rw [Nat.add_mul,← p1,← p2,hpow];omega
     obtain ⟨k4,f4⟩:=fcd sx o (P+Q) o3 (by rw [o2];clear hs ht p1 p2 c1' c2' f1 f2 f3 hlt;omega) o4 hlt
     have eu:sgn sx ((P+Q)*2^n)=s+t:=by rw [g1 hss,Nat.add_mul,p1,p2]
     rw [eu] at f4
     refine ⟨max k3 k4+1,fun k hk => ?_⟩
     obtain ⟨j,rfl⟩:∃ j,k=j+1:=⟨k - 1,by omega⟩
     have h3:=f3 j (by omega)
     have h4:=f4 j (by omega)
     dsimp only at h3 h4
     rw [dyad_Add.j0,if_neg (by decide),if_pos (by rw [hss];simp),h3,Option.bind_some,h4,Option.bind_some]
    ·have hne:¬ (sx == sy)=true:=by simpa using hss
     obtain ⟨k3,f3⟩:=Cmp_eq (Cn_wf P) (Cn_wf Q) (by omega) (by omega)
     rw [V_Cn,V_Cn] at f3
     by_cases hc:P<Q
     ·have hle:P≤Q:=by omega
      have S:=Sub_eq (Cn_wf Q) (Cn_wf P) lQs lPs (by rw [V_Cn,V_Cn];exact hle) (by rw [V_Cn];exact lQ8)
      rw [V_Cn,V_Cn] at S
      obtain ⟨k5,f5⟩:=S
      have hlt:(Q - P)*2^n<2^(b+1):=by
       have:(Q - P)*2^n≤Q*2^n:=Nat.mul_le_mul_right _ (Nat.sub_le _ _)
       rw [hpow];omega
      obtain ⟨k4,f4⟩:=fcd sy (Cn (Q - P)) (Q - P) (Cn_wf _) (by
       have:=Cn_length_lt (n:=Q - P) (k:=(Cn Q).length) (Nat.lt_of_le_of_lt (Nat.sub_le _ _) (Cn_length_le (Nat.le_refl _)))
       omega) (V_Cn _) hlt
      have hle2:s.natAbs≤t.natAbs:=by rw [p1,p2];exact Nat.mul_le_mul_right _ hle
      have eu:sgn sy ((Q - P)*2^n)=s+t:=by rw [g3 hss hle2,Nat.sub_mul,p1,p2]
      rw [eu] at f4
      refine ⟨max k3 (max k4 k5)+1,fun k hk => ?_⟩
      obtain ⟨j,rfl⟩:∃ j,k=j+1:=⟨k - 1,by omega⟩
      have h3:=f3 j (by omega)
      have h4:=f4 j (by omega)
      have h5:=f5 j (by omega)
      dsimp only at h3 h4 h5
      rw [dyad_Add.j0,if_neg (by decide),if_neg hne,h3,Option.bind_some,if_pos (cz_neg.2 hc),h5,Option.bind_some]
      dsimp only
      rw [h4,Option.bind_some]
     ·have hle:Q≤P:=by omega
      have S:=Sub_eq (Cn_wf P) (Cn_wf Q) lPs lQs (by rw [V_Cn,V_Cn];exact hle) (by rw [V_Cn];exact lP8)
      rw [V_Cn,V_Cn] at S
      obtain ⟨k5,f5⟩:=S
      have hlt:(P - Q)*2^n<2^(b+1):=by
       have:(P - Q)*2^n≤P*2^n:=Nat.mul_le_mul_right _ (Nat.sub_le _ _)
       rw [hpow];omega
      obtain ⟨k4,f4⟩:=fcd sx (Cn (P - Q)) (P - Q) (Cn_wf _) (by
       have:=Cn_length_lt (n:=P - Q) (k:=(Cn P).length) (Nat.lt_of_le_of_lt (Nat.sub_le _ _) (Cn_length_le (Nat.le_refl _)))
       omega) (V_Cn _) hlt
      have hle2:t.natAbs≤s.natAbs:=by rw [p1,p2];exact Nat.mul_le_mul_right _ hle
      have eu:sgn sx ((P - Q)*2^n)=s+t:=by rw [g2 hss hle2,Nat.sub_mul,p1,p2]
      rw [eu] at f4
      refine ⟨max k3 (max k4 k5)+1,fun k hk => ?_⟩
      obtain ⟨j,rfl⟩:∃ j,k=j+1:=⟨k - 1,by omega⟩
      have h3:=f3 j (by omega)
      have h4:=f4 j (by omega)
      have h5:=f5 j (by omega)
      dsimp only at h3 h4 h5
      rw [dyad_Add.j0,if_neg (by decide),if_neg hne,h3,Option.bind_some,if_neg (fun z=>hc (cz_neg.1 z)),h5,Option.bind_some]
      dsimp only
      rw [h4,Option.bind_some]
   obtain ⟨k6,f6⟩:=fin
   refine ⟨max k1 (max k2 k6),fun k hk => ?_⟩
   have h1:=f1 k (by omega)
   have h2:=f2 k (by omega)
   have h6:=f6 k (by omega)
   dsimp only at h1 h2 ⊢
   rw [if_pos rfl,if_neg z1,if_neg z2,hmn,w1,w2,h1,Option.bind_some,h2,Option.bind_some,if_pos rfl]
   exact h6
theorem cd_neg (K:Nat) {t:Int} (h:t≠0):cd K (-t)=(!(cd K t).1,(cd K t).2.1,(cd K t).2.2):=by
 unfold cd
 rw [if_neg h,if_neg (by omega),Int.natAbs_neg]
 congr 1
 by_cases c:t<0 <;> simp [c] <;> omega
end Go.Proofs.YthimlebkjnajpaaDoor.P02
namespace Go.Proofs.YthimlebkjnajpaaDoorW.EV
open Go Go.RowKit Go.Proofs.YthimlebkjnajpaaDoorW.PrintWords Go.Proofs.YthimlebkjnajpaaDoorW.PrintLast Go.Proofs.YthimlebkjnajpaaDoorW.PrintMore Go.Proofs.YthimlebkjnajpaaDoorW.NA
open Go.Proofs.YthimlebkjnajpaaDoorW.FL
def Lies (k n r:Nat):Prop:=r<9218868437227405312∧U 52 r*2^k≤n∧(n<U 52 (r+1)*2^k∨r+1=9218868437227405312)
def nb (n A M r:Nat):Nat:=if n=A then r else if M<2*n then r+1 else if 2*n=M then (if r%2=1 then r+1 else r) else r
theorem Lies_R {k n r:Nat} (h:Lies k n r):min (R 52 k n) 9218868437227405312=nb n (U 52 r*2^k) ((U 52 r+U 52 (r+1))*2^k) r:=by
 unfold nb
 obtain ⟨h1,h2,h3⟩:=h
 obtain ⟨q,g1,g2,g3⟩:=R_spec 52 k n (by decide)
 have hp:=two_pow_pos k
 have hU:U 52 r<U 52 (r+1):=U_lt (Nat.lt_succ_self r)
 have hUk:U 52 r*2^k<U 52 (r+1)*2^k:=Nat.mul_lt_mul_of_pos_right hU hp
 have hrq:r≤q:=by
  have a:U 52 r*2^k<U 52 (q+1)*2^k:=Nat.lt_of_le_of_lt h2 g2
  have b:U 52 r<U 52 (q+1):=Nat.lt_of_mul_lt_mul_right a
  have:=U_lt_iff.1 b;omega
 by_cases c:q=r
 ·subst c
  rw [g3]
  have e:(U 52 q+U 52 (q+1))*2^k=U 52 q*2^k+U 52 (q+1)*2^k:=Nat.add_mul ..
  rw [e]
  generalize U 52 q*2^k=A at *
  generalize U 52 (q+1)*2^k=B at *
  clear e g3 hp hU h3
  by_cases c1:n=A
  ·rw [if_pos c1,if_neg (by omega)];omega
  ·rw [if_neg c1]
   by_cases c2:A+B<2*n
   ·rw [if_pos c2,if_pos (Or.inl c2)];omega
   ·rw [if_neg c2]
    by_cases c3:2*n=A+B
    ·rw [if_pos c3]
     by_cases c4:q%2=1
     ·rw [if_pos c4,if_pos (Or.inr ⟨c3.symm,c4⟩)];omega
     ·rw [if_neg c4,if_neg (by omega)];omega
    ·rw [if_neg c3,if_neg (by omega)];omega
 ·-- above all numbers
  have hq:r+1≤q:=by omega
  have hn:U 52 (r+1)*2^k≤n:=Nat.le_trans (Nat.mul_le_mul_right _ (U_le hq)) g1
  have hr:r+1=9218868437227405312:=by
   rcases h3 with h3 | h3
   ·omega
   ·exact h3
  have hR:q≤R 52 k n:=by rw [g3];exact Nat.le_add_right _ _
  have e:(U 52 r+U 52 (r+1))*2^k=U 52 r*2^k+U 52 (r+1)*2^k:=Nat.add_mul ..
  rw [e]
  generalize U 52 r*2^k=A at *
  generalize U 52 (r+1)*2^k=B at *
  clear e g3 hp hU g1 g2
  rw [if_neg (by omega),if_pos (by omega)];omega
def rmode (mode:Int) (s:Bool) (n A M r:Nat):Nat :=
 if n=A then r else if mode=0 then nb n A M r else if mode=4 then (if M≤2*n then r+1 else r) else if mode=2 then (if s then r else r+1) else if mode=3 then (if s then r+1 else r) else r
theorem U_norm {N q:Nat} (h:N≤9007199254740992) (hq:q=0∨4503599627370496≤N):U 52 (N+q*4503599627370496)=N*2^q:=by
 by_cases hN:N=9007199254740992
 ·subst hN
  rw [show 9007199254740992+q*4503599627370496=(q+1)*2^52+4503599627370496 by omega,U_parts (by decide) (by decide),Nat.pow_succ]
  omega
 ·rcases hq with hq | hq
  ·subst hq;rw [Nat.zero_mul,Nat.add_zero,Nat.pow_zero,Nat.mul_one];exact U_small (show N<2^53 by omega)
  ·rw [Nat.add_comm];exact U_parts (p:=52) hq (show N<2^53 by omega)
def pinf:Nat:=2046
theorem pinf_eq:pinf=2046:=rfl
theorem U_inf:U 52 9218868437227405312=4503599627370496*2^pinf:=by
 have h:=U_norm (N:=4503599627370496) (q:=pinf) (by decide) (Or.inr (by decide))
 rw [← h,pinf_eq]
theorem nb_top {n A M r:Nat} (h:M<2*n) (hA:n≠A):nb n A M r=r+1:=by unfold nb;rw [if_neg hA,if_pos h]
end Go.Proofs.YthimlebkjnajpaaDoorW.EV
namespace Go.Proofs.YthimlebkjnajpaaDoor.P02
open Go Go.RowKit Go.Proofs.YthimlebkjnajpaaDoor.Pr Go.Proofs.YthimlebkjnajpaaDoorW.PrintWords Go.Proofs.YthimlebkjnajpaaDoorW.PrintLast Go.Proofs.YthimlebkjnajpaaDoorW.PrintMore Go.Proofs.YthimlebkjnajpaaDoorW.NA Go.Proofs.YthimlebkjnajpaaDoorW.EV
open Go.Proofs.YthimlebkjnajpaaDoorW.FL (wrap64_id wrap_u64 wraps_u64 u64_and1 u64_join log2_eq two_pow_log2_le lt_two_pow_log2 sgn sgn_natAbs sgn_of U U_le U_lt U_succ)
set_option linter.unusedVariables false
set_option linter.unusedSimpArgs false
theorem mx_eq (a b:Int):mx a b=max a b:=by unfold mx;split <;> omega
theorem beyond_eq {s:Bool} {mode:Int} (h0:0≤mode) (h4:mode≤4) {n A M:Nat} (hA:n≠A) (hM:M<2*n) :
  dyad_grid_beyond.f 53 (-1074) 9218868437227405312 s mode=some ((rmode mode s n A M 9218868437227405311:Nat):Int):=by
 have w:IntKind.u64.wrap (9218868437227405312 - 1)=9218868437227405311:=by decide +kernel
 unfold dyad_grid_beyond.f rmode
 rw [w,if_neg hA]
 have:mode=0∨mode=1∨mode=2∨mode=3∨mode=4:=by omega
 rcases this with rfl | rfl | rfl | rfl | rfl
 ·rw [if_neg (by decide),if_neg (by decide),if_neg (by decide),if_pos rfl,nb_top hM hA];rfl
 ·rw [if_pos rfl,if_neg (by decide),if_neg (by decide),if_neg (by decide),if_neg (by decide)];rfl
 ·cases s <;> simp
 ·cases s <;> simp
 ·rw [if_neg (by decide),if_neg (by decide),if_neg (by decide),if_neg (by decide),if_pos rfl,if_pos (by omega)];rfl
theorem shl52 {q:Nat} (hq:q≤2046):shl .u64 (IntKind.u64.wrap (q:Int)) 52=((q*4503599627370496:Nat):Int):=by
 have hm:min (Int.toNat 52) (IntKind.bits .u64)=52:=by decide
 unfold shl
 rw [w64 (by omega),hm,show (2:Int)^52=4503599627370496 by decide,show (q:Int)*4503599627370496=((q*4503599627370496:Nat):Int) by omega,w64 (by omega)]
theorem addq0 {N q:Nat} (hN:N<9007199254740992) (hq:q≤2046):IntKind.u64.wrap ((N:Int)+((q*4503599627370496:Nat):Int))=((N+q*4503599627370496:Nat):Int):=by rw [wrap_u64];omega
theorem addq1 {N q:Nat} (hN:N<9007199254740992) (hq:q≤2046):IntKind.u64.wrap (IntKind.u64.wrap ((N:Int)+1)+((q*4503599627370496:Nat):Int))=((N+q*4503599627370496+1:Nat):Int):=by rw [wrap_u64,wrap_u64];omega
theorem w53:wrap64 ((53:Int) - 1)=52:=by decide +kernel
theorem wq {q:Nat} (hq:q≤2046):wrap64 ((q:Int) - 1074 - -1074)=(q:Int):=by rw [wrap64_id (by omega) (by omega)];omega
theorem on_end {k:Nat} {mode exp cut:Int} {N q:Nat} {s:Bool} {l:List Int} {e:Int} (hN:N<9007199254740992) (hq:q≤2046) (he:exp=(q:Int) - 1074) (up:Bool)
  (hup:if cut>0 then ∃ c,wide_Bit.f l (wrap64 (cut - 1))=some c∧dyad_away.f mode s (N:Int) c (cut == 1)=some up else up=false) :
  dyad_grid_on.j0 (k+1) mode exp cut (N:Int) 53 (-1074) 9218868437227405312 s l e=some ((if up then N+q*4503599627370496+1 else N+q*4503599627370496:Nat):Int):=by
 subst he
 rw [dyad_grid_on.j0,w53,wq hq,shl52 hq]
 by_cases hc:cut>0
 ·rw [if_pos hc] at hup
  obtain ⟨c,h1,h2⟩:=hup
  rw [if_pos hc,h1,Option.bind_some,h2,Option.bind_some]
  cases up
  ·rw [if_neg (by decide),if_pos (by decide),addq0 hN hq,if_neg (by decide)]
  ·rw [if_pos rfl,if_pos (by decide),addq1 hN hq,if_pos rfl]
 ·rw [if_neg hc] at hup ⊢
  subst hup
  rw [if_pos (by decide),addq0 hN hq,if_neg (by decide)]
theorem away_eq {s:Bool} {mode:Int} (h0:0≤mode) (h4:mode≤4) {M N rem c q P:Nat} (hc:0<c) (hM:2*M+1=N*2^c+rem) (hr:rem<2^c) (hN:N<9007199254740992) (hP:0<P) :
  dyad_away.f mode s (N:Int) ((2*M+1).testBit (c - 1)) ((c:Int) == 1)=some (decide (rmode mode s ((2*M+1)*P) (N*2^c*P) ((2*N+1)*2^c*P) (N+q*4503599627370496)=N+q*4503599627370496+1)):=by
 obtain ⟨c,rfl⟩:∃ d,c=d+1:=⟨c - 1,by omega⟩
 have hp:=Nat.two_pow_pos c
 have e2:2^(c+1)=2*2^c:=by rw [Nat.pow_succ];omega
 have hodd:rem%2=1:=by
  rw [e2] at hM
  have:N*(2*2^c)=2*(N*2^c):=by rw [Nat.mul_left_comm]
  omega
 have hbit:(2*M+1).testBit (c+1 - 1)=decide (2^c≤rem):=by
  rw [Nat.testBit_eq_decide_div_mod_eq,hM,Nat.add_sub_cancel]
  have:(N*2^(c+1)+rem) / 2^c=2*N+rem / 2^c:=by
   rw [e2,show N*(2*2^c)+rem=rem+2^c*(2*N) by grind,Nat.add_mul_div_left _ _ hp,Nat.add_comm]
  rw [this]
  by_cases h:2^c≤rem
  ·have:rem / 2^c=1:=by
    apply Nat.div_eq_of_lt_le <;> omega
   rw [this];simp [h]
  ·rw [Nat.div_eq_of_lt (by omega)];simp [h]
 have hone:(((c+1:Nat):Int) == 1)=decide (c=0):=by
  rw [Bool.eq_iff_iff,beq_iff_eq,decide_eq_true_eq];omega
 have hA:(2*M+1)*P≠N*2^(c+1)*P:=by
  intro z
  have:=Nat.eq_of_mul_eq_mul_right hP z
  omega
 have hcmp1:(2*N+1)*2^(c+1)*P<2*((2*M+1)*P)↔2^c<rem:=by
  rw [← Nat.mul_assoc,Nat.mul_lt_mul_right hP,hM,e2]
  have:(2*N+1)*(2*2^c)=2*(N*(2*2^c))+2*2^c:=by grind
  omega
 have hcmp2:(2*N+1)*2^(c+1)*P≤2*((2*M+1)*P)↔2^c≤rem:=by
  rw [← Nat.mul_assoc,Nat.mul_le_mul_right_iff hP,hM,e2]
  have:(2*N+1)*(2*2^c)=2*(N*(2*2^c))+2*2^c:=by grind
  omega
 have hpar:(N+q*4503599627370496)%2=N%2:=by omega
 have hand:(Go.bits .and .u64 (N:Int) 1 == 1)=decide (N%2=1):=by
  rw [u64_and1 (by omega) (by omega),Bool.eq_iff_iff,beq_iff_eq,decide_eq_true_eq];omega
 have hhalf:2^c=rem→c=0:=by
  intro h
  rcases c with _ | c
  ·rfl
  ·rw [Nat.pow_succ] at h;omega
 have hzero:c=0→2^c≤rem→2^c=rem:=by
  intro h1 h2;subst h1;simp at e2 h2 ⊢;omega
 rw [hbit,hone]
 unfold dyad_away.f rmode
 rw [if_neg hA]
 generalize hR:N+q*4503599627370496=r at *
 have:mode=0∨mode=1∨mode=2∨mode=3∨mode=4:=by omega
 rcases this with rfl | rfl | rfl | rfl | rfl
 ·rw [if_pos rfl,if_pos rfl]
  unfold nb
  rw [if_neg hA,hand]
  by_cases h1:2^c≤rem
  ·rw [if_pos (by simpa using h1)]
   by_cases h2:c=0
   ·have h3:=hzero h2 h1
    have h5:¬ (2*N+1)*2^(c+1)*P<2*((2*M+1)*P):=fun z=>by have:=hcmp1.1 z;omega
    have h6:2*((2*M+1)*P)=(2*N+1)*2^(c+1)*P:=Nat.le_antisymm (Nat.not_lt.1 h5) (hcmp2.2 h1)
    rw [if_pos (by simpa using h2),if_neg h5,if_pos h6]
    congr 1
    rw [← hpar]
    by_cases h6:r%2=1 <;> simp [h6]
   ·have h3:2^c<rem:=Nat.lt_of_le_of_ne h1 (fun z=>h2 (hhalf z))
    rw [if_neg (by simpa using h2),if_pos (hcmp1.2 h3)];simp
  ·rw [if_neg (by simpa using h1),if_neg (fun z=>h1 (Nat.le_of_lt (hcmp1.1 z))),if_neg (fun z=>h1 (hcmp2.1 (by omega)))];simp
 ·rw [if_neg (by decide),if_neg (by decide),if_neg (by decide),if_neg (by decide),if_neg (by decide),if_neg (by decide),if_neg (by decide),if_neg (by decide)];simp
 ·cases s <;> simp
 ·cases s <;> simp
 ·rw [if_neg (by decide),if_pos rfl,if_neg (by decide),if_pos rfl]
  by_cases h1:2^c≤rem
  ·rw [if_pos (hcmp2.2 h1)];simp [h1]
  ·rw [if_neg (fun z=>h1 (hcmp2.1 z))];simp [h1]
theorem rmode_two {mode:Int} {s:Bool} {n A M r:Nat}:rmode mode s n A M r=r∨rmode mode s n A M r=r+1:=by
 unfold rmode nb;(repeat' split) <;> first | exact Or.inl rfl | exact Or.inr rfl
theorem on_eq {m n b K:Nat} {s:Bool} {mode:Int} (h0:0≤mode) (h4:mode≤4) (hb:(2*m+1)*2^n<2^b) (hKb:K+b≤200000) (hK:1074≤K) :
  ∃ r,Lies (K - 1074) ((2*m+1)*2^n) r∧Evl (fun k=>dyad_grid_on.f k 53 (-1074) 9218868437227405312 s (Cn (2*m+1)) ((n:Int) - K) mode) ((rmode mode s ((2*m+1)*2^n) (U 52 r*2^(K - 1074)) ((U 52 r+U 52 (r+1))*2^(K - 1074)) r:Nat):Int):=by
 obtain ⟨L,hL⟩:∃ L,L=bl (2*m+1):=⟨_,rfl⟩
 have hL0:L≠0:=fun z=>by have:=bl_zero.1 (hL.symm.trans z);omega
 have hlo:=bl_le (n:=2*m+1) (by omega)
 have hhi:=bl_lt (2*m+1)
 rw [← hL] at hlo hhi
 have hLn:L+n≤b:=by
  have h1:2^(L - 1)*2^n≤(2*m+1)*2^n:=Nat.mul_le_mul_right _ hlo
  rw [← Nat.pow_add] at h1
  have:=(Nat.pow_lt_pow_iff_right (a:=2) (by decide)).1 (Nat.lt_of_le_of_lt h1 hb)
  omega
 have hlenb:=odd_len (x:=(2*m+1)*2^n) (m:=m) (n:=n) rfl hb (by omega)
 obtain ⟨k1,f1⟩:=Len_eq (Cn_wf (2*m+1)) (by omega)
 rw [V_Cn,← hL] at f1
 obtain ⟨kk,hkk⟩:∃ kk,kk=K - 1074:=⟨_,rfl⟩
 rw [← hkk]
 -- the constants
 have c0:wrap64 ((53:Int) - 1)=52:=by decide +kernel
 have c1:wrap64 ((wrap64 ((wrap64 ((wrap64 ((-1074:Int)+(wrap64 (shr .u64 9218868437227405312 52)))) - 1))+53)) - 1)=1024:=by decide +kernel
 have w1:wrap64 ((L:Int)+((n:Int) - K))=(L:Int)+n - K:=by rw [wrap64_id (by omega) (by omega)];omega
 have w2:wrap64 ((L:Int)+n - K - 53)=(L:Int)+n - K - 53:=wrap64_id (by omega) (by omega)
 by_cases big:(L:Int)+n - K>1024
 ·-- beyond
  have hn:4503599627370496*2^pinf*2^kk≤(2*m+1)*2^n:=by
   have e1:4503599627370496*2^pinf*2^kk=2^(52+pinf+kk):=by rw [Nat.pow_add,Nat.pow_add]
   have hpi:=pinf_eq
   have e2:2^(52+pinf+kk)≤2^(L - 1+n):=Nat.pow_le_pow_right (by decide) (by clear e1 hb hlo hhi;omega)
   have e3:2^(L - 1+n)≤(2*m+1)*2^n:=by rw [Nat.pow_add];exact Nat.mul_le_mul_right _ hlo
   rw [e1];exact Nat.le_trans e2 e3
  have hUi:=U_inf
  have hU:U 52 9218868437227405311<U 52 9218868437227405312:=U_lt (by decide)
  have hUk:U 52 9218868437227405311*2^kk<U 52 9218868437227405312*2^kk:=Nat.mul_lt_mul_of_pos_right hU (Nat.two_pow_pos _)
  rw [← hUi] at hn
  have hM:(U 52 9218868437227405311+U 52 (9218868437227405311+1))*2^kk<2*((2*m+1)*2^n):=by
   rw [show (9218868437227405311:Nat)+1=9218868437227405312 from rfl,Nat.add_mul];omega
  refine ⟨9218868437227405311,⟨by decide,by omega,Or.inr rfl⟩,k1,fun k hk => ?_⟩
  have hb:=beyond_eq (s:=s) h0 h4 (n:=(2*m+1)*2^n) (A:=U 52 9218868437227405311*2^kk) (M:=(U 52 9218868437227405311+U 52 (9218868437227405311+1))*2^kk) (by omega) hM
  show dyad_grid_on.f k 53 (-1074) 9218868437227405312 s (Cn (2*m+1)) ((n:Int) - K) mode=_
  unfold dyad_grid_on.f
  have g1:=f1 k hk
  dsimp only at g1
  rw [g1,Option.bind_some,if_neg (by omega),c0,if_pos (by decide),c1,w1,if_pos big,hb,Option.bind_some]
 ·obtain ⟨q,hq⟩:∃ q:Nat,(q:Int)=max ((L:Int)+n - K - 53) (-1074)+1074:=⟨(max ((L:Int)+n - K - 53) (-1074)+1074).toNat,by omega⟩
  have hq2:q≤2046:=by omega
  have hmx:mx ((L:Int)+n - K - 53) (-1074)=(q:Int) - 1074:=by rw [mx_eq];omega
  have w3:wrap64 ((q:Int) - 1074 - ((n:Int) - K))=(q:Int) - 1074 - ((n:Int) - K):=wrap64_id (by omega) (by omega)
  by_cases hcut:(q:Int) - 1074 - ((n:Int) - K)≤0
  ·-- nothing is cut off
   obtain ⟨c,hc⟩:∃ c:Nat,(c:Int) = -((q:Int) - 1074 - ((n:Int) - K)):=⟨(-((q:Int) - 1074 - ((n:Int) - K))).toNat,by omega⟩
   have hLc:L+c≤53:=by omega
   have hNlt:(2*m+1)*2^c<9007199254740992:=by
    have h1:(2*m+1)*2^c<2^L*2^c:=Nat.mul_lt_mul_of_pos_right hhi (Nat.two_pow_pos _)
    rw [← Nat.pow_add] at h1
    exact Nat.lt_of_lt_of_le h1 (Nat.pow_le_pow_right (n:=2) (by decide) hLc)
   have hNge:q=0∨4503599627370496≤(2*m+1)*2^c:=by
    by_cases hq0:q=0
    ·exact Or.inl hq0
    ·right
     have h1:2^(L - 1)*2^c≤(2*m+1)*2^c:=Nat.mul_le_mul_right _ hlo
     rw [← Nat.pow_add,show L - 1+c=52 by omega] at h1
     exact h1
   have hsmall:2*m+1<18446744073709551616:=by
    have:2*m+1≤(2*m+1)*2^c:=Nat.le_mul_of_pos_right _ (Nat.two_pow_pos _)
    omega
   obtain ⟨k2,f2⟩:=Small_eq (Cn_wf (2*m+1)) (by omega)
   rw [V_Cn,if_pos hsmall,if_pos hsmall] at f2
   have hU:=U_norm (N:=(2*m+1)*2^c) (q:=q) (by omega) hNge
   have hU1:=U_norm (N:=(2*m+1)*2^c+1) (q:=q) (by omega) (hNge.imp id (by omega))
   have hA:U 52 ((2*m+1)*2^c+q*4503599627370496)*2^kk=(2*m+1)*2^n:=by
    rw [hU,Nat.mul_assoc,Nat.mul_assoc,← Nat.pow_add,← Nat.pow_add];congr 2;omega
   have wc:wrap64 (-((q:Int) - 1074 - ((n:Int) - K)))=(c:Int):=by rw [← hc];exact wrapn (by omega)
   have hshl:shl .u64 ((2*m+1:Nat):Int) (c:Int)=(((2*m+1)*2^c:Nat):Int):=by
    by_cases c32:c≤32
    ·rw [shl_nat .u64 (by decide) _ c c32,w64 (by omega)]
    ·unfold shl
     rw [Int.toNat_natCast,show min c (IntKind.bits .u64)=c from Nat.min_eq_left (by show c≤64;omega)]
     have:((2*m+1:Nat):Int)*2^c=(((2*m+1)*2^c:Nat):Int):=by rw [Int.natCast_mul,Int.natCast_pow];rfl
     rw [this,w64 (by omega)]
   have hr:(2*m+1)*2^c+q*4503599627370496<9218868437227405312:=by omega
   refine ⟨(2*m+1)*2^c+q*4503599627370496,⟨hr,by omega,Or.inl ?_⟩,max k1 k2+1,fun k hk => ?_⟩
   ·rw [← hA];exact Nat.mul_lt_mul_of_pos_right (U_lt (Nat.lt_succ_self _)) (Nat.two_pow_pos _)
   ·obtain ⟨j,rfl⟩:∃ j,k=j+1:=⟨k - 1,by omega⟩
    show dyad_grid_on.f (j+1) 53 (-1074) 9218868437227405312 s (Cn (2*m+1)) ((n:Int) - K) mode=_
    have hend:=on_end (k:=j) (mode:=mode) (exp:=(q:Int) - 1074) (cut:=(q:Int) - 1074 - ((n:Int) - K)) (s:=s) (l:=Cn (2*m+1)) (e:=(n:Int) - K) hNlt hq2 rfl false (by rw [if_neg (by omega)])
    have hrm:rmode mode s ((2*m+1)*2^n) (U 52 ((2*m+1)*2^c+q*4503599627370496)*2^kk) ((U 52 ((2*m+1)*2^c+q*4503599627370496)+U 52 ((2*m+1)*2^c+q*4503599627370496+1))*2^kk) ((2*m+1)*2^c+q*4503599627370496)=(2*m+1)*2^c+q*4503599627370496:=by
     unfold rmode;rw [if_pos hA.symm]
    rw [if_neg (by decide)] at hend
    rw [hrm]
    unfold dyad_grid_on.f
    have g1:=f1 (j+1) (by omega)
    have g2:=f2 (j+1) (by omega)
    dsimp only at g1 g2
    rw [g1,Option.bind_some,if_neg (by omega),c0,if_pos (by decide),c1,w1,if_neg big,w2,hmx,w3,if_pos hcut,g2,Option.bind_some,wc,if_pos (Int.natCast_nonneg _),hshl,hend]
  ·-- something is cut off
   obtain ⟨c,hc⟩:∃ c:Nat,(c:Int)=(q:Int) - 1074 - ((n:Int) - K):=⟨((q:Int) - 1074 - ((n:Int) - K)).toNat,by omega⟩
   have hc0:0<c:=by omega
   have hLc:L≤53+c:=by omega
   have hp:=Nat.two_pow_pos c
   obtain ⟨N,hN⟩:∃ N,N=(2*m+1) / 2^c:=⟨_,rfl⟩
   obtain ⟨rem,hrem⟩:∃ rem,rem=(2*m+1)%2^c:=⟨_,rfl⟩
   have hdm:2*m+1=N*2^c+rem:=by rw [hN,hrem,Nat.mul_comm ((2*m+1) / 2^c)];exact (Nat.div_add_mod _ _).symm
   have hrlt:rem<2^c:=by rw [hrem];exact Nat.mod_lt _ hp
   have hNlt:N<9007199254740992:=by
    rw [hN]
    apply Nat.div_lt_of_lt_mul
    have h1:2^L≤2^(c+53):=Nat.pow_le_pow_right (by decide) (by omega)
    rw [Nat.pow_add] at h1
    exact Nat.lt_of_lt_of_le hhi h1
   have hNge:q=0∨4503599627370496≤N:=by
    by_cases hq0:q=0
    ·exact Or.inl hq0
    ·right
     rw [hN,Nat.le_div_iff_mul_le hp]
     have h1:2^(52+c)≤2^(L - 1):=Nat.pow_le_pow_right (by decide) (by omega)
     rw [Nat.pow_add] at h1
     exact Nat.le_trans h1 hlo
   have hU:=U_norm (N:=N) (q:=q) (by omega) hNge
   have hU1:=U_norm (N:=N+1) (q:=q) (by omega) (hNge.imp id (by omega))
   have hqk:q+kk=c+n:=by omega
   have hpn:=Nat.two_pow_pos n
   have hA:U 52 (N+q*4503599627370496)*2^kk=N*2^c*2^n:=by
    rw [hU,Nat.mul_assoc,Nat.mul_assoc,← Nat.pow_add,← Nat.pow_add,hqk]
   have hB:U 52 (N+q*4503599627370496+1)*2^kk=(N+1)*2^c*2^n:=by
    rw [show N+q*4503599627370496+1=N+1+q*4503599627370496 by omega,hU1,Nat.mul_assoc,Nat.mul_assoc,← Nat.pow_add,← Nat.pow_add,hqk]
   have hM:(U 52 (N+q*4503599627370496)+U 52 (N+q*4503599627370496+1))*2^kk=(2*N+1)*2^c*2^n:=by
    rw [Nat.add_mul,hA,hB];grind
   have hS:=Shift_down (l:=Cn (2*m+1)) (Cn_wf _) (by rw [V_Cn];omega) (by omega) hc0 (by omega)
   rw [V_Cn,← hN] at hS
   obtain ⟨k2,f2⟩:=hS
   have hcl:(Cn N).length<4611686018427387904:=by
    have:=Cn_length_lt (n:=N) (k:=2) (by omega)
    omega
   obtain ⟨k3,f3⟩:=Small_eq (Cn_wf N) hcl
   rw [V_Cn,if_pos (by omega),if_pos (by omega)] at f3
   have hbit:=Bit_eq (Cn_wf (2*m+1)) (i:=c - 1) (by omega)
   rw [V_Cn] at hbit
   have haw:=away_eq (s:=s) h0 h4 (M:=m) (N:=N) (rem:=rem) (c:=c) (q:=q) (P:=2^n) hc0 hdm hrlt hNlt hpn
   have hr:N+q*4503599627370496<9218868437227405312:=by omega
   refine ⟨N+q*4503599627370496,⟨hr,?_,Or.inl ?_⟩,max k1 (max k2 k3)+1,fun k hk => ?_⟩
   ·rw [hA,hdm,Nat.add_mul];omega
   ·rw [hB,hdm]
    apply Nat.mul_lt_mul_of_pos_right _ hpn
    rw [Nat.succ_mul];omega
   ·obtain ⟨j,rfl⟩:∃ j,k=j+1:=⟨k - 1,by omega⟩
    show dyad_grid_on.f (j+1) 53 (-1074) 9218868437227405312 s (Cn (2*m+1)) ((n:Int) - K) mode=_
    rw [hA,hM]
    have hwc:wrap64 ((c:Int) - 1)=((c - 1:Nat):Int):=by rw [wrap64_id (by omega) (by omega)];omega
    have hwn:wrap64 (-(c:Int)) = -(c:Int):=wrap64_id (by omega) (by omega)
    have hend:=on_end (k:=j) (mode:=mode) (exp:=(q:Int) - 1074) (cut:=(c:Int)) (s:=s) (l:=Cn (2*m+1)) (e:=(n:Int) - K) hNlt hq2 rfl _ (by rw [if_pos (by omega),hwc];exact ⟨_,hbit,haw⟩)
    have hrt:=rmode_two (mode:=mode) (s:=s) (n:=(2*m+1)*2^n) (A:=N*2^c*2^n) (M:=(2*N+1)*2^c*2^n) (r:=N+q*4503599627370496)
    unfold dyad_grid_on.f
    have g1:=f1 (j+1) (by omega)
    have g2:=f2 (j+1) (by omega)
    have g3:=f3 (j+1) (by omega)
    dsimp only at g1 g2 g3
    rw [g1,Option.bind_some,if_neg (by omega),c0,if_pos (by decide),c1,w1,if_neg big,w2,hmx,w3,if_neg hcut,← hc,hwn,g2,Option.bind_some]
    dsimp only
    rw [g3,Option.bind_some,hend]
    congr 2
    generalize rmode mode s ((2*m+1)*2^n) (N*2^c*2^n) ((2*N+1)*2^c*2^n) (N+q*4503599627370496)=z at hrt ⊢
    rcases hrt with h | h
    ·subst h;rw [if_neg (by simp)]
    ·subst h;rw [if_pos (by simp)]
end Go.Proofs.YthimlebkjnajpaaDoor.P02
namespace Go.Proofs.YthimlebkjnajpaaDoorW.RN
set_option linter.unusedVariables false
def Nm (t:Int):Prop:=∃ (m:Int) (e:Nat),t=m*2^e∧m.natAbs≤9007199254740992
def Rd (t r:Int):Prop:=Nm r∧∀ s,Nm s→(t - r).natAbs≤(t - s).natAbs

theorem p2 (n:Nat):(0:Int)<2^n:=Int.pow_pos (by decide)
theorem p2a (n:Nat):((2:Int)^n).natAbs=2^n:=by rw [Int.natAbs_pow];rfl
theorem p2n (n:Nat):(((2:Nat)^n:Nat):Int)=(2:Int)^n:=by simp
theorem p2s {a b:Nat} (h:a≤b):∃ K:Int,0<K∧(2:Int)^b=K*2^a:=⟨2^(b - a),p2 _,by rw [← Int.pow_add,Nat.sub_add_cancel h]⟩
theorem p2m {a b:Nat} (h:a≤b):(2:Int)^a≤2^b:=by
 obtain ⟨K,hK,e⟩:=p2s h
 rw [e]
 have:=Int.mul_le_mul_of_nonneg_right (show 1≤K by omega) (Int.le_of_lt (p2 a))
 omega
theorem p53 (g:Nat):(2:Int)^(53+g)=9007199254740992*2^g:=by rw [Int.pow_add];rfl
theorem p52 (g:Nat):(2:Int)^(52+g)=4503599627370496*2^g:=by rw [Int.pow_add];rfl

theorem abs_le {x c G:Int} (hG:0<G) (h:x.natAbs≤c):(x*G).natAbs≤c*G:=by
 have h1:=Int.mul_le_mul_of_nonneg_right (show x≤c by omega) (Int.le_of_lt hG)
 have h2:=Int.mul_le_mul_of_nonneg_right (show -c≤x by omega) (Int.le_of_lt hG)
 rw [Int.neg_mul] at h2
 omega
theorem abs_ge {x c G:Int} (hG:0<G) (h:c*G≤(x*G).natAbs):c≤x.natAbs:=by
 refine Int.le_of_mul_le_mul_right (a:=G) ?_ hG
 have e:(x.natAbs:Int)*G=((x*G).natAbs:Int):=by
  rw [Int.natAbs_mul,Int.natCast_mul,Int.natAbs_of_nonneg (Int.le_of_lt hG)]
 rw [e];exact h
theorem abs_of {x c G:Int} (hG:0<G) (h:(x*G).natAbs≤c*G):x.natAbs≤c:=by
 refine Int.le_of_mul_le_mul_right (a:=G) ?_ hG
 have e:(x.natAbs:Int)*G=((x*G).natAbs:Int):=by
  rw [Int.natAbs_mul,Int.natCast_mul,Int.natAbs_of_nonneg (Int.le_of_lt hG)]
 rw [e];exact h
theorem nm_mul {x:Int} (e:Nat) (h:x.natAbs≤9007199254740992):Nm (x*2^e):=⟨x,e,rfl,h⟩
theorem nm_small {x:Int} (h:x.natAbs≤9007199254740992):Nm x:=⟨x,0,by omega,h⟩
theorem nm_zero:Nm 0:=nm_small (by decide)
theorem nm_pow (e:Nat):Nm (2^e):=⟨1,e,by omega,by decide⟩
theorem nm_neg {a:Int} (h:Nm a):Nm (-a):=by
 obtain ⟨m,e,rfl,hm⟩:=h
 exact ⟨-m,e,(Int.neg_mul _ _).symm,by omega⟩
theorem nm_of {a:Int} {g:Nat} {x:Int} (h:a=x*2^g) (ha:(a.natAbs:Int)≤2^(53+g)):Nm a:=by
 subst h
 rw [p53] at ha
 have:=abs_of (p2 g) ha
 exact nm_mul g (by omega)
theorem nm_dvd {a:Int} {g:Nat} (h:Nm a) (hg:(2:Int)^(52+g)≤a.natAbs):∃ x,a=x*2^g:=by
 obtain ⟨m,f,rfl,hm⟩:=h
 by_cases c:g≤f
 ·obtain ⟨K,_,e⟩:=p2s c
  exact ⟨m*K,by rw [e,Int.mul_assoc]⟩
 ·obtain ⟨K,hK,e⟩:=p2s (show f+1≤g by omega)
  rw [p52,e,Int.pow_succ] at hg
  have e2:(4503599627370496:Int)*(K*(2^f*2))=(9007199254740992*K)*2^f:=by
   rw [Int.mul_comm ((2:Int)^f) 2,← Int.mul_assoc K,← Int.mul_assoc,show (4503599627370496:Int)*(K*2)=9007199254740992*K by omega]
  rw [e2] at hg
  have:=abs_ge (p2 f) hg
  have hK1:K=1:=by omega
  subst hK1
  rw [e,Int.pow_succ]
  by_cases s:0≤m
  ·refine ⟨4503599627370496,?_⟩
   rw [show m=9007199254740992 by omega];generalize (2:Int)^f=F;omega
  ·refine ⟨-4503599627370496,?_⟩
   rw [show m = -9007199254740992 by omega];generalize (2:Int)^f=F;omega

theorem rd_exact {t r:Int} (h:Nm t) (hr:Rd t r):r=t:=by have:=hr.2 t h;omega
theorem rd_self {t:Int} (h:Nm t):Rd t t:=⟨h,fun s _=>by omega⟩
theorem rd_le {t r s:Int} (hr:Rd t r) (hs:Nm s) (h:t≤s):r≤s:=by have:=hr.2 s hs;omega
theorem rd_ge {t r s:Int} (hr:Rd t r) (hs:Nm s) (h:s≤t):s≤r:=by have:=hr.2 s hs;omega
theorem rd_neg {t r:Int} (hr:Rd t r):Rd (-t) (-r) :=
 ⟨nm_neg hr.1,fun s hs=>by have:=hr.2 (-s) (nm_neg hs);omega⟩
theorem rd_abs_ge {t r s:Int} (hr:Rd t r) (hs:Nm s) (h:s.natAbs≤t.natAbs):s.natAbs≤r.natAbs:=by
 have h1:=hr.2 s hs
 have h2:=hr.2 (-s) (nm_neg hs)
 omega
theorem rd_abs_le {t r s:Int} (hr:Rd t r) (hs:Nm s) (h:t.natAbs≤s.natAbs):r.natAbs≤s.natAbs:=by
 have h1:=hr.2 s hs
 have h2:=hr.2 (-s) (nm_neg hs)
 omega
theorem rd_err {t r:Int} (g:Nat) (hr:Rd t r) (h:(t.natAbs:Int)≤2^(53+g)):2*((t - r).natAbs:Int)≤2^g:=by
 rw [p53] at h
 have hdm:=Int.mul_ediv_add_emod t (2^g)
 have hm0:=Int.emod_nonneg t (Int.ne_of_gt (p2 g))
 have hm1:=Int.emod_lt_of_pos t (p2 g)
 rw [Int.mul_comm] at hdm
 generalize t / 2^g=q at hdm
 generalize t%2^g=z at hdm hm0 hm1
 by_cases c:2*z≤2^g
 ·have hq:q.natAbs≤9007199254740992:=by
   have h1:q≤9007199254740992:=by
    refine Int.le_of_mul_le_mul_right (a:=2^g) ?_ (p2 g);omega
   have h2 : -9007199254740993<q:=by
    refine Int.lt_of_mul_lt_mul_right (a:=2^g) ?_ (Int.le_of_lt (p2 g));omega
   omega
  have:=hr.2 _ (nm_mul g hq)
  omega
 ·have e1:(q+1)*2^g=q*2^g+2^g:=by rw [Int.add_mul,Int.one_mul]
  have hq:(q+1).natAbs≤9007199254740992:=by
   have h1:q<9007199254740992:=by
    refine Int.lt_of_mul_lt_mul_right (a:=2^g) ?_ (Int.le_of_lt (p2 g));omega
   have h2 : -9007199254740993<q:=by
    refine Int.lt_of_mul_lt_mul_right (a:=2^g) ?_ (Int.le_of_lt (p2 g));omega
   omega
  have:=hr.2 _ (nm_mul g hq)
  rw [e1] at this
  omega
theorem rd_dvd {t r:Int} {g:Nat} (hr:Rd t r) (h:∃ x,t=x*2^g):∃ y,r=y*2^g:=by
 obtain ⟨x,hx⟩:=h
 by_cases c:(t.natAbs:Int)≤2^(53+g)
 ·exact ⟨x,by rw [rd_exact (nm_of hx c) hr];exact hx⟩
 ·have h1:=rd_abs_ge hr (nm_pow (53+g)) (by rw [p2a];have:=p2n (53+g);omega)
  rw [p2a] at h1
  refine nm_dvd hr.1 ?_
  have h2:=p2m (show 52+g≤53+g by omega)
  have:=p2n (53+g)
  omega
theorem nm_norm {a:Int} (h:Nm a):∃ (A:Int) (e:Nat),a=A*2^e∧A.natAbs<9007199254740992∧(4503599627370496≤A.natAbs∨e=0):=by
 obtain ⟨m,f,rfl,hm⟩:=h
 induction f generalizing m with
 | zero =>
  by_cases c:m.natAbs<9007199254740992
  ·exact ⟨m,0,rfl,c,.inr rfl⟩
  ·refine ⟨m / 2,1,?_,by omega,by omega⟩
   rw [Int.pow_zero,Int.pow_one];omega
 | succ f ih =>
  by_cases c:m.natAbs<9007199254740992
  ·by_cases d:4503599627370496≤m.natAbs
   ·exact ⟨m,f+1,rfl,c,.inl d⟩
   ·have:=ih (m*2) (by omega)
    rwa [Int.mul_assoc,← Int.pow_succ'] at this
  ·refine ⟨m / 2,f+2,?_,by omega,by omega⟩
   rw [Int.pow_succ' 2 (f+1),← Int.mul_assoc,show m / 2*2=m by omega]
theorem sum_dvd {a b:Int} {g:Nat} (ha:∃ x,a=x*2^g) (hb:∃ x,b=x*2^g):∃ x,a+b=x*2^g:=by
 obtain ⟨x,rfl⟩:=ha
 obtain ⟨y,rfl⟩:=hb
 exact ⟨x+y,(Int.add_mul _ _ _).symm⟩
theorem neg_dvd {a:Int} {g:Nat} (ha:∃ x,a=x*2^g):∃ x,-a=x*2^g:=by
 obtain ⟨x,rfl⟩:=ha
 exact ⟨-x,(Int.neg_mul _ _).symm⟩
theorem sub_dvd {a b:Int} {g:Nat} (ha:∃ x,a=x*2^g) (hb:∃ x,b=x*2^g):∃ x,a - b=x*2^g:=by
 rw [Int.sub_eq_add_neg];exact sum_dvd ha (neg_dvd hb)
theorem dvd_mono {a:Int} {g h:Nat} (hgh:g≤h) (ha:∃ x,a=x*2^h):∃ x,a=x*2^g:=by
 obtain ⟨x,rfl⟩:=ha
 obtain ⟨K,_,e⟩:=p2s hgh
 exact ⟨x*K,by rw [e,Int.mul_assoc]⟩

theorem err_nm {a b s:Int} (ha:Nm a) (hb:Nm b) (hs:Rd (a+b) s):Nm (a+b - s):=by
 have h1:=hs.2 a ha
 have h2:=hs.2 b hb
 obtain ⟨A,h,ea,hA⟩:=ha
 obtain ⟨B,f,eb,hB⟩:=hb
 have la:=abs_le (p2 h) (show (A.natAbs:Int)≤9007199254740992 by omega)
 have lb:=abs_le (p2 f) (show (B.natAbs:Int)≤9007199254740992 by omega)
 rw [← ea,← p53] at la
 rw [← eb,← p53] at lb
 rcases Nat.le_total h f with c | c
 ·have d1:∃ x,a+b=x*2^h:=sum_dvd ⟨A,ea⟩ (dvd_mono c ⟨B,eb⟩)
  obtain ⟨x,hx⟩:=sub_dvd d1 (rd_dvd hs d1)
  exact nm_of hx (by omega)
 ·have d1:∃ x,a+b=x*2^f:=sum_dvd (dvd_mono c ⟨A,ea⟩) ⟨B,eb⟩
  obtain ⟨x,hx⟩:=sub_dvd d1 (rd_dvd hs d1)
  exact nm_of hx (by omega)

theorem top {t:Int} (h:(9007199254740992:Int)<t.natAbs):∃ g:Nat,(2:Int)^(52+(g+1))<t.natAbs∧(t.natAbs:Int)≤2^(53+(g+1)):=by
 have key:∀ n:Nat,(t.natAbs:Int)≤2^(53+n)→∃ g:Nat,(2:Int)^(52+(g+1))<t.natAbs∧(t.natAbs:Int)≤2^(53+(g+1)):=by
  intro n
  induction n with
  | zero=>intro hn;rw [p53] at hn;omega
  | succ n ih =>
   intro hn
   by_cases c:(t.natAbs:Int)≤2^(53+n)
   ·exact ih c
   ·exact ⟨n,by rw [show 52+(n+1)=53+n by omega];omega,hn⟩
 refine key t.natAbs ?_
 have h1:t.natAbs<2^t.natAbs:=Nat.lt_two_pow_self
 have h2:=p2n t.natAbs
 have h3:=p2m (show t.natAbs≤53+t.natAbs by omega)
 omega

theorem quick_nm {a b s A B:Int} {h f:Nat} (ea:a=A*2^h) (eb:b=B*2^f) (hA:A.natAbs≤9007199254740992) (hB:B.natAbs<9007199254740992) (hf:f≤h) (hs:Rd (a+b) s):Nm (s - a):=by
 have la:=abs_le (p2 h) (show (A.natAbs:Int)≤9007199254740992 by omega)
 have lb:=abs_le (p2 f) (show (B.natAbs:Int)≤9007199254740991 by omega)
 rw [← ea] at la
 rw [← eb] at lb
 have d0:∃ x,a+b=x*2^f:=sum_dvd (dvd_mono hf ⟨A,ea⟩) ⟨B,eb⟩
 have exactly:(((a+b).natAbs:Int)≤2^(53+f))→Nm (s - a):=by
  intro c
  obtain ⟨x,hx⟩:=d0
  rw [rd_exact (nm_of hx c) hs,show a+b - a=b by omega,eb]
  exact nm_mul f (by omega)
 by_cases c0:((a+b).natAbs:Int)≤9007199254740992
 ·obtain ⟨x,hx⟩:=d0
  rw [rd_exact (nm_small (by omega)) hs,show a+b - a=b by omega,eb]
  exact nm_mul f (by omega)
 obtain ⟨g,g1,g2⟩:=top (t:=a+b) (by omega)
 by_cases c1:g+1≤f
 ·exact exactly (Int.le_trans g2 (p2m (by omega)))
 have er:=rd_err (g+1) hs g2
 have hsg:∃ x,s=x*2^(g+1):=by
  refine nm_dvd hs.1 ?_
  have:=rd_abs_ge hs (nm_pow (52+(g+1))) (by rw [p2a];have:=p2n (52+(g+1));omega)
  rw [p2a] at this
  have h2:=p2n (52+(g+1));omega
 have fg:=p2m (show f≤g by omega)
 rw [Int.pow_succ] at er
 by_cases c2:g+1≤h
 ·obtain ⟨x,hx⟩:=sub_dvd hsg (dvd_mono c2 ⟨A,ea⟩)
  refine nm_of hx ?_
  rw [p53,Int.pow_succ]
  omega
 ·have hh:g=h:=by
   have m1:=p2m hf
   have m2:(2:Int)^(52+(g+1))<2^(54+h):=by
    rw [show 54+h=52+(h+2) by omega,p52 (h+2),show h+2=h+1+1 by omega,Int.pow_succ,Int.pow_succ];omega
   have m3:¬ 54+h≤52+(g+1):=fun z=>by have:=p2m z;omega
   omega
  subst hh
  obtain ⟨x,hx⟩:=sub_dvd (dvd_mono (Nat.le_succ g) hsg) ⟨A,ea⟩
  refine nm_of hx ?_
  rw [p53]
  have m1:=p2m hf
  omega
theorem quick_nm' {a b s:Int} (ha:Nm a) (hb:Nm b) (hab:b.natAbs≤a.natAbs) (hs:Rd (a+b) s):Nm (s - a):=by
 obtain ⟨A,h,ea,hA,na⟩:=nm_norm ha
 obtain ⟨B,f,eb,hB,nb⟩:=nm_norm hb
 refine quick_nm ea eb (by omega) hB ?_ hs
 by_cases c:f≤h
 ·exact c
 ·exfalso
  have lb:=abs_le (p2 h) (show (A.natAbs:Int)≤9007199254740991 by omega)
  rw [← ea] at lb
  obtain ⟨K,hK,e⟩:=p2s (show h+1≤f by omega)
  have hB2:4503599627370496≤B.natAbs:=by omega
  have e2:b=(B*K*2)*2^h:=by rw [eb,e,Int.pow_succ',Int.mul_assoc (B*K),Int.mul_assoc B]
  have:((B*K*2).natAbs:Int)≤9007199254740991:=abs_of (p2 h) (by rw [← e2];omega)
  have h3:B.natAbs≤(B*K).natAbs:=by
   rw [Int.natAbs_mul]
   exact Nat.le_mul_of_pos_right _ (by omega)
  omega

theorem quick {a b s z l:Int} (ha:Nm a) (hb:Nm b) (hab:b.natAbs≤a.natAbs) (hs:Rd (a+b) s) (hz:Rd (s - a) z) (hl:Rd (b - z) l):z=s - a∧l=a+b - s:=by
 have e1:=rd_exact (quick_nm' ha hb hab hs) hz
 subst e1
 refine ⟨rfl,?_⟩
 have h:=err_nm ha hb hs
 rw [show b - (s - a)=a+b - s by omega] at hl
 exact rd_exact h hl

theorem twosum {a b s t u v w l:Int} (ha:Nm a) (hb:Nm b) (hs:Rd (a+b) s) (ht:Rd (s - a) t) (hu:Rd (s - t) u) (hv:Rd (a - u) v) (hw:Rd (b - t) w) (hl:Rd (v+w) l):l=a+b - s:=by
 have hd:=err_nm ha hb hs
 by_cases c:b.natAbs≤a.natAbs
 ·obtain rfl:=rd_exact (quick_nm' ha hb c hs) ht
  obtain rfl:=rd_exact (show Nm (s - (s - a)) by rw [show s - (s - a)=a by omega];exact ha) hu
  obtain rfl:=rd_exact (show Nm (a - (s - (s - a))) by rw [show a - (s - (s - a))=0 by omega];exact nm_zero) hv
  rw [show b - (s - a)=a+b - s by omega] at hw
  obtain rfl:=rd_exact hd hw
  rw [show a - (s - (s - a))+(a+b - s)=a+b - s by omega] at hl
  exact rd_exact hd hl
 ·by_cases d:a.natAbs≤s.natAbs
  ·-- the steps as quick sums of (b,-lost) and (s,-a)
   have hda:(a+b - s).natAbs≤a.natAbs:=by have:=hs.2 b hb;omega
   have hnd:=nm_neg hd
   have hsn:Nm s:=hs.1
   have ht':Rd (b + -(a+b - s)) t:=by rw [show b + -(a+b - s)=s - a by omega];exact ht
   have q1:=quick_nm' hb hnd (by omega) ht'
   have hw':w=b - t:=by
    refine rd_exact ?_ hw
    rw [show b - t = -(t - b) by omega];exact nm_neg q1
   have ht2:Rd (s + -a) t:=by rw [show s + -a=s - a by omega];exact ht
   have q2:=quick_nm' hsn (nm_neg ha) (by omega) ht2
   have hu':u=s - t:=by
    refine rd_exact ?_ hu
    rw [show s - t = -(t - s) by omega];exact nm_neg q2
   have q3:=err_nm hsn (nm_neg ha) ht2
   have hv':v=a - u:=by
    refine rd_exact ?_ hv
    rw [hu',show a - (s - t) = -(s + -a - t) by omega];exact nm_neg q3
   rw [hv',hu',hw',show a - (s - t)+(b - t)=a+b - s by omega] at hl
   exact rd_exact hd hl
  ·-- then nothing is lost
   have hlt:(a+b).natAbs<a.natAbs:=by
    by_cases z:a.natAbs≤(a+b).natAbs
    ·exact absurd (rd_abs_ge hs ha z) d
    ·omega
   have hex:Nm (a+b):=by
    have ha':=ha
    obtain ⟨A,h,ea,hA⟩:=ha
    obtain ⟨B,f,eb,hB⟩:=hb
    have la:=abs_le (p2 h) (show (A.natAbs:Int)≤9007199254740992 by omega)
    have lb:=abs_le (p2 f) (show (B.natAbs:Int)≤9007199254740992 by omega)
    rw [← ea,← p53] at la
    rw [← eb,← p53] at lb
    rcases Nat.le_total h f with k | k
    ·obtain ⟨x,hx⟩:∃ x,a+b=x*2^h:=sum_dvd ⟨A,ea⟩ (dvd_mono k ⟨B,eb⟩)
     exact nm_of hx (by omega)
    ·obtain ⟨x,hx⟩:∃ x,a+b=x*2^f:=sum_dvd (dvd_mono k ⟨A,ea⟩) ⟨B,eb⟩
     exact nm_of hx (by omega)
   obtain rfl:=rd_exact hex hs
   obtain rfl:=rd_exact (show Nm (a+b - a) by rw [show a+b - a=b by omega];exact hb) ht
   obtain rfl:=rd_exact (show Nm (a+b - (a+b - a)) by rw [show a+b - (a+b - a)=a by omega];exact ha) hu
   obtain rfl:=rd_exact (show Nm (a - (a+b - (a+b - a))) by rw [show a - (a+b - (a+b - a))=0 by omega];exact nm_zero) hv
   obtain rfl:=rd_exact (show Nm (b - (a+b - a)) by rw [show b - (a+b - a)=0 by omega];exact nm_zero) hw
   rw [show a - (a+b - (a+b - a))+(b - (a+b - a))=0 by omega] at hl
   rw [rd_exact nm_zero hl];omega
theorem rd_scale {t r:Int} (K:Nat) (h:Rd t r):Rd (t*2^K) (r*2^K):=by
 have nm:∀ x:Int,Nm x→Nm (x*2^K):=by
  intro x ⟨m,e,hx,hm⟩
  exact ⟨m,e+K,by rw [hx,Int.pow_add,Int.mul_assoc],hm⟩
 refine ⟨nm r h.1,fun s hs => ?_⟩
 have sc:∀ x:Int,((x*2^K).natAbs:Int)=x.natAbs*2^K:=fun x=>by
  rw [Int.natAbs_mul,Int.natCast_mul,p2a,p2n]
 have e1:((t*2^K - r*2^K).natAbs:Int)=(t - r).natAbs*2^K:=by rw [← Int.sub_mul,sc]
 obtain ⟨m,e,hse,hm⟩:=hs
 by_cases c:K≤e
 ·have hs2:s=m*2^(e - K)*2^K:=by rw [Int.mul_assoc,← Int.pow_add,Nat.sub_add_cancel c];exact hse
  have h1:=h.2 _ (nm_mul (e - K) hm)
  generalize m*2^(e - K)=s' at hs2 h1
  subst hs2
  have e2:((t*2^K - s'*2^K).natAbs:Int)=(t - s').natAbs*2^K:=by rw [← Int.sub_mul,sc]
  have:=Int.mul_le_mul_of_nonneg_right (show ((t - r).natAbs:Int)≤(t - s').natAbs by omega) (Int.le_of_lt (p2 K))
  omega
 ·by_cases d:t.natAbs≤9007199254740992
  ·have:=rd_exact (nm_small d) h
   subst this
   rw [Int.sub_self];exact Nat.zero_le _
  ·have hsm:(s.natAbs:Int)≤9007199254740992*2^K:=by
    have:=abs_le (p2 e) (show (m.natAbs:Int)≤9007199254740992 by omega)
    rw [← hse] at this
    have h2:=p2m (show e≤K by omega)
    omega
   have sct:=sc t
   by_cases sg:0≤t
   ·have h1:=h.2 9007199254740992 (nm_small (by decide))
    have h2:=Int.mul_le_mul_of_nonneg_right (show ((t - r).natAbs:Int)≤(t - 9007199254740992).natAbs by omega) (Int.le_of_lt (p2 K))
    have e2:((t*2^K - 9007199254740992*2^K).natAbs:Int)=(t - 9007199254740992).natAbs*2^K:=by rw [← Int.sub_mul,sc]
    have h3:=Int.mul_le_mul_of_nonneg_right (show 9007199254740992≤t by omega) (Int.le_of_lt (p2 K))
    omega
   ·have h1:=h.2 (-9007199254740992) (nm_small (by decide))
    have h2:=Int.mul_le_mul_of_nonneg_right (show ((t - r).natAbs:Int)≤(t - -9007199254740992).natAbs by omega) (Int.le_of_lt (p2 K))
    have e2:((t*2^K - -9007199254740992*2^K).natAbs:Int)=(t - -9007199254740992).natAbs*2^K:=by rw [← Int.sub_mul,sc]
    have h3:=Int.mul_le_mul_of_nonneg_right (show t ≤ -9007199254740992 by omega) (Int.le_of_lt (p2 K))
    omega
end Go.Proofs.YthimlebkjnajpaaDoorW.RN
namespace Go.Proofs.YthimlebkjnajpaaDoorW.RN
set_option linter.unusedVariables false
open Go Go.Proofs.YthimlebkjnajpaaDoorW.FL Ieee
theorem nm_U (r:Nat):Nm (U 52 r:Int):=by
 unfold U
 by_cases h:r<2^52
 ·rw [if_pos h];exact nm_small (by simp only [Int.natAbs_natCast];omega)
 ·rw [if_neg h]
  refine ⟨((2^52+r%2^52:Nat):Int),r / 2^52 - 1,?_,?_⟩
  ·rw [Int.natCast_mul,p2n]
  ·rw [Int.natAbs_natCast];have:=Nat.mod_lt r (show 2^52>0 by decide);omega
theorem nm_Uk (r k:Nat):Nm ((U 52 r*2^k:Nat):Int):=by
 obtain ⟨m,e,h,hm⟩:=nm_U r
 refine ⟨m,e+k,?_,hm⟩
 rw [Int.natCast_mul,h,p2n,Int.pow_add,Int.mul_assoc]

theorem gap {k r n:Nat} (hk:k=0∨4503599627370496*2^k≤n) (h1:U 52 r*2^k≤n) (h2:n<U 52 (r+1)*2^k) {s:Int} (hs:Nm s) :
  s≤((U 52 r*2^k:Nat):Int)∨((U 52 (r+1)*2^k:Nat):Int)≤s:=by
 have hsucc:=U_succ 52 r
 by_cases c:r / 2^52 - 1=0∧k=0
 ·obtain ⟨c1,rfl⟩:=c
  rw [c1] at hsucc
  omega
 ·by_cases d:((U 52 r*2^k:Nat):Int)<s∧s<((U 52 (r+1)*2^k:Nat):Int)
  ·exfalso
   have hr:2^52≤r:=by
    by_cases q:2^52≤r
    ·exact q
    ·exfalso
     have hk0:k≠0:=by
      intro z
      refine c ⟨?_,z⟩
      have:r / 2^52=0:=Nat.div_eq_of_lt (by omega)
      omega
     have u1:U 52 (r+1)≤4503599627370496:=by
      have:=U_le (p:=52) (show r+1≤2^52 by omega)
      have e:U 52 (2^52)=4503599627370496:=U_small (by decide)
      omega
     have:=Nat.mul_le_mul_right (2^k) u1
     omega
   have eU:U 52 r=(2^52+r%2^52)*2^(r / 2^52 - 1):=by unfold U;rw [if_neg (by omega)]
   generalize hg:r / 2^52 - 1=g at *
   have low:(2:Int)^(52+(g+k))≤((U 52 r*2^k:Nat):Int):=by
    rw [p52,eU,Nat.mul_assoc,← Nat.pow_add,Int.natCast_mul,p2n]
    refine Int.mul_le_mul_of_nonneg_right ?_ (Int.le_of_lt (p2 _))
    omega
   obtain ⟨x,hx⟩:=nm_dvd (g:=g+k) hs (by omega)
   have ey:((U 52 r*2^k:Nat):Int)=((2^52+r%2^52:Nat):Int)*2^(g+k):=by
    rw [eU,Nat.mul_assoc,← Nat.pow_add,Int.natCast_mul,p2n]
   have ez:((U 52 (r+1)*2^k:Nat):Int)=(((2^52+r%2^52:Nat):Int)+1)*2^(g+k):=by
    rw [hsucc,Nat.add_mul,Int.natCast_add,ey,← Nat.pow_add,p2n,Int.add_mul,Int.one_mul]
   rw [ey,ez,hx] at d
   have d1:=Int.lt_of_mul_lt_mul_right d.1 (Int.le_of_lt (p2 _))
   have d2:=Int.lt_of_mul_lt_mul_right d.2 (Int.le_of_lt (p2 _))
   omega
  ·omega

theorem R_near (k n:Nat) (hk:k=0∨4503599627370496*2^k≤n):Rd (n:Int) ((U 52 (R 52 k n)*2^k:Nat):Int):=by
 obtain ⟨r,h1,h2,h3⟩:=R_spec 52 k n (by decide)
 refine ⟨nm_Uk _ _,fun s hs => ?_⟩
 have hg:=gap hk h1 h2 hs
 rw [Nat.add_mul] at h3
 rw [h3]
 by_cases c:U 52 r*2^k+U 52 (r+1)*2^k<2*n∨U 52 r*2^k+U 52 (r+1)*2^k=2*n∧r%2=1
 ·rw [if_pos c]
  generalize U 52 r*2^k=lo at *
  generalize U 52 (r+1)*2^k=hi at *
  omega
 ·rw [if_neg c,Nat.add_zero]
  generalize U 52 r*2^k=lo at *
  generalize U 52 (r+1)*2^k=hi at *
  have:2*n≤lo+hi:=by
   by_cases q:2*n≤lo+hi
   ·exact q
   ·exact absurd (Or.inl (by omega)) c
  omega

def Fnt (a:Nat):Prop:=a<18446744073709551616∧a%9223372036854775808<9218868437227405312
theorem S_word {s:Bool} {r:Nat} (h:r<9218868437227405312):S D (D.word s r)=sgn s (U 52 r)∧Fnt (D.word s r):=by
 have h1:D.word s r=if s then r+9223372036854775808 else r:=by
  unfold Format.word;rw [D_sign];cases s
  ·simp <;> omega
  ·simp <;> omega
 rw [h1]
 cases s
 ·rw [if_neg (by decide)]
  refine ⟨?_,by unfold Fnt;omega⟩
  unfold S
  rw [D_rung,D_neg (by omega),show r%9223372036854775808=r by omega]
  rw [decide_eq_false (by omega)]
  rfl
 ·rw [if_pos rfl]
  refine ⟨?_,by unfold Fnt;omega⟩
  unfold S
  rw [D_rung,D_neg (by omega),show (r+9223372036854775808)%9223372036854775808=r by omega]
  rw [decide_eq_true (by omega)]
  rfl
theorem nm_sgn {s:Bool} {n:Nat} (h:Nm (n:Int)):Nm (sgn s n):=by cases s;exact h;exact nm_neg h
theorem nm_S {a:Nat} (h:Fnt a):Nm (S D a):=nm_sgn (nm_U _)
theorem S_le {a:Nat} (h:Fnt a):(S D a).natAbs≤U 52 9218868437227405311:=by
 unfold S
 rw [sgn_natAbs,D_rung]
 exact U_le (by have:=h.2;omega)
theorem rd_sgn {s:Bool} {n m:Nat} (h:Rd (n:Int) (m:Int)):Rd (sgn s n) (sgn s m):=by cases s;exact h;exact rd_neg h
theorem S_wr {z:Bool} {t:Int} (h:t.natAbs≤U 52 9218868437227405311):Rd t (S D (wr D z t))∧Fnt (wr D z t):=by
 unfold wr
 by_cases c:t=0
 ·rw [if_pos c,c]
  obtain ⟨h1,h2⟩:=S_word (s:=z) (r:=0) (by decide)
  rw [U_zero] at h1
  refine ⟨?_,h2⟩
  rw [h1,show sgn z 0=0 by cases z <;> rfl]
  exact rd_self nm_zero
 ·rw [if_neg c]
  have hn:=R_near 0 t.natAbs (.inl rfl)
  rw [Nat.pow_zero,Nat.mul_one] at hn
  have hb:=rd_le hn (nm_U 9218868437227405311) (by omega)
  have hr:R 52 0 t.natAbs<9218868437227405312:=by
   by_cases q:R 52 0 t.natAbs<9218868437227405312
   ·exact q
   ·have:=U_lt (p:=52) (show 9218868437227405311<R 52 0 t.natAbs by omega)
    omega
  rw [D_inf]
  show Rd t (S D (D.word _ (min (R 52 0 t.natAbs) 9218868437227405312)))∧Fnt (D.word _ (min (R 52 0 t.natAbs) 9218868437227405312))
  rw [Nat.min_eq_left (by omega)]
  obtain ⟨h1,h2⟩:=S_word (s:=decide (t<0)) hr
  refine ⟨?_,h2⟩
  rw [h1]
  have:=rd_sgn (s:=decide (t<0)) hn
  rwa [sgn_of] at this
theorem S_wrk {k:Nat} {s:Bool} {n:Nat} (hk:(∃ x,n=x*2^k)∨4503599627370496*2^k≤n) (h:n≤U 52 9218868437227405311*2^k):Rd (sgn s n) (S D (wrk D k s n)*2^k)∧Fnt (wrk D k s n):=by
 unfold wrk
 by_cases c:n=0
 ·rw [if_pos c,c]
  obtain ⟨h1,h2⟩:=S_word (s:=s) (r:=0) (by decide)
  rw [U_zero] at h1
  refine ⟨?_,h2⟩
  rw [h1,show sgn s 0=0 by cases s <;> rfl,Int.zero_mul]
  exact rd_self nm_zero
 ·rw [if_neg c]
  have hn:Rd (n:Int) ((U 52 (R 52 k n)*2^k:Nat):Int):=by
   rcases hk with ⟨x,rfl⟩ | hk
   ·have hx:x≠0:=by intro z;subst z;simp at c
    rw [R_shift hx]
    have h1:=R_near 0 x (.inl rfl)
    rw [Nat.pow_zero,Nat.mul_one] at h1
    have h2:=rd_scale k h1
    rwa [Int.natCast_mul,Int.natCast_mul,p2n]
   ·exact R_near k n (.inr hk)
  have hb:=rd_le hn (nm_Uk 9218868437227405311 k) (by exact_mod_cast h)
  have hr:R 52 k n<9218868437227405312:=by
   by_cases q:R 52 k n<9218868437227405312
   ·exact q
   ·have h1:=U_lt (p:=52) (show 9218868437227405311<R 52 k n by omega)
    have h2:=Nat.mul_lt_mul_of_pos_right h1 (two_pow_pos k)
    omega
  rw [D_inf]
  show Rd _ (S D (D.word _ (min (R 52 k n) 9218868437227405312))*2^k)∧Fnt (D.word _ (min (R 52 k n) 9218868437227405312))
  rw [Nat.min_eq_left (by omega)]
  obtain ⟨h1,h2⟩:=S_word (s:=s) hr
  refine ⟨?_,h2⟩
  rw [h1]
  have:=rd_sgn (s:=s) hn
  rwa [sgn_mul,p2n] at this
end Go.Proofs.YthimlebkjnajpaaDoorW.RN
namespace Go.Proofs.YthimlebkjnajpaaDoor.P02
open Go Go.RowKit Go.Proofs.YthimlebkjnajpaaDoor.Pr Go.Proofs.YthimlebkjnajpaaDoorW.PrintWords Go.Proofs.YthimlebkjnajpaaDoorW.PrintLast Go.Proofs.YthimlebkjnajpaaDoorW.PrintMore Go.Proofs.YthimlebkjnajpaaDoorW.NA Go.Proofs.YthimlebkjnajpaaDoorW.EV
open Go.Proofs.YthimlebkjnajpaaDoorW.RN (Fnt)
open Go.Proofs.YthimlebkjnajpaaDoorW.FL
set_option linter.unusedVariables false
set_option linter.unusedSimpArgs false
theorem or_comm64 (x y:Int):Go.bits .or .u64 x y=Go.bits .or .u64 y x:=by
 simp only [Go.bits,BitVec.or_comm]
theorem or52 {x:Int} (h0:0≤x) (h1:x<4503599627370496):Go.bits .or .u64 x 4503599627370496=x+4503599627370496:=by
 rw [or_comm64,u64_join 52 _ _ (by decide) (by decide) (by decide) h0 h1 (by omega)];omega
def PL (x:Int):Bool × Int × Int × Int :=
 if x%9223372036854775808>9218868437227405312 then (false,4,0,0) else if x%9223372036854775808=9218868437227405312 then (decide (9223372036854775808≤x),3,0,0) else if 4503599627370496≤x%9223372036854775808 then (decide (9223372036854775808≤x),2,x%9223372036854775808 / 4503599627370496 - 1+(-1074),x%4503599627370496+4503599627370496) else if 0<x%9223372036854775808 then (decide (9223372036854775808≤x),1,-1074,x%9223372036854775808) else (decide (9223372036854775808≤x),0,-1074,0)
theorem bits_parts_L {x:Int} (k:Nat) (h0:0≤x) (h1:x<18446744073709551616):bits_form_parts_L.f (k+1) x=some (PL x):=by
 unfold bits_form_parts_L.f PL
 simp only [bits_form_parts_L.j0]
 rw [wrap64_id (x:=x / 4503599627370496) (by omega) (by omega),u64_and52 h0 (by omega),i64_and11 (by omega) (by omega),u64_and1 (by omega) (by omega)]
 have eN:((x / 9223372036854775808%2) == 1)=decide (9223372036854775808≤x):=by
  have:x / 9223372036854775808%2=1↔9223372036854775808≤x:=by omega
  rw [Bool.eq_iff_iff,beq_iff_eq,decide_eq_true_eq];exact this
 rw [eN]
 by_cases a1:x / 4503599627370496%2048=2047
 ·rw [if_pos a1]
  by_cases a2:x%4503599627370496=0
  ·rw [if_neg (by simp [a2]),if_pos a1,if_neg (by omega),if_pos (by omega)]
  ·rw [if_pos (by simp [a2]),if_pos (by omega)]
 ·rw [if_neg a1,if_neg (by simp),if_neg a1,if_neg (show ¬ x%9223372036854775808>9218868437227405312 by omega),if_neg (show ¬ x%9223372036854775808=9218868437227405312 by omega)]
  by_cases a3:x / 4503599627370496%2048>0
  ·rw [if_pos a3,if_pos (by omega),wrap64_id (by rw [wrap64_id (by omega) (by omega)];omega) (by rw [wrap64_id (by omega) (by omega)];omega),wrap64_id (by omega) (by omega),or52 (by omega) (by omega)]
   congr 4
   omega
  ·rw [if_neg a3,if_neg (show ¬ 4503599627370496≤x%9223372036854775808 by omega)]
   by_cases a4:x%4503599627370496>0
   ·rw [if_pos a4,if_pos (by omega)]
    congr 4
    omega
   ·rw [if_neg a4,if_neg (by omega)]
theorem Split_eq {a:Nat} (k:Nat) (h:a<18446744073709551616):bits_Split.f (k+1) a=some (PL a):=by
 unfold bits_Split.f bits_long.f bits_form_parts.f
 rw [Option.bind_some,if_pos ⟨rfl,rfl,rfl⟩,bits_parts_L k (by omega) (by omega),Option.bind_some]
theorem Of_eq {x:Nat} (h1:x<18446744073709551616):Evl (fun k=>wide_Of.f k (x:Int)) (Cn x):=by
 have hw:WF [(x:Int)%4294967296,(x:Int) / 4294967296%4294967296]:=WF.cons (by omega) (by omega) (WF.cons (by omega) (by omega) WF.nil)
 obtain ⟨k0,f⟩:=Norm_eq hw (by simp)
 have hv:V [(x:Int)%4294967296,(x:Int) / 4294967296%4294967296]=x:=by simp only [V_cons,V_nil];omega
 rw [hv] at f
 refine ⟨k0,fun k hk => ?_⟩
 have:=f k hk
 dsimp only at this
 show wide_Of.f k (x:Int)=_
 unfold wide_Of.f
 rw [this];rfl
theorem Of_cd {a:Nat} (h:Fnt a):Evl (fun k=>dyad_Of.f k a) (ans (cd 1074 (S D a)) 0):=by
 obtain ⟨h1,h2⟩:=h
 generalize hr:a%9223372036854775808=r at h2
 have hS:S D a=sgn (neg D a) (U 52 r):=by unfold S;rw [D_rung,hr];rfl
 have hneg:decide (9223372036854775808≤(a:Int))=neg D a:=by rw [D_neg h1];simp;omega
 have hP:PL (a:Int)=(neg D a,(if r<4503599627370496 then (if r=0 then 0 else 1) else 2:Int),plc r,(mant r:Int)):=by
  have hra:((a:Int)%9223372036854775808)=(r:Int):=by omega
  unfold PL plc mant
  rw [hra,hneg,if_neg (by omega),if_neg (by omega)]
  by_cases c:r<4503599627370496
  ·rw [if_neg (by omega),if_pos c,if_pos c,if_pos c]
   by_cases c0:r=0
   ·subst c0;rw [if_neg (by decide),if_pos rfl];rfl
   ·rw [if_pos (by omega),if_neg c0]
  ·rw [if_pos (by omega),if_neg c,if_neg c,if_neg c]
   congr 3
   ·omega
   ·omega
 by_cases h0:r=0
 ·have ht:S D a=0:=by rw [hS,h0,U_zero,sgn_zero]
  rw [ht,cd_zero]
  refine ⟨4,fun k hk => ?_⟩
  obtain ⟨j,rfl⟩:∃ j,k=j+4:=⟨k - 4,by omega⟩
  show dyad_Of.f (j+4) a=_
  unfold dyad_Of.f
  rw [show j+4=j+3+1 by omega,Split_eq _ h1,hP,h0,Option.bind_some]
  simp only [plc,mant]
  cases neg D a <;> simp [dyad_Of.j0,dyad_Of.j1]
 ·have hm0:mant r≠0:=by unfold mant;split <;> omega
  have hml:=mant_lt r
  have hpr:=plc_range (r:=r) (by omega)
  obtain ⟨k1,f1⟩:=Of_eq (x:=mant r) (by omega)
  have hU:mant r*2^(plc r+1074).toNat=U 52 r:=mant_U r
  obtain ⟨b,hb⟩:∃ b:Nat,b=2100:=⟨_,rfl⟩
  have hUb:U 52 r<2^b:=by
   rw [← hU]
   have h3:mant r*2^(plc r+1074).toNat<2^53*2^(plc r+1074).toNat:=Nat.mul_lt_mul_of_pos_right hml (Nat.two_pow_pos _)
   rw [← Nat.pow_add] at h3
   exact Nat.lt_of_lt_of_le h3 (Nat.pow_le_pow_right (by decide) (by clear hU h3;omega))
  obtain ⟨k2,f2⟩:=form_cd (s:=neg D a) (l:=Cn (mant r)) (E:=plc r) (K:=1074) (b:=b) (Cn_wf _) (by have:=Cn_len_pow (n:=mant r) (b:=53) hml;clear hUb hU;omega) (by omega) (by rw [V_Cn];exact hU ▸ hUb) (by omega) (by clear hUb hU;omega)
  rw [V_Cn,show (plc r+((1074:Nat):Int)).toNat=(plc r+1074).toNat from rfl,hU,← hS] at f2
  dsimp only at f1 f2
  refine ⟨max k1 k2+4,fun k hk => ?_⟩
  obtain ⟨j,rfl⟩:∃ j,k=j+4:=⟨k - 4,by omega⟩
  have g1:=f1 (j+2) (by omega)
  have g2:=f2 (j+2) (by omega)
  clear hUb hU
  show dyad_Of.f (j+4) a=_
  unfold dyad_Of.f
  have hc3:¬ ((if r<4503599627370496 then (if r=0 then 0 else 1) else 2:Int))=3:=by rw [if_neg h0];split <;> decide
  have hc4:((if r<4503599627370496 then (if r=0 then 0 else 1) else 2:Int) == 4)=false:=by rw [if_neg h0];split <;> decide
  have hc0:((if r<4503599627370496 then (if r=0 then 0 else 1) else 2:Int) == 0)=false:=by
   rw [if_neg h0];split <;> decide
  rw [show j+4=j+3+1 by omega,Split_eq _ h1,hP,Option.bind_some]
  dsimp only
  rw [if_neg hc3,hc4,show j+3+1=(j+3)+1 from rfl,dyad_Of.j0,if_neg (by decide),hc0]
  simp only [Bool.false_and,Bool.and_false]
  rw [if_neg (by decide),show j+3=(j+2)+1 from rfl,dyad_Of.j1,if_neg (by decide),g1,Option.bind_some,g2,Option.bind_some]
theorem Sub_cd {K b:Nat} {s t:Int} (hs:s.natAbs<2^b) (ht:t.natAbs<2^b) (hb:K+b+1≤200000) :
  Evl (fun k=>dyad_Sub.f k (cd K s).1 (cd K s).2.1 (cd K s).2.2 (cd K t).1 (cd K t).2.1 (cd K t).2.2) (ans (cd K (s - t)) 0):=by
 by_cases t0:t=0
 ·subst t0
  obtain ⟨k1,f1⟩:=form_self (K:=K) hs (by omega)
  obtain ⟨k2,f2⟩:=form_nought (s:=true) (E:=0) WF.nil (by decide) V_nil
  dsimp only at f1 f2
  refine ⟨max k1 k2,fun k hk => ?_⟩
  show dyad_Sub.f k _ _ _ _ _ _=_
  have g1:=f1 k (by omega)
  have g2:=f2 k (by omega)
  unfold dyad_Sub.f dyad_Add.f dyad_both.f
  rw [cd_zero,g1,Option.bind_some,if_pos rfl,show (!false)=true from rfl,g2,Option.bind_some,Option.bind_some,if_pos rfl,Int.sub_zero]
  by_cases s0:s=0
  ·subst s0;rw [cd_zero];rfl
  ·obtain ⟨m,n,e1,e2,e3,e4,e5⟩:=cd_parts (K:=K) hs s0
   have hx:¬ (((cd K s).2.1.length:Nat):Int)=0:=by
    rw [e2];intro z
    have:Cn (2*m+1)=[]:=List.length_eq_zero_iff.1 (by omega)
    have:=Cn_nil.1 this;omega
   dsimp only
   rw [if_neg hx,if_pos (by rfl),Option.bind_some]
 ·have h:=Add_cd (K:=K) (t := -t) hs (by rw [Int.natAbs_neg];exact ht) hb
  rw [cd_neg K t0] at h
  obtain ⟨k1,f1⟩:=h
  dsimp only at f1
  refine ⟨k1,fun k hk => ?_⟩
  show dyad_Sub.f k _ _ _ _ _ _=_
  unfold dyad_Sub.f
  rw [f1 k hk,Option.bind_some,Int.sub_eq_add_neg]
theorem Sign_cd {K b:Nat} {t:Int} (ht:t.natAbs<2^b) (hb:b≤200000):Evl (fun k=>dyad_Sign.f k (cd K t).1 (cd K t).2.1 (cd K t).2.2) (if t=0 then 0 else if t<0 then -1 else 1):=by
 by_cases t0:t=0
 ·subst t0
  obtain ⟨k1,f1⟩:=Len_eq (l:=[]) WF.nil (by decide)
  dsimp only at f1
  refine ⟨k1,fun k hk => ?_⟩
  show dyad_Sign.f k _ _ _=_
  unfold dyad_Sign.f
  rw [cd_zero,f1 k hk,V_nil];rfl
 ·obtain ⟨m,n,e1,e2,e3,e4,e5⟩:=cd_parts (K:=K) ht t0
  have hl:=odd_len e4 ht (by omega)
  obtain ⟨k1,f1⟩:=Len_eq (Cn_wf (2*m+1)) (by omega)
  rw [V_Cn] at f1
  dsimp only at f1
  have h0:bl (2*m+1)≠0:=fun z=>by have:=bl_zero.1 z;omega
  refine ⟨k1,fun k hk => ?_⟩
  show dyad_Sign.f k _ _ _=_
  unfold dyad_Sign.f
  rw [e1,e2,f1 k hk,Option.bind_some,if_neg (by omega),if_neg t0]
  by_cases c:t<0 <;> simp [c]
def flp (a:Nat):Nat:=if a<9223372036854775808 then a+9223372036854775808 else a - 9223372036854775808
theorem xor63 {a:Nat} (h:a<18446744073709551616):a ^^^ 2^63=flp a:=by
 have low:∀ b:Nat,b<9223372036854775808→b ^^^ 2^63=b+9223372036854775808:=by
  intro b hb
  have e1:b ^^^ 2^63=2^63*1 ||| b:=by
   rw [Nat.mul_one]
   apply Nat.eq_of_testBit_eq
   intro i
   rw [Nat.testBit_xor,Nat.testBit_or,Nat.testBit_two_pow]
   by_cases hi:63=i
   ·subst hi
    rw [Nat.testBit_lt_two_pow (show b<2^63 by omega)];rfl
   ·simp [hi]
  rw [e1,← Nat.two_pow_add_eq_or_of_lt (show b<2^63 by omega)]
  omega
 unfold flp
 by_cases c:a<9223372036854775808
 ·rw [if_pos c,low a c]
 ·rw [if_neg c]
  have h3:a=(a - 9223372036854775808) ^^^ 2^63:=by rw [low _ (by omega)];omega
  calc a ^^^ 2^63=((a - 9223372036854775808) ^^^ 2^63) ^^^ 2^63:=by rw [← h3]
   _=a - 9223372036854775808:=by rw [Nat.xor_assoc,Nat.xor_self,Nat.xor_zero]
theorem neg_word {z:Nat} (h:z<9223372036854775808):Op.negFloat .f64 z=D.word true z:=by
 have e:Op.negFloat .f64 z=z ^^^ 2^63:=rfl
 rw [e,xor63 (by omega)]
 unfold flp Ieee.Format.word
 rw [if_pos (by omega),if_pos rfl,D_sign];omega
def rnd (K:Nat) (mode:Int) (t:Int) (r:Nat):Nat:=D.word (decide (t<0)) (rmode mode (decide (t<0)) t.natAbs (U 52 r*2^(K - 1074)) ((U 52 r+U 52 (r+1))*2^(K - 1074)) r)
theorem Round_cd {K b:Nat} {t:Int} {mode:Int} (h0:0≤mode) (h4:mode≤4) (ht:t.natAbs<2^b) (hb:K+b≤200000) (hK:1074≤K) (t0:t≠0) :
  ∃ r,Lies (K - 1074) t.natAbs r∧Evl (fun k=>dyad_Round.f k (cd K t).1 (cd K t).2.1 (cd K t).2.2 mode) (rnd K mode t r,0):=by
 obtain ⟨k1,f1⟩:=form_self (K:=K) ht hb
 obtain ⟨m,n,e1,e2,e3,e4,e5⟩:=cd_parts (K:=K) ht t0
 obtain ⟨r,hr,k2,f2⟩:=on_eq (m:=m) (n:=n) (s:=decide (t<0)) h0 h4 (by rw [← e4];exact ht) hb hK
 rw [← e4] at hr f2
 refine ⟨r,hr,max k1 k2,fun k hk => ?_⟩
 have g1:=f1 k (by omega)
 have g2:=f2 k (by omega)
 dsimp only at g1 g2
 show dyad_Round.f k _ _ _ mode=_
 unfold dyad_Round.f dyad_told.f
 rw [if_neg (by omega),if_neg (by omega),g1,Option.bind_some,Option.bind_some,if_pos rfl]
 dsimp only
 rw [e1,e2,e3,g2,Option.bind_some]
 have hz:=rmode_two (mode:=mode) (s:=decide (t<0)) (n:=t.natAbs) (A:=U 52 r*2^(K - 1074)) (M:=(U 52 r+U 52 (r+1))*2^(K - 1074)) (r:=r)
 unfold rnd
 have hr1:=hr.1
 generalize rmode mode (decide (t<0)) t.natAbs (U 52 r*2^(K - 1074)) ((U 52 r+U 52 (r+1))*2^(K - 1074)) r=z at hz
 have hz2:z≤9218868437227405312:=by omega
 clear hr f2 g1 g2 f1 hz
 rw [Int.toNat_natCast]
 by_cases c:t<0
 ·rw [if_pos (by simpa using c)]
  simp only [c,decide_true]
  rw [neg_word (by omega)]
 ·rw [if_neg (by simpa using c)]
  simp only [c,decide_false]
  rfl
end Go.Proofs.YthimlebkjnajpaaDoor.P02
namespace Go.Proofs.YthimlebkjnajpaaDoor.R02
open Go Go.RowKit Go.Proofs.YthimlebkjnajpaaDoor.Pr Go.Proofs.YthimlebkjnajpaaDoorW.PrintWords Go.Proofs.YthimlebkjnajpaaDoorW.PrintLast Go.Proofs.YthimlebkjnajpaaDoorW.PrintMore
open Go.Proofs.YthimlebkjnajpaaDoorW.FL Ieee
def pl (a b:Nat):Nat:=stepOf (FloatKind.f64.format.add a b)
def mi (a b:Nat):Nat:=stepOf (FloatKind.f64.format.sub a b)
def ti (a b:Nat):Nat:=stepOf (FloatKind.f64.format.mul a b)

theorem word_mod {s:Bool} {r:Nat} (h:r<9223372036854775808):D.word s r%9223372036854775808=r:=by
 unfold Format.word;rw [D_sign];cases s
 ·simp;omega
 ·simp;omega
theorem stepOf_num {r:Nat} (h:¬ 9218868437227405312<r%9223372036854775808):stepOf (some r)=r:=by
 unfold stepOf
 simp only
 rw [if_neg (fun z=>h ((D_nan_iff r).1 z))]
theorem wr_mod (z:Bool) (t:Int):¬ 9218868437227405312<wr D z t%9223372036854775808:=by
 unfold wr
 by_cases c:t=0
 ·rw [if_pos c,word_mod (by decide)];decide
 ·rw [if_neg c,D_inf,word_mod (by omega)];omega
theorem wrk_mod (k:Nat) (s:Bool) (n:Nat):¬ 9218868437227405312<wrk D k s n%9223372036854775808:=by
 unfold wrk
 by_cases c:n=0
 ·rw [if_pos c,word_mod (by decide)];decide
 ·rw [if_neg c,D_inf,word_mod (by omega)];omega
end Go.Proofs.YthimlebkjnajpaaDoor.R02
namespace Go.Proofs.YthimlebkjnajpaaDoor.P08
open Go.Proofs.YthimlebkjnajpaaDoorW.PrintWords
open Go Go.RowKit Go.Proofs.YthimlebkjnajpaaDoor.Pr Go.Proofs.YthimlebkjnajpaaDoorW.PrintLast Go.Proofs.YthimlebkjnajpaaDoorW.FL Go.Proofs.YthimlebkjnajpaaDoor.R02 Go.Proofs.YthimlebkjnajpaaDoorW.RN Go.Proofs.YthimlebkjnajpaaDoorW.EV
open Ieee
set_option linter.unusedVariables false
set_option linter.unusedSimpArgs false
def sm (a b:Nat):Nat × Nat:=(pl a b,pl (mi a (mi (pl a b) (mi (pl a b) a))) (mi b (mi (pl a b) a)))
theorem psum (a b:Nat):pair_sum.f a b=some (sm a b):=by
 simp [pair_sum.f,pair_step.f,sm,pl,mi]
theorem PSum (a b:Nat):pair_Sum.f a b=some (sm a b):=by
 unfold pair_Sum.f
 rw [psum,Option.bind_some];rfl
def MX:Nat:=U 52 9218868437227405311
def KK:Nat:=1074
def QQ:Int:=2^2093
theorem MX_def:MX=U 52 9218868437227405311:=by unfold MX;rfl
theorem QQ_pos:0<QQ:=p2 _
theorem cast_mul_pow (c n:Nat):((c*2^n:Nat):Int)=(c:Int)*2^n:=by rw [Int.natCast_mul,p2n]
theorem MX_ge:31*QQ≤(MX:Int):=by
 have e:MX=9007199254740991*2^2045:=by
  have:MX=U 52 (2045*2^52+9007199254740991):=rfl
  rw [this,U_parts (by decide) (by decide)]
 have e2:QQ=281474976710656*2^2045:=by
  exact (Int.pow_add 2 48 2045)
 have e3:(MX:Int)=9007199254740991*2^2045:=(congrArg Nat.cast e).trans (cast_mul_pow 9007199254740991 2045)
 clear e
 have:=p2 2045
 generalize (2:Int)^2045=x at *
 omega
theorem nm_QQ {c:Int} (h:c.natAbs≤9007199254740992):Nm (c*QQ):=nm_mul _ h
theorem pl_rd {a b:Nat} (ha:Fnt a) (hb:Fnt b) (h:((S D a+S D b).natAbs:Int)≤MX):Rd (S D a+S D b) (S D (pl a b))∧Fnt (pl a b):=by
 have e:pl a b=wr D (neg D a&&neg D b) (S D a+S D b):=by
  show stepOf (D.add a b)=_
  rw [add_num (show rung D a<D.infRung from ha.2) (show rung D b<D.infRung from hb.2),stepOf_num (wr_mod _ _)]
 rw [e]
 exact S_wr (by unfold MX at h;omega)
theorem mi_rd {a b:Nat} (ha:Fnt a) (hb:Fnt b) (h:((S D a - S D b).natAbs:Int)≤MX):Rd (S D a - S D b) (S D (mi a b))∧Fnt (mi a b):=by
 have e:mi a b=wr D (neg D a && !neg D b) (S D a - S D b):=by
  show stepOf (D.sub a b)=_
  rw [sub_num (show rung D a<D.infRung from ha.2) (show rung D b<D.infRung from hb.2),stepOf_num (wr_mod _ _)]
 rw [e]
 exact S_wr (by unfold MX at h;omega)
theorem ti_rd {a b:Nat} (ha:Fnt a) (hb:Fnt b) (hk:(∃ x,S D a*S D b=x*2^KK)∨4503599627370496*2^KK≤((S D a*S D b).natAbs:Int)) (h:((S D a*S D b).natAbs:Int)≤MX*2^KK) :
  Rd (S D a*S D b) (S D (ti a b)*2^KK)∧Fnt (ti a b):=by
 have e0:S D a*S D b=sgn (neg D a ^^ neg D b) (U 52 (rung D a)*U 52 (rung D b)):=sgn_mul_sgn _ _ _ _
 have e:ti a b=wrk D KK (neg D a ^^ neg D b) (U 52 (rung D a)*U 52 (rung D b)):=by
  show stepOf (D.mul a b)=_
  rw [mul_num (k:=KK) (by rw [D_least];rfl) (show rung D a<D.infRung from ha.2) (show rung D b<D.infRung from hb.2),stepOf_num (wrk_mod _ _ _)];rfl
 rw [e,e0]
 rw [e0,sgn_natAbs] at h hk
 have hc:=p2n KK
 refine S_wrk ?_ ?_
 ·rcases hk with ⟨x,hx⟩ | hk
  ·left
   refine ⟨x.natAbs,?_⟩
   have:=congrArg Int.natAbs hx
   rwa [sgn_natAbs,Int.natAbs_mul,p2a] at this
  ·right
   rw [← hc] at hk
   refine Int.ofNat_le.1 ?_
   rw [Int.natCast_mul];exact hk
 ·rw [← hc] at h
  rw [← MX_def]
  refine Int.ofNat_le.1 ?_
  rw [Int.natCast_mul];exact h
theorem ti_rd' {a b:Nat} (ha:Fnt a) (hb:Fnt b) {x:Int} (hx:S D a*S D b=x*2^KK) (h:(x.natAbs:Int)≤MX):Rd x (S D (ti a b))∧Fnt (ti a b):=by
 obtain ⟨h1,h2⟩:=ti_rd ha hb (.inl ⟨x,hx⟩) (by rw [hx];exact abs_le (p2 _) h)
 refine ⟨⟨nm_S h2,fun s hs => ?_⟩,h2⟩
 rw [hx] at h1
 obtain ⟨m,e,es,hm⟩:=hs
 have:=h1.2 (s*2^KK) ⟨m,e+KK,by rw [es,Int.pow_add,Int.mul_assoc],hm⟩
 rw [← Int.sub_mul,← Int.sub_mul,Int.natAbs_mul,Int.natAbs_mul,p2a] at this
 exact Nat.le_of_mul_le_mul_right this (two_pow_pos KK)

theorem sm_exact {a b:Nat} (ha:Fnt a) (hb:Fnt b) (la:((S D a).natAbs:Int)≤8*QQ) (lb:((S D b).natAbs:Int)≤8*QQ) :
  Fnt (sm a b).1∧Fnt (sm a b).2∧Rd (S D a+S D b) (S D (sm a b).1)∧S D (sm a b).1+S D (sm a b).2=S D a+S D b:=by
 have M:=MX_ge
 have Qp:=QQ_pos
 have na:=nm_S ha
 have nb:=nm_S hb
 unfold sm
 obtain ⟨r1,f1⟩:=pl_rd ha hb (by omega)
 have b1:=rd_abs_le r1 (nm_QQ (c:=16) (by decide)) (by omega)
 have d1:=r1.2 _ na
 have d2:=r1.2 _ nb
 have err:=rd_err 2044 r1 (by
  have:(2:Int)^(53+2044)=16*QQ:=Int.pow_add 2 4 2093
  rw [this];omega)
 have eq:QQ=562949953421312*2^2044:=Int.pow_add 2 49 2044
 generalize (2:Int)^2044=y at err eq
 obtain ⟨r2,f2⟩:=mi_rd f1 ha (by omega)
 have d3:=r2.2 _ nb
 obtain ⟨r3,f3⟩:=mi_rd f1 f2 (by omega)
 have d4:=r3.2 _ na
 obtain ⟨r4,f4⟩:=mi_rd ha f3 (by omega)
 obtain ⟨r5,f5⟩:=mi_rd hb f2 (by omega)
 have d5:=r4.2 _ nm_zero
 have d6:=r5.2 _ nm_zero
 obtain ⟨r6,f6⟩:=pl_rd f4 f5 (by omega)
 have:=twosum na nb r1 r2 r3 r4 r5 r6
 exact ⟨f1,f6,r1,by simp only;omega⟩

def Ab (l:List Nat):Nat:=(l.map (fun a=>(S D a).natAbs)).sum
def Sm (l:List Nat):Int:=(l.map (S D)).sum
theorem Ab_nil:Ab []=0:=rfl
theorem Sm_nil:Sm []=0:=rfl
theorem Ab_cons (a:Nat) (l:List Nat):Ab (a::l)=(S D a).natAbs+Ab l:=by simp [Ab]
theorem Sm_cons (a:Nat) (l:List Nat):Sm (a::l)=S D a+Sm l:=by simp [Sm]
theorem Ab_append (l m:List Nat):Ab (l++m)=Ab l+Ab m:=by simp [Ab]
theorem Sm_append (l m:List Nat):Sm (l++m)=Sm l+Sm m:=by simp [Sm]
def Pot (s A N:Nat):Prop:=2251799813685248*A≤(2251799813685248+s)*N
theorem Pot.mono {s t A B N:Nat} (h:Pot s A N) (hs:s≤t) (hB:B≤A):Pot t B N:=by
 unfold Pot at *
 have:=Nat.mul_le_mul_right N (show 2251799813685248+s≤2251799813685248+t by omega)
 omega
theorem Pot.add {s A N:Nat} (h:Pot s A N) (M:Nat):Pot s (A+M) (N+M):=by
 unfold Pot at *
 have:=Nat.mul_add (2251799813685248+s) N M
 have:=Nat.add_mul 2251799813685248 s M
 omega
theorem Pot.le {s A N:Nat} (h:Pot s A N) (hs:s≤2251799813685248):A≤2*N:=by
 unfold Pot at h
 have:=Nat.mul_le_mul_right N (show 2251799813685248+s≤4503599627370496 by omega)
 omega
theorem Pot.step {s A A' N:Nat} (h:Pot s A N) (hs:s≤2251799813685248) (h2:4503599627370496*A'≤4503599627370497*A):Pot (s+1) A' N:=by
 unfold Pot at *
 have h3:4503599627370497*(2251799813685248*A)≤4503599627370497*((2251799813685248+s)*N):=Nat.mul_le_mul_left _ h
 have h4:4503599627370497*(2251799813685248+s)≤4503599627370496*(2251799813685248+(s+1)):=by omega
 have h5:=Nat.mul_le_mul_right N h4
 rw [Nat.mul_assoc,Nat.mul_assoc] at h5
 generalize (2251799813685248+s)*N=X at *
 generalize (2251799813685248+(s+1))*N=Y at *
 omega
theorem sm_small {a b:Nat} (ha:Fnt a) (hb:Fnt b) (la:((S D a).natAbs:Int)≤8*QQ) (lb:((S D b).natAbs:Int)≤8*QQ) :
  4503599627370496*((S D (sm a b).1).natAbs+(S D (sm a b).2).natAbs)≤4503599627370497*((S D a).natAbs+(S D b).natAbs):=by
 obtain ⟨f1,f2,r,e⟩:=sm_exact ha hb la lb
 have hlo:9007199254740992*(S D (sm a b).2).natAbs≤(S D a+S D b).natAbs:=by
  by_cases c:(9007199254740992:Int)<(S D a+S D b).natAbs
  ·obtain ⟨g,g1,g2⟩:=top c
   have:=rd_err (g+1) r g2
   have e2:S D a+S D b - S D (sm a b).1=S D (sm a b).2:=by omega
   rw [e2] at this
   rw [p52] at g1
   generalize (2:Int)^(g+1)=y at *
   omega
  ·have hn:Nm (S D a+S D b):=nm_small (by omega)
   have:=rd_exact hn r
   omega
 generalize S D a=x at *
 generalize S D b=y at *
 generalize S D (sm a b).1=h at *
 generalize S D (sm a b).2=l at *
 omega
theorem ne_zero {t:Nat} (h:Fnt t):(FloatKind.f64.format.order t 0 != some .eq)=decide (S D t≠0):=by
 have e:FloatKind.f64.format.order t 0=some (compare (S D t) 0):=by
  have:=order_eq (f:=D) (by decide) (a:=t) (b:=0) (by unfold nan;have:=h.2;show ¬ _<t%9223372036854775808;rw [D_inf];omega) (by unfold nan;show ¬ _<0%9223372036854775808;rw [D_inf];omega)
  exact this
 rw [e]
 by_cases c:S D t=0
 ·rw [c];rfl
 ·simp only [ne_eq,c,not_false_eq_true,decide_true]
  rcases Int.lt_trichotomy (S D t) 0 with h | h | h
  ·have:compare (S D t) 0 = .lt:=Int.compare_eq_lt.2 h
   rw [this];rfl
  ·exact absurd h c
  ·have:compare (S D t) 0 = .gt:=Int.compare_eq_gt.2 h
   rw [this];rfl
def All (l:List Nat):Prop:=∀ a ∈ l,Fnt a
theorem All.nil:All []:=by intro a h;cases h
theorem All.snoc {l:List Nat} (h:All l) {a:Nat} (ha:Fnt a):All (l++[a]):=by
 intro b hb
 rcases List.mem_append.1 hb with hb | hb
 ·exact h b hb
 ·rw [List.mem_singleton.1 hb];exact ha
theorem All.append {l m:List Nat} (h:All l) (h2:All m):All (l++m):=by
 intro b hb
 rcases List.mem_append.1 hb with hb | hb
 ·exact h b hb
 ·exact h2 b hb
theorem ar0 {X Y A H L O Z:Nat} (h:4503599627370496*(H+L)≤4503599627370497*(X+Y)) (hL:L=0):4503599627370496*(H+O+A+Z)≤4503599627370497*(X+O+(Y+A)+Z):=by omega
theorem ar1 {X Y A H L O Z:Nat} (h:4503599627370496*(H+L)≤4503599627370497*(X+Y)):4503599627370496*(H+(O+(L+0))+A+Z)≤4503599627370497*(X+O+(Y+A)+Z):=by omega
theorem ar2 {X O Y A Z N:Nat} {Q:Int} (hN:(N:Int)≤4*Q) (h:X+O+(Y+A)+Z≤2*N):(X:Int)≤8*Q∧(Y:Int)≤8*Q:=by omega
theorem ar3 {a b c d e f g:Int} (h:a+b=c+d) (hd:b=0):a+e+f=c+e+(d+f):=by omega
theorem ar4 {a b c d e f g:Int} (h:a+b=c+d):a+(e+(b+0))+f=c+e+(d+f):=by omega
set_option maxHeartbeats 1000000 in
theorem grown_loop {l:List Nat} (hl:All l) (hll:l.length≤1099511627776) {N Z:Nat} (hN:(N:Int)≤4*QQ):∀ (m i s x:Nat) (out:List Nat),l.length - i=m→i≤l.length→Fnt x→All out→out.length+m+1≤17592186044416→s+m≤2251799813685248 →
  Pot s ((S D x).natAbs+Ab out+Ab (l.drop i)+Z) N →
  ∃ r,Evl (fun k=>spread_grown.l0 k x out l (l.length:Int) (i:Int)) r∧All r∧r.length≤out.length+m+1∧Pot (s+m) (Ab r+Z) N∧Sm r=S D x+Sm out+Sm (l.drop i):=by
 intro m
 induction m with
 | zero =>
  intro i s x out hm hi hx ho hol hs hp
  have hil:i=l.length:=by omega
  have hnz:=ne_zero hx
  by_cases c:S D x=0
  ·refine ⟨out,Evl.step ⟨0,fun k _ => ?_⟩,ho,by omega,?_,?_⟩
   ·show spread_grown.l0 (k+1) _ _ _ _ _=_
    rw [spread_grown.l0,if_neg (by omega),if_neg (by rw [hnz];simp [c])]
   ·exact hp.mono (by omega) (by omega)
   ·rw [hil,List.drop_length,Sm_nil,c];omega
  ·refine ⟨out++[x],Evl.step ⟨0,fun k _ => ?_⟩,ho.snoc hx,by simp,?_,?_⟩
   ·show spread_grown.l0 (k+1) _ _ _ _ _=_
    rw [spread_grown.l0,if_neg (by omega),if_pos (by rw [hnz];simp [c]),if_pos (by omega)]
   ·refine hp.mono (by omega) ?_
    rw [Ab_append,Ab_cons,Ab_nil];omega
   ·rw [hil,List.drop_length,Sm_nil,Sm_append,Sm_cons,Sm_nil];omega
 | succ m ih =>
  intro i s x out hm hi hx ho hol hs hp
  have hil:i<l.length:=by omega
  have hdr:=List.drop_eq_getElem_cons hil
  generalize hy:l[i]=y at hdr
  have hrd:rdOf (0:Nat) l (i:Int)=y:=by
   unfold rdOf;rw [Int.toNat_natCast,List.getD_eq_getElem?_getD,List.getElem?_eq_getElem hil,hy];rfl
  have hyf:Fnt y:=hl y (by rw [← hy];exact List.getElem_mem hil)
  rw [hdr,Ab_cons] at hp
  have h2:=hp.le (by omega)
  obtain ⟨lx,ly⟩:=ar2 hN h2
  obtain ⟨f1,f2,r,e⟩:=sm_exact hx hyf lx ly
  have hsm:=sm_small hx hyf lx ly
  have hnz:=ne_zero f2
  have hps:=PSum x y
  generalize sm x y=p at f1 f2 r e hsm hnz hps
  obtain ⟨ph,pl⟩:=p
  dsimp only at f1 f2 r e hsm hnz
  have a1:l.length - (i+1)=m:=by omega
  have a2:i+1≤l.length:=by omega
  have a3:out.length+m+1≤17592186044416:=by omega
  have a4:s+1+m≤2251799813685248:=by omega
  have a5:s≤2251799813685248:=by omega
  have a6:out.length+1+m+1≤17592186044416:=by omega
  have a7:(i:Int)<(l.length:Int):=by omega
  have a8:(0:Int)≤(i:Int):=by omega
  have a9:s+(m+1)=s+1+m:=by omega
  have a10:out.length<17592186044416:=by omega
  have hw:wrap64 ((i:Int)+1)=((i+1:Nat):Int):=by rw [wrap64_id (by omega) (by omega)];omega
  rcases Decidable.em (S D pl=0) with c | c
  ·obtain ⟨q,q1,q2,q3,q4,q5⟩:=ih (i+1) (s+1) ph out a1 a2 f1 ho a3 a4 (hp.step a5 (ar0 hsm (by rw [c];rfl)))
   refine ⟨q,Evl.step ?_,q2,Nat.le_succ_of_le q3,by rw [a9];exact q4,?_⟩
   ·obtain ⟨k0,hk⟩:=q1
    refine ⟨k0,fun k hkk => ?_⟩
    show spread_grown.l0 (k+1) _ _ _ _ _=_
    rw [spread_grown.l0,if_pos a7,if_pos a8,if_pos a7,hrd,hps,Option.bind_some]
    dsimp only
    rw [if_neg (by rw [hnz];simp [c]),hw]
    exact hk k hkk
   ·rw [q5,hdr,Sm_cons];exact ar3 (g:=0) e c
  ·obtain ⟨q,q1,q2,q3,q4,q5⟩:=ih (i+1) (s+1) ph (out++[pl]) a1 a2 f1 (ho.snoc f2) (by rw [List.length_append];exact a6) a4 (by
    rw [Ab_append,Ab_cons,Ab_nil]
    exact hp.step a5 (ar1 hsm))
   refine ⟨q,Evl.step ?_,q2,by rw [List.length_append] at q3;exact Nat.le_trans q3 (Nat.le_of_eq (by simp only [List.length_singleton];clear hw;omega)),by rw [a9];exact q4,?_⟩
   ·obtain ⟨k0,hk⟩:=q1
    refine ⟨k0,fun k hkk => ?_⟩
    show spread_grown.l0 (k+1) _ _ _ _ _=_
    rw [spread_grown.l0,if_pos a7,if_pos a8,if_pos a7,hrd,hps,Option.bind_some]
    dsimp only
    rw [if_pos (by rw [hnz];simp [c]),if_pos a10,hw]
    exact hk k hkk
   ·rw [q5,hdr,Sm_cons,Sm_append,Sm_cons,Sm_nil];exact ar4 (g:=0) e
theorem grown_ok {l:List Nat} (hl:All l) (hll:l.length≤1099511627776) {N Z s x:Nat} (hN:(N:Int)≤4*QQ) (hx:Fnt x) (hs:s+l.length≤2251799813685248) (hp:Pot s ((S D x).natAbs+Ab l+Z) N) :
  ∃ r,Evl (fun k=>spread_grown.f k l x) r∧All r∧r.length≤l.length+1∧Pot (s+l.length) (Ab r+Z) N∧Sm r=S D x+Sm l:=by
 obtain ⟨r,r1,r2,r3,r4,r5⟩:=grown_loop hl hll (Z:=Z) hN l.length 0 s x [] (by omega) (by omega) hx All.nil (by simp;omega) hs (by rw [List.drop_zero,Ab_nil];exact hp)
 refine ⟨r,r1,r2,by simp at r3;omega,r4,?_⟩
 rw [r5,List.drop_zero,Sm_nil];omega
theorem Abs_eq {x:Nat} (h:x<18446744073709551616):math_Abs.f x=some (x%9223372036854775808):=by
 unfold math_Abs.f
 rw [u64_andNot63 (by omega) (by omega)]
 congr 1
theorem Ldexp_one:math_Ldexp.f 4607182418800017408 900=some 8660422083433463808:=by decide +kernel
theorem ord_abs {a b:Nat} (ha:a<9223372036854775808) (hb:b<9223372036854775808) (ha2:a≤9218868437227405312) (hb2:b≤9218868437227405312) :
  FloatKind.f64.format.order a b=some (compare a b):=by
 have:=D_order (a:=a) (b:=b) (by omega) (by omega)
 refine this.trans ?_
 rw [K_eq (by omega),K_eq (by omega),if_neg (by omega),if_neg (by omega)]
 congr 1
 rcases Nat.lt_trichotomy a b with h | h | h
 ·rw [Nat.compare_eq_lt.2 h];exact Int.compare_eq_lt.2 (by omega)
 ·subst h
  rw [Nat.compare_eq_eq.2 rfl];exact Int.compare_eq_eq.2 rfl
 ·rw [Nat.compare_eq_gt.2 h];exact Int.compare_eq_gt.2 (by omega)
theorem ord_self {x:Nat} (h:x%9223372036854775808≤9218868437227405312):FloatKind.f64.format.order x x=some .eq:=by
 have:=D_order (a:=x) (b:=x) (by omega) (by omega)
 refine this.trans ?_
 rw [Int.compare_eq_eq.2 rfl]
set_option maxRecDepth 10000 in
theorem place_bits {x E:Nat} (hx:x<18446744073709551616) (hE:E<2048) :
  (x &&& (18446744073709551615 - 9218868437227405312)) ||| (E*4503599627370496)=x / 9223372036854775808*9223372036854775808+E*4503599627370496+x%4503599627370496:=by
 have e1:(18446744073709551615 - 9218868437227405312:Nat)=2^63 ||| (2^52 - 1):=by decide +kernel
 have hq:x &&& 2^63=x / 2^63*2^63:=by
  have a:=u64_and63 (x:=(x:Int)) (by omega) (by omega)
  have b:=u64_and_nat x 9223372036854775808 hx (by decide)
  have h9:((9223372036854775808:Nat):Int)=9223372036854775808:=by decide
  rw [h9] at b
  have c:=b.symm.trans a
  have d:(2:Nat)^63=9223372036854775808:=by decide
  rw [d]
  omega
 rw [e1,Nat.and_or_distrib_left,Nat.and_two_pow_sub_one_eq_mod,hq]
 have a1:=Nat.two_pow_add_eq_or_of_lt (i:=52) (b:=x%2^52) (Nat.mod_lt _ (by decide)) E
 have a2:=Nat.two_pow_add_eq_or_of_lt (i:=63) (b:=2^52*E+x%2^52) (by omega) (x / 2^63)
 have c1:E*4503599627370496=2^52*E:=Nat.mul_comm _ _
 have c2:x / 2^63*2^63=2^63*(x / 2^63):=Nat.mul_comm _ _
 rw [c1,c2,Nat.or_assoc,Nat.or_comm (x%2^52),← a1,← a2]
 omega
def dn (x:Nat):Nat:=x / 9223372036854775808*9223372036854775808+(x / 4503599627370496%2048 - 200)*4503599627370496+x%4503599627370496
theorem dn_facts {x:Nat} (h2:x%9223372036854775808<9218868437227405312) (hg:8660422083433463808≤x%9223372036854775808) :
  1923≤x / 4503599627370496%2048∧x / 4503599627370496%2048≤2046∧dn x+200*4503599627370496=x∧dn x%9223372036854775808+200*4503599627370496=x%9223372036854775808∧dn x / 9223372036854775808=x / 9223372036854775808:=by
 have hE:1923≤x / 4503599627370496%2048∧x / 4503599627370496%2048≤2046:=by omega
 have hzx:dn x+200*4503599627370496=x:=by unfold dn;omega
 exact ⟨hE.1,hE.2,hzx,by omega,by omega⟩
set_option maxHeartbeats 1000000 in
theorem Ldexp_bits {x:Nat} (h1:x<18446744073709551616) (h2:x%9223372036854775808<9218868437227405312) (hg:8660422083433463808≤x%9223372036854775808) :
  math_Ldexp.f x (-200)=(if (FloatKind.f64.format.mul 4607182418800017408 (dn x)).isSome=true then some ((FloatKind.f64.format.mul 4607182418800017408 (dn x)).getD 0) else none).bind fun t=>some t:=by
 obtain ⟨e1,e2,-, -, -⟩:=dn_facts h2 hg
 have hE:=And.intro e1 e2
 obtain ⟨z,hz⟩:∃ z,z=dn x:=⟨_,rfl⟩
 rw [← hz]
 unfold dn at hz
 have o1:(FloatKind.f64.format.order x 0 == some .eq)=false:=by
  have:=D_order (a:=x) (b:=0) (by omega) (by decide)
  rw [show FloatKind.f64.format.order x 0=_ from this,K_eq h1,K_eq (by decide),if_neg (c:=9223372036854775808≤0) (by decide)]
  split
  ·rw [Int.compare_eq_lt.2 (by omega)];rfl
  ·rw [Int.compare_eq_gt.2 (by omega)];rfl
 have o2:math_IsInf.f x 0=some false:=by
  unfold math_IsInf.f
  rw [if_pos rfl,Abs_eq h1,Option.bind_some,ord_abs (by omega) (by decide) (by omega) (by decide)]
  congr 1
  rcases Nat.lt_or_ge (x%9223372036854775808) 9218868437227405311 with h | h
  ·rw [Nat.compare_eq_lt.2 h];rfl
  ·rw [Nat.compare_eq_eq.2 (by omega)];rfl
 have o3:math_IsNaN.f x=some false:=by
  unfold math_IsNaN.f
  rw [ord_self (by omega)];rfl
 have o4:math_normalize.f x=some (x,0):=by
  unfold math_normalize.f
  rw [Abs_eq h1,Option.bind_some,ord_abs (by omega) (by decide) (by omega) (by decide),Nat.compare_eq_gt.2 (by omega),if_neg (by decide)]
 unfold math_Ldexp.f math_ldexp.f
 rw [if_neg (by rw [o1];decide),o2,Option.bind_some,if_neg (by decide),o3,Option.bind_some,if_neg (by decide),o4,Option.bind_some]
 dsimp only
 have w1:wrap64 ((x:Int) / 4503599627370496)=((x / 4503599627370496:Nat):Int):=by rw [wrap64_id (by omega) (by omega)];omega
 rw [w1,i64_and11 (by omega) (by omega)]
 obtain ⟨E,hEe⟩:∃ E,E=x / 4503599627370496%2048:=⟨_,rfl⟩
 rw [show (((x / 4503599627370496:Nat):Int)%2048)=(E:Int) by omega]
 rw [← hEe] at hE hz
 have w2:wrap64 (-200+0) = -200:=by decide +kernel
 have w3:wrap64 ((E:Int) - 1023)=(E:Int) - 1023:=wrap64_id (by omega) (by omega)
 have w4:wrap64 (-200+((E:Int) - 1023))=(E:Int) - 1223:=by rw [wrap64_id (by omega) (by omega)];omega
 rw [w2,w3,w4,if_neg (by omega),if_neg (by omega),if_neg (by omega)]
 have w5:wrap64 ((E:Int) - 1223+1023)=((E - 200:Nat):Int):=by rw [wrap64_id (by omega) (by omega)];omega
 rw [w5,wraps_u64 ((E - 200:Nat):Int) (by omega) (by omega),wraps_u64 (((E - 200:Nat):Int)*4503599627370496) (by omega) (by omega)]
 have w6:(((E - 200:Nat):Int)*4503599627370496)=(((E - 200)*4503599627370496:Nat):Int):=by rw [Int.natCast_mul];rfl
 have b1:=u64_andNot_nat x 9218868437227405312 h1 (by decide)
 rw [show ((9218868437227405312:Nat):Int)=9218868437227405312 from rfl] at b1
 have b2:x &&& (18446744073709551615 - 9218868437227405312)<18446744073709551616:=Nat.lt_of_le_of_lt Nat.and_le_left h1
 rw [w6,b1,u64_or_nat _ _ b2 (by omega),place_bits h1 (by omega),← hz,Int.toNat_natCast]
theorem U_place {E f:Nat} (hE:1≤E) (hf:f<4503599627370496):U 52 (E*4503599627370496+f)=(4503599627370496+f)*2^(E - 1):=by
 have h:=U_parts (p:=52) (e:=E - 1) (k:=4503599627370496+f) (Nat.le_add_right _ _) (Nat.add_lt_add_left hf _)
 have e:(E - 1)*2^52+(4503599627370496+f)=E*4503599627370496+f:=by
  obtain ⟨j,rfl⟩:∃ j,E=j+1:=⟨E - 1,by omega⟩
  rw [Nat.add_sub_cancel,Nat.add_mul,show (2:Nat)^52=4503599627370496 by decide +kernel]
  clear h
  omega
 rwa [e] at h
theorem U_up {E f:Nat} (hE:1≤E) (hf:f<4503599627370496) (j:Nat):U 52 ((E+j)*4503599627370496+f)=U 52 (E*4503599627370496+f)*2^j:=by
 rw [U_place hE hf,U_place (by omega) hf,Nat.mul_assoc,← Nat.pow_add,show E+j - 1=E - 1+j by omega]
theorem sgn_pow (s:Bool) (u j:Nat):sgn s u*2^j=sgn s (u*2^j):=by
 cases s
 ·show (u:Int)*2^j=((u*2^j:Nat):Int)
  rw [Int.natCast_mul,p2n]
 ·show -(u:Int)*2^j = -((u*2^j:Nat):Int)
  rw [Int.natCast_mul,p2n,Int.neg_mul]
theorem dn_value {x:Nat} (h2:x%9223372036854775808<9218868437227405312) (hg:8660422083433463808≤x%9223372036854775808) {j:Nat} (hj:j=200):S D (dn x)*2^j=S D x:=by
 obtain ⟨e1,e2,e3,e4,e5⟩:=dn_facts h2 hg
 obtain ⟨E,hE⟩:∃ E,E=x / 4503599627370496%2048 - j:=⟨_,rfl⟩
 obtain ⟨f,hf⟩:∃ f,f=x%4503599627370496:=⟨_,rfl⟩
 have a1:x%9223372036854775808=(E+j)*4503599627370496+f:=by omega
 have a2:dn x%9223372036854775808=E*4503599627370496+f:=by omega
 have a3:f<4503599627370496:=by omega
 have a4:1≤E:=by omega
 unfold S
 have hn:neg D (dn x)=neg D x:=by unfold neg;rw [D_sign,e5]
 rw [hn,D_rung,D_rung,a1,a2]
 show sgn _ (U 52 _)*_=sgn _ (U 52 _)
 rw [U_up a4 a3,sgn_pow]
theorem mul_one {o z:Nat} (ho:Fnt o) (hS:S D o=2^KK) (hz:Fnt z):∃ y,FloatKind.f64.format.mul o z=some y∧Fnt y∧S D y=S D z:=by
 have e:=mul_num (f:=D) (a:=o) (b:=z) (k:=KK) (by rw [D_least];rfl) ho.2 hz.2
 have e2:ti o z=stepOf (D.mul o z):=rfl
 rw [e,stepOf_num (wrk_mod _ _ _)] at e2
 obtain ⟨r1,r2⟩:=ti_rd' ho hz (x:=S D z) (by rw [hS,Int.mul_comm]) (by
  have:=S_le hz
  rw [MX_def]
  exact Int.ofNat_le.2 this)
 rw [← e2] at e
 exact ⟨ti o z,e,r2,rd_exact (nm_S hz) r1⟩
theorem S_one:S D 4607182418800017408=2^KK:=by
 obtain ⟨E,hE⟩:∃ E:Nat,E=1023:=⟨_,rfl⟩
 have hx:(4607182418800017408:Nat)=E*4503599627370496+0:=by subst hE;decide +kernel
 have a:S D 4607182418800017408=(U 52 4607182418800017408:Int):=rfl
 have hk:52+(E - 1)=KK:=by subst hE;rfl
 rw [a,hx,U_place (by omega) (by decide),show (4503599627370496+0:Nat)=2^52 by decide +kernel,← Nat.pow_add,hk,p2n]
theorem Ldexp_down {x:Nat} (hx:Fnt x) (hg:8660422083433463808≤x%9223372036854775808):∃ y,math_Ldexp.f x (-200)=some y∧Fnt y∧S D y*2^200=S D x:=by
 have hv:=dn_value hx.2 hg rfl
 have hzf:Fnt (dn x):=by
  obtain ⟨-, -, e3,e4,-⟩:=dn_facts hx.2 hg
  obtain ⟨h1,h2⟩:=hx
  clear hv
  exact ⟨by omega,by omega⟩
 obtain ⟨y,y1,y2,y3⟩:=mul_one ⟨by decide,by decide⟩ S_one hzf
 refine ⟨y,?_,y2,by rw [y3];exact hv⟩
 rw [Ldexp_bits hx.1 hx.2 hg,y1,if_pos Option.isSome_some,Option.getD_some,Option.bind_some]
end Go.Proofs.YthimlebkjnajpaaDoor.P08
namespace Go.Proofs.YthimlebkjnajpaaDoor.P08
open Go.Proofs.YthimlebkjnajpaaDoorW.PrintWords
open Go Go.RowKit Go.Proofs.YthimlebkjnajpaaDoor.Pr Go.Proofs.YthimlebkjnajpaaDoorW.PrintLast Go.Proofs.YthimlebkjnajpaaDoorW.FL Go.Proofs.YthimlebkjnajpaaDoor.R02 Go.Proofs.YthimlebkjnajpaaDoorW.RN Go.Proofs.YthimlebkjnajpaaDoorW.EV Go.Proofs.YthimlebkjnajpaaDoorW.NA
open Go.Proofs.YthimlebkjnajpaaDoor.P02 (ans cd_parts odd_len form_cd Of_cd Add_cd Sub_cd Sign_cd Round_cd rnd)
open Go.Proofs.YthimlebkjnajpaaDoor.Sp (gfold efold0 efold1 prt cl)
open Ieee
set_option linter.unusedVariables false
set_option linter.unusedSimpArgs false
def LW:Int:=2^200
def BB:Nat:=U 52 8660422083433463808
theorem U_pow {E:Nat} (h:1≤E):U 52 (E*4503599627370496)=2^(52+(E - 1)):=by
 have:=U_place h (f:=0) (by decide)
 rw [Nat.add_zero,Nat.add_zero] at this
 rw [this,show (4503599627370496:Nat)=2^52 by decide +kernel,← Nat.pow_add]
theorem BB_two {E:Nat} (hE:E=1923):BB=2^(52+(E - 1)):=by
 unfold BB
 rw [show (8660422083433463808:Nat)=E*4503599627370496 by subst hE;decide +kernel]
 exact U_pow (by omega)
theorem BB_eq:(BB:Int)*2^119=QQ:=by
 obtain ⟨E,hE⟩:∃ E:Nat,E=1923:=⟨_,rfl⟩
 obtain ⟨M,hM⟩:∃ M:Nat,M=2093:=⟨_,rfl⟩
 have hq:QQ=2^M:=by subst hM;rfl
 rw [hq,BB_two hE,p2n,← Int.pow_add,show 52+(E - 1)+119=M by omega]
theorem N_le {q:Nat} (h:q≤1099511627776):((q*BB:Nat):Int)≤4*QQ:=by
 rw [← BB_eq,Int.natCast_mul]
 have h1:(q:Int)*(BB:Int)≤1099511627776*BB:=Int.mul_le_mul_of_nonneg_right (by omega) (by omega)
 have h2:(2:Int)^119=1099511627776*604462909807314587353088:=by decide +kernel
 rw [h2]
 generalize (q:Int)*BB=X at *
 omega
def Ok (s q:Nat) (P L:List Nat) (T:Int):Prop :=
 All P∧All L∧P.length≤q∧L.length≤q∧Pot s (Ab P) (q*BB)∧Pot s (Ab L) (q*BB)∧Sm P+Sm L*LW=T∧T.natAbs≤q*MX
theorem Ok.nil:Ok 0 0 [] [] 0:=⟨All.nil,All.nil,by decide,by decide,by unfold Pot;simp [Ab_nil],by unfold Pot;simp [Ab_nil],by rw [Sm_nil];omega,by simp⟩
theorem S_le_MX {x:Nat} (h:Fnt x):(S D x).natAbs≤MX:=by rw [MX_def];exact S_le h
theorem Ok.plain {s q:Nat} {P L:List Nat} {T:Int} {x:Nat} (h:Ok s q P L T) (hq:q≤1000000) (hs:s≤1125899906842624) (hx:Fnt x) (hl:x%9223372036854775808<8660422083433463808) :
  ∃ P',Evl (fun k=>spread_grown.f k P x) P'∧Ok (s+q) (q+1) P' L (T+S D x):=by
 obtain ⟨a1,a2,a3,a4,a5,a6,a7,a8⟩:=h
 have hb:(S D x).natAbs≤BB:=by
  unfold S
  rw [sgn_natAbs]
  exact Nat.le_of_lt (U_lt hl)
 have hp:Pot s (Ab P+BB) (q*BB+BB):=a5.add BB
 have e:q*BB+BB=(q+1)*BB:=by rw [Nat.add_mul,Nat.one_mul]
 rw [e] at hp
 obtain ⟨r,r1,r2,r3,r4,r5⟩:=grown_ok a1 (x:=x) (Z:=0) (N:=(q+1)*BB) (s:=s) (by omega) (N_le (by omega)) hx (by omega) (hp.mono (Nat.le_refl _) (by omega))
 refine ⟨r,r1,r2,a2,by omega,by omega,r4.mono (by omega) (by omega),?_,by rw [r5];omega,?_⟩
 ·have:=a6.add BB
  rw [e] at this
  exact this.mono (by omega) (by omega)
 ·have:=S_le_MX hx
  rw [Nat.add_mul,Nat.one_mul]
  generalize q*MX=z at *
  omega
theorem Ok.large {s q:Nat} {P L:List Nat} {T:Int} {x y:Nat} (h:Ok s q P L T) (hq:q≤1000000) (hs:s≤1125899906842624) (hx:Fnt x) (hy:Fnt y) (he:S D y*2^200=S D x) :
  ∃ L',Evl (fun k=>spread_grown.f k L y) L'∧Ok (s+q) (q+1) P L' (T+S D x):=by
 obtain ⟨a1,a2,a3,a4,a5,a6,a7,a8⟩:=h
 have hb:(S D y).natAbs≤BB:=by
  have h1:=S_le_MX hx
  have h2:=MX_ge
  have h3:MX≤U 52 9218868437227405312:=by rw [MX_def];exact U_le (by decide)
  have h4:U 52 9218868437227405312=BB*2^124:=by
   have e1:(9218868437227405312:Nat)=(1923+124)*4503599627370496+0:=by decide +kernel
   have e2:(8660422083433463808:Nat)=1923*4503599627370496+0:=by decide +kernel
   unfold BB
   rw [e1,e2,U_up (by decide) (by decide)]
  rw [h4] at h3
  rw [← he,Int.natAbs_mul,p2a] at h1
  have h5:(S D y).natAbs*2^200≤BB*2^124:=Nat.le_trans h1 h3
  have h6:BB*2^124≤BB*2^200:=Nat.mul_le_mul_left _ (Nat.pow_le_pow_right (by decide) (by decide))
  exact Nat.le_of_mul_le_mul_right (Nat.le_trans h5 h6) (Nat.two_pow_pos _)
 have he2:S D y*LW=S D x:=he
 have hp:Pot s (Ab L+BB) (q*BB+BB):=a6.add BB
 have e:q*BB+BB=(q+1)*BB:=by rw [Nat.add_mul,Nat.one_mul]
 rw [e] at hp
 clear he
 obtain ⟨r,r1,r2,r3,r4,r5⟩:=grown_ok a2 (x:=y) (Z:=0) (N:=(q+1)*BB) (s:=s) (by omega) (N_le (by omega)) hy (by omega) (hp.mono (Nat.le_refl _) (by omega))
 refine ⟨r,r1,a1,r2,by omega,by omega,?_,r4.mono (by omega) (by omega),by rw [r5,Int.add_mul,he2];omega,?_⟩
 ·have:=a5.add BB
  rw [e] at this
  exact this.mono (by omega) (by omega)
 ·have:=S_le_MX hx
  rw [Nat.add_mul,Nat.one_mul]
  generalize q*MX=z at *
  omega
end Go.Proofs.YthimlebkjnajpaaDoor.P08
namespace Go.Proofs.YthimlebkjnajpaaDoor.P08
open Go.Proofs.YthimlebkjnajpaaDoorW.PrintWords
open Go Go.RowKit Go.Proofs.YthimlebkjnajpaaDoor.Pr Go.Proofs.YthimlebkjnajpaaDoorW.PrintLast Go.Proofs.YthimlebkjnajpaaDoorW.FL Go.Proofs.YthimlebkjnajpaaDoor.R02 Go.Proofs.YthimlebkjnajpaaDoorW.RN Go.Proofs.YthimlebkjnajpaaDoorW.EV Go.Proofs.YthimlebkjnajpaaDoorW.NA
open Go.Proofs.YthimlebkjnajpaaDoor.P02 (ans cd_parts odd_len form_cd Of_cd Add_cd Sub_cd Sign_cd Round_cd rnd form_nought)
open Go.Proofs.YthimlebkjnajpaaDoor.Sp (gfold efold0 efold1 prt cl)
open Ieee
set_option linter.unusedVariables false
set_option exponentiation.threshold 3000
set_option linter.unusedSimpArgs false
theorem efold0_ok {b:Nat} (hb:b≤100000):∀ (ys:List Nat) (t:Int),All ys→t.natAbs+Ab ys<2^b→Evl (fun k=>efold0 k (cd 1074 t) ys) (cd 1074 (t+Sm ys)):=by
 intro ys
 induction ys with
 | nil=>intro t hy h;rw [Sm_nil,Int.add_zero];exact Evl.pure (fun k=>rfl)
 | cons y ys ih =>
  intro t hy h
  rw [Ab_cons] at h
  have hyf:Fnt y:=hy y List.mem_cons_self
  have e1:=Of_cd hyf
  have e2:=Add_cd (K:=1074) (b:=b) (s:=t) (t:=S D y) (by omega) (by omega) (by omega)
  have e3:=ih (t+S D y) (fun a ha=>hy a (List.mem_cons_of_mem _ ha)) (by omega)
  rw [Sm_cons,← Int.add_assoc]
  exact Evl.bind e1 (Evl.bind e2 e3)
theorem Make_cd {b:Nat} {t:Int} (hb:b≤100000) (h:t.natAbs*2^200<2^b):Evl (fun k=>dyad_Make.f k (cd 1074 t).1 (cd 1074 t).2.1 (wrap64 ((cd 1074 t).2.2+200))) (ans (cd 1074 (t*LW)) 0):=by
 have hm:∀ {s l E d},Evl (fun k=>dyad_form.f k s l E) (ans d 0)→Evl (fun k=>dyad_Make.f k s l E) (ans d 0):=by
  intro s l E d hf
  exact Evl.bind hf (Evl.some _)
 refine hm ?_
 by_cases t0:t=0
 ·subst t0
  rw [Int.zero_mul,cd_zero]
  exact form_nought (by intro x hx;cases hx) (by decide) (V_nil)
 ·have hle:t.natAbs≤t.natAbs*2^200:=Nat.le_mul_of_pos_right _ (Nat.two_pow_pos _)
  obtain ⟨m,n,e1,e2,e3,e4,e5⟩:=cd_parts (K:=1074) (b:=b) (by omega) t0
  have hl:=odd_len e4 (Nat.lt_of_le_of_lt hle h) (by omega)
  have hn:n<b:=by omega
  obtain ⟨j,hj⟩:∃ j:Nat,j=200:=⟨_,rfl⟩
  have hlw:LW=2^j:=by rw [hj];rfl
  have e6:wrap64 ((cd 1074 t).2.2+200)=((n+j:Nat):Int) - 1074:=by
   rw [e3,wrap64_id (by omega) (by omega)];omega
  have e7:(((n+j:Nat):Int) - 1074+(1074:Nat)).toNat=n+j:=by omega
  have ev:V (Cn (2*m+1))*2^(((n+j:Nat):Int) - 1074+(1074:Nat)).toNat=t.natAbs*2^j:=by
   rw [e7,V_Cn,e4,Nat.pow_add,Nat.mul_assoc]
  have hf:=form_cd (s:=decide (t<0)) (l:=Cn (2*m+1)) (E:=((n+j:Nat):Int) - 1074) (K:=1074) (b:=b) (Cn_wf _) (by omega) (by omega) (by rw [ev,hj];exact h) (by omega) (by omega)
  rw [ev] at hf
  have e8:sgn (decide (t<0)) (t.natAbs*2^j)=t*LW:=by
   rw [← sgn_pow,hlw]
   congr 1
   by_cases c:t<0
   ·simp only [c,decide_true];show -((t.natAbs:Nat):Int)=t;omega
   ·simp only [c,decide_false];show ((t.natAbs:Nat):Int)=t;omega
  rw [e8] at hf
  rw [e6,e1,e2]
  exact hf
theorem efold1_ok {b:Nat} (hb:b≤100000):∀ (ys:List Nat) (t:Int),All ys→t.natAbs+Ab ys*2^200<2^b→Evl (fun k=>efold1 k (cd 1074 t) ys) (cd 1074 (t+Sm ys*LW)):=by
 have hlw:LW.natAbs=2^200:=p2a 200
 intro ys
 induction ys with
 | nil=>intro t hy h;rw [Sm_nil,Int.zero_mul,Int.add_zero];exact Evl.pure (fun k=>rfl)
 | cons y ys ih =>
  intro t hy h
  rw [Ab_cons,Nat.add_mul] at h
  have hyf:Fnt y:=hy y List.mem_cons_self
  have hz:(S D y*LW).natAbs=(S D y).natAbs*2^200:=by rw [Int.natAbs_mul,hlw]
  have e1:=Of_cd hyf
  have e1b:=Make_cd (b:=b) (t:=S D y) hb (by omega)
  generalize hzz:S D y*LW=z at *
  have e2:=Add_cd (K:=1074) (b:=b) (s:=t) (t:=z) (by omega) (by omega) (by omega)
  have e3:=ih (t+z) (fun a ha=>hy a (List.mem_cons_of_mem _ ha)) (by omega)
  rw [Sm_cons,Int.add_mul,hzz,← Int.add_assoc]
  exact Evl.bind e1 (Evl.bind e1b (Evl.bind e2 e3))
theorem BB_pow:BB=2^1974:=by
 have h0:(8660422083433463808:Nat)=1923*4503599627370496+0:=by decide +kernel
 unfold BB
 rw [h0,U_place (by decide) (by decide),Nat.add_zero,show (4503599627370496:Nat)=2^52 by decide +kernel,← Nat.pow_add]
theorem MX_lt:MX<2^2098:=by
 have h3:MX≤U 52 9218868437227405312:=by rw [MX_def];exact U_le (by decide)
 have e1:(9218868437227405312:Nat)=2047*4503599627370496+0:=by decide +kernel
 rw [e1,U_place (by decide) (by decide),Nat.add_zero,show (4503599627370496:Nat)=2^52 by decide +kernel,← Nat.pow_add] at h3
 have h4:(2:Nat)^(52+(2047 - 1))=2^2098:=rfl
 obtain ⟨f,hf⟩:∃ f:Nat,f=2098:=⟨_,rfl⟩
 rw [h4,← hf] at h3
 rw [← hf]
 refine Nat.lt_of_le_of_ne h3 ?_
 intro he
 have e5:(9218868437227405311:Nat)=2046*4503599627370496+4503599627370495:=by decide +kernel
 rw [MX_def,e5,U_place (by decide) (by decide)] at he
 have e6:f=53+(2046 - 1):=hf
 rw [e6,Nat.pow_add] at he
 have:=Nat.eq_of_mul_eq_mul_right (Nat.two_pow_pos _) he
 exact absurd this (by decide +kernel)
theorem Ok.small {s q:Nat} {P L:List Nat} {T:Int} (h:Ok s q P L T) (hq:q≤1000000):T.natAbs<2^2200:=by
 obtain ⟨a1,a2,a3,a4,a5,a6,a7,a8⟩:=h
 have h1:q*MX≤1048576*MX:=Nat.mul_le_mul_right _ (by omega)
 have h2:=MX_lt
 have h3:(1048576:Nat)*2^2098=2^(20+2098):=by rw [Nat.pow_add]
 have h4:(2:Nat)^(20+2098)<2^2200:=Nat.pow_lt_pow_right (by decide) (by decide)
 have h5:1048576*MX≤1048576*2^2098:=Nat.mul_le_mul_left _ (Nat.le_of_lt h2)
 rw [h3] at h5
 exact Nat.lt_of_le_of_lt (Nat.le_trans a8 (Nat.le_trans h1 h5)) h4
theorem Ok.exact {s q:Nat} {P L:List Nat} {T:Int} (h:Ok s q P L T) (hq:q≤1000000) (hs:s≤1125899906842624) :
  ∃ d,Evl (fun k=>efold0 k (false,[],0) P) d∧Evl (fun k=>efold1 k d L) (cd 1074 T):=by
 obtain ⟨a1,a2,a3,a4,a5,a6,a7,a8⟩:=h
 have p1:=a5.le (by omega)
 have p2:=a6.le (by omega)
 have h1:q*BB≤1048576*BB:=Nat.mul_le_mul_right _ (by omega)
 have h2:2*(1048576*BB)=2^(21+1974):=by rw [BB_pow,← Nat.mul_assoc,Nat.pow_add]
 have p3:Ab P≤2^(21+1974):=by rw [← h2];omega
 have p4:Ab L≤2^(21+1974):=by rw [← h2];omega
 have p5:Ab L*2^200≤2^(21+1974+200):=by rw [Nat.pow_add 2 (21+1974)];exact Nat.mul_le_mul_right _ p4
 have p6:(2:Nat)^(21+1974)≤2^(21+1974+200):=Nat.pow_le_pow_right (by decide) (by decide)
 have p7:(2:Nat)^(21+1974+200)*2=2^2196:=by rw [← Nat.pow_succ]
 have p8:(2:Nat)^2196<2^2200:=Nat.pow_lt_pow_right (by decide) (by decide)
 have hab:∀ l:List Nat,(Sm l).natAbs≤Ab l:=by
  intro l
  induction l with
  | nil=>exact Nat.le_refl _
  | cons a l ih=>rw [Sm_cons,Ab_cons];omega
 have hP:=hab P
 generalize (2:Nat)^(21+1974+200)=x at *
 generalize (2:Nat)^2196=y at *
 obtain ⟨b,hb⟩:∃ b:Nat,b=2200:=⟨_,rfl⟩
 rw [← hb] at p8
 have e0:=efold0_ok (b:=b) (by omega) P 0 a1 (by
  generalize (2:Nat)^b=z at *
  generalize (2:Nat)^(21+1974)=z2 at *
  clear h2 h1
  simp only [Int.natAbs_zero]
  omega)
 rw [cd_zero,Int.zero_add] at e0
 have e1:=efold1_ok (b:=b) (by omega) L (Sm P) a2 (by
  generalize (2:Nat)^b=z at *
  generalize (2:Nat)^(21+1974)=z2 at *
  generalize Ab L*2^200=z3 at *
  clear h2
  omega)
 rw [a7] at e1
 exact ⟨_,e0,e1⟩
end Go.Proofs.YthimlebkjnajpaaDoor.P08
