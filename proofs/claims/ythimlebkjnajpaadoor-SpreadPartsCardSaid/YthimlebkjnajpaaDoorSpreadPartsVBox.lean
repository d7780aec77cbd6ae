import Derived.Test.YthimlebkjnajpaaDoorSpreadPartsVCopy
import Derived.Deep.MidRow
/- Whole structs in boxes of their own: loaded and stored by hand walks; and a row behind a write into an elder block. -/
namespace Go.Proofs.YthimlebkjnajpaaDoorW.PrintWords
open Go Go.RowKit
set_option linter.unusedVariables false
section
variable {P:Program} {ops:Array Oper} {rest:List Oper} {o:Oper} {a:Act} {Q:Exit→Act→World→Prop}
theorem box_load {W:World} (hgd:o.guard=none) (t:TypeId) (x:Operand) (ho:o.op = .load t x) (g:Nat) (cs:Array Value) {d:TypeDesc} (hx:a.eval x = .pointer (some ⟨g,0,none⟩)) (hc:W.heap[g]? = some (.cells cs t (0,0)))
  (hu:P.underlying t=some d) (hd:d.isRow=true) (hi:(P.info? t).map (·.size)=some cs.size) (h:wpList P ops Q rest (a.put o.dst (.agg cs)) W):wpList P ops Q (o::rest) a W :=
 wpList_load_mid hgd t x ho g 0 hx cs.toList d (fun j v hv=>by rw [Nat.zero_add,blk_cell hc,← Array.getElem?_toList];exact hv) hu hd (by rw [Array.length_toList];exact hi) (by rw [Array.toArray_toList];exact h)
theorem box_store {W:World} (hgd:o.guard=none) (t:TypeId) (x y:Operand) (ho:o.op = .store t x y) (g:Nat) (cs0 cs:Array Value) (hx:a.eval x = .pointer (some ⟨g,0,none⟩)) (hy:a.eval y = .agg cs) (hc:W.heap[g]? = some (.cells cs0 t (0,0)))
  (hs:cs0.size=cs.size) (hi:(P.info? t).map (·.size)=some cs.size) (h1:cs.all (·.oneCell')=true)
  (h:∀ w1,w1.heap[g]? = some (.cells cs t (0,0))→W.grownBy w1 (some g)→wpList P ops Q rest (a.put o.dst undef) w1):wpList P ops Q (o::rest) a W:=by
 refine wpList_store_mid hgd t x y ho g 0 cs hx hy (fun j hj=>⟨?_,blk_frozen hc _⟩) hi h1 (h _ ?_ ?_)
 ·rw [blk_cell hc,Array.getElem?_eq_getElem (by omega)];rfl
 ·obtain ⟨cur',h3,h4,h5⟩:=setCells_row cs.toList 0 W cs0 hc (by rw [Array.length_toList];omega)
  rw [h3]
  have:cur'=cs:=by
   apply Array.ext'
   rw [h5,Array.length_toList]
   simp [hs]
  rw [this]
 ·obtain ⟨s1,s2,s3,s4⟩:=setCells_same g cs.toList 0 W
  exact ⟨s1,s2,s3,by rw [s4];exact Nat.le_refl _,fun k _ hk=>setCells_far cs.toList _ k (fun he=>hk (by rw [he]))⟩
end
theorem Kd.R_elderput {α:Type} {d:Kd α} {e base g:Nat} {ok:Nat→Prop} {w w1:World} {v:Value} {xs:List α} (h:d.R e w base ok v xs) (hg:w.grownBy w1 (some g)) (hlt:g<base):d.R e w1 base ok v xs :=
 Kd.R_mono (Kd.R_grown (Kd.R_bound h) hg (fun k hk he=>by injection he with he;have:=hk.2.1;omega)) (fun _ hk=>hk.1)
/-- A block that is none of the one that was written. -/
theorem blk_elderput {w w1:World} {g k:Nat} {cs:Array Value} {t:TypeId} (h:w.heap[k]? = some (.cells cs t (0,0))) (hg:w.grownBy w1 (some g)) (hne:k≠g):w1.heap[k]? = some (.cells cs t (0,0)) :=
 blk_grown h hg (fun he=>hne (by injection he))
end Go.Proofs.YthimlebkjnajpaaDoorW.PrintWords
