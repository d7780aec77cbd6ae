import Derived.Test.YtkoonpjlpobmeaaPolicySiftsVOwn
/- A book of rows: what is known of it while its owner writes all of them full of marks, and makes them longer. -/
namespace Go.Proofs.YtkoonpjlpobmeaaW.PrintWords
open Go Go.RowKit
set_option linter.unusedVariables false
def sl (x : Option Addr × Nat × Nat) : Value := .slice x.1 x.2.1 x.2.2
def Kd.sl : Kd (Option Addr × Nat × Nat) := Kd.scalar PrintWords.sl (fun _ => rfl)
/-- The book (a struct of type T in block g) and its list of rows (cells of type S), in blocks below H. -/
def Held (T S : TypeId) (H g : Nat) (AL : Option Addr) (cL : Nat) (Ls : List (Option Addr × Nat × Nat)) (w : World) : Prop :=
  w.heap[g]? = some (.cells #[.slice AL Ls.length cL] T (0, 0)) ∧ g < H ∧ QRow w 0 S 1 (.slice AL Ls.length cL) Ls.length (Ls.map sl) ∧ ∀ b, (Value.slice AL Ls.length cL).ownBlock = some b → b < H
section
variable {T S e : TypeId} {H g cL : Nat} {AL : Option Addr} {Ls : List (Option Addr × Nat × Nat)} {w w1 : World}
theorem Held.step (h : Held T S H g AL cL Ls w) {row : Option Nat} (hg : w.grownBy w1 row) (hr : ∀ b, row = some b → ∃ cells, w.heap[b]? = some (.cells cells e (0, 0))) (h1 : e ≠ T) (h2 : e ≠ S) : Held T S H g AL cL Ls w1 := by
  obtain ⟨a, b, c, d⟩ := h
  refine ⟨blk_grown a hg (fun he => ?_), b, q_move c (fun k hk => hg.block k (q_lt c k hk) (fun he => ?_)), d⟩
  · obtain ⟨cells, hc⟩ := hr g he.symm
    rw [a] at hc
    injection hc with hc
    injection hc with _ hc _
    exact h1 hc.symm
  · obtain ⟨cells, hc⟩ := hr k he.symm
    obtain ⟨_, cells', hc'⟩ := q_typed c k hk
    rw [hc'] at hc
    injection hc with hc
    injection hc with _ hc _
    exact h2 hc.symm
theorem Held.far (h : Held T S H g AL cL Ls w) {row : Option Nat} (hg : w.grownBy w1 row) (hr : ∀ b, row = some b → H ≤ b) : Held T S H g AL cL Ls w1 := by
  obtain ⟨a, b, c, d⟩ := h
  refine ⟨blk_grown a hg (fun he => ?_), b, q_move c (fun k hk => hg.block k (q_lt c k hk) (fun he => ?_)), d⟩
  · have := hr g he.symm; omega
  · have := hr k he.symm; have := d k hk; omega
theorem Held.cell (h : Held T S H g AL cL Ls w) : w.cell? ⟨g, 0, none⟩ = some (.slice AL Ls.length cL) := by rw [blk_cell h.1]; rfl
theorem Held.at_ (h : Held T S H g AL cL Ls w) (j : Nat) (hj : j < Ls.length) : ∃ ad A n c, AL = some ad ∧ Ls[j]? = some (A, n, c) ∧ w.cell? (ad.add j) = some (.slice A n c) := by
  obtain ⟨ad, he, hc⟩ := q_cells h.2.2.1 (by omega)
  refine ⟨ad, (Ls[j]).1, (Ls[j]).2.1, (Ls[j]).2.2, he, List.getElem?_eq_getElem hj, hc j _ ?_⟩
  rw [List.getElem?_map, List.getElem?_eq_getElem hj]
  rfl
end
/-- The rows below i are marked full, row i up to k. -/
def Own1 (T S e : TypeId) (B H g : Nat) (AL : Option Addr) (cL : Nat) (Ls : List (Option Addr × Nat × Nat)) (cl : Nat → Nat) (Mk : Nat → Value) (i k : Nat) (w wr : World) : Prop :=
  e ≠ T ∧ e ≠ S ∧ B ≤ w.heap.size ∧ H = w.heap.size ∧ Held T S H g AL cL Ls wr ∧ Below B w wr ∧
  ∀ j x, Ls[j]? = some x → Fil B e cl wr j (Mk j) (sl x) x.2.1 (if j < i then x.2.1 else if j = i then k else 0)
section
variable {T S e : TypeId} {B H g cL i k n c : Nat} {AL A : Option Addr} {Ls : List (Option Addr × Nat × Nat)} {cl : Nat → Nat} {Mk : Nat → Value} {w wr : World}
theorem Own1.next (h : Own1 T S e B H g AL cL Ls cl Mk i n w wr) (hi : Ls[i]? = some (A, n, c)) : Own1 T S e B H g AL cL Ls cl Mk (i + 1) 0 w wr := by
  obtain ⟨h1, h2, h3, h4, h5, h6, h7⟩ := h
  refine ⟨h1, h2, h3, h4, h5, h6, fun j x hx => ?_⟩
  have := h7 j x hx
  by_cases hj : j < i
  · rw [if_pos hj] at this; rw [if_pos (by omega)]; exact this
  · by_cases he : j = i
    · subst he
      rw [hi] at hx
      injection hx with hx
      subst hx
      rw [if_neg hj, if_pos rfl] at this
      rw [if_pos (by omega)]; exact this
    · rw [if_neg hj, if_neg he] at this
      rw [if_neg (by omega)]
      split <;> exact this
theorem Own1.put (h : Own1 T S e B H g AL cL Ls cl Mk i k w wr) (hi : Ls[i]? = some (A, n, c)) (hk : k < n) :
    ∃ g' o' u, A = some ⟨g', o', none⟩ ∧ wr.cell? ⟨g', o' + k, none⟩ = some u ∧ wr.frozen? ⟨g', o' + k, none⟩ = false ∧ Own1 T S e B H g AL cL Ls cl Mk i (k + 1) w (wr.setCell ⟨g', o' + k, none⟩ (Mk i)) := by
  obtain ⟨h1, h2, h3, h4, h5, h6, h7⟩ := h
  have hF := h7 i _ hi
  rw [if_neg (by omega), if_pos rfl] at hF
  have hF' : Fil B e cl wr i (Mk i) (.slice A n c) n k := hF
  obtain ⟨g', o', u, rfl, hc, hf, _⟩ := hF'.at_ k hk
  refine ⟨g', o', u, rfl, hc, hf, h1, h2, h3, h4, ?_, ?_, fun j x hx => ?_⟩
  · exact h5.step (e := e) (MarkStep.put (e := e) (M := Mk i) hc).1 (fun b hb => by injection hb with hb; subst hb; exact hF'.typed _ (by simp [Value.ownBlock])) h1 h2
  · exact h6.grown (MarkStep.put (e := e) (M := Mk i) hc).1 (Nat.le_trans h3 h6.size) (fun b hb => by injection hb with hb; subst hb; exact hF'.base _ (by simp [Value.ownBlock]))
  · by_cases he : j = i
    · subst he
      rw [hi] at hx
      injection hx with hx
      subst hx
      rw [if_neg (by omega), if_pos rfl]
      exact hF'.put hk
    · have := h7 j x hx
      rw [if_neg he] at this ⊢
      refine this.step (MarkStep.put (e := e) (M := Mk i) hc) (fun b hb hcl => ?_)
      injection hb with hb
      subst hb
      have := hF'.2 g' (by simp [Value.ownBlock])
      rw [this] at hcl
      exact absurd hcl.symm he
end
/-- All rows are marked full; of those below i five each are in the list al, of row i there are k in it. -/
def Own2 (T S e : TypeId) (B H g : Nat) (AL : Option Addr) (cL : Nat) (Ls : List (Option Addr × Nat × Nat)) (Mk : Nat → Value) (cl : Nat → Nat) (al : List (Option Addr × Nat × Nat)) (i k : Nat) (w wr : World) (va : Value) : Prop :=
  e ≠ T ∧ e ≠ S ∧ B ≤ w.heap.size ∧ H = w.heap.size ∧ Held T S H g AL cL Ls wr ∧ Below B w wr ∧
  Kd.sl.R S wr H (fun _ => True) va al ∧ al.length = 5 * i + k ∧ (∀ j y, Ls[j]? = some y → Fil B e cl wr j (Mk j) (sl y) y.2.1 y.2.1) ∧ ∀ j y, al[j]? = some y → Fil B e cl wr (j / 5) (Mk (j / 5)) (sl y) y.2.1 y.2.1
section
variable {T S e : TypeId} {B H g cL i k n c : Nat} {AL A : Option Addr} {Ls al : List (Option Addr × Nat × Nat)} {cl : Nat → Nat} {Mk : Nat → Value} {w wr w1 : World} {va v1 : Value}
theorem Own1.over (h : Own1 T S e B H g AL cL Ls cl Mk Ls.length 0 w wr) : Own2 T S e B H g AL cL Ls Mk cl [] 0 0 w wr (.slice none 0 0) := by
  obtain ⟨h1, h2, h3, h4, h5, h6, h7⟩ := h
  refine ⟨h1, h2, h3, h4, h5, h6, Kd.R_nil _ _ _ _ _, rfl, fun j y hy => ?_, fun j y hy => by simp at hy⟩
  have hlt := (List.getElem?_eq_some_iff.1 hy).1
  have := h7 j y hy
  rwa [if_pos hlt] at this
theorem Own2.next (h : Own2 T S e B H g AL cL Ls Mk cl al i 5 w wr va) : Own2 T S e B H g AL cL Ls Mk cl al (i + 1) 0 w wr va := by
  obtain ⟨h1, h2, h3, h4, h5, h6, h7, h8, h9⟩ := h
  exact ⟨h1, h2, h3, h4, h5, h6, h7, by omega, h9⟩
theorem Own2.size (h : Own2 T S e B H g AL cL Ls Mk cl al i k w wr va) : H ≤ wr.heap.size := by
  obtain ⟨h1, h2, h3, h4, h5, h6, h7, h8, h9⟩ := h
  rw [h4]; exact h6.size
theorem Own2.bsize (h : Own2 T S e B H g AL cL Ls Mk cl al i k w wr va) : B ≤ wr.heap.size := by
  obtain ⟨h1, h2, h3, h4, h5, h6, h7, h8, h9⟩ := h
  exact Nat.le_trans h3 h6.size
theorem MarkStep.other {e S : TypeId} {row : Option Nat} {w w1 : World} (hg : w.grownBy w1 row) (hr : ∀ b, row = some b → ∃ cells, w.heap[b]? = some (.cells cells S (0, 0))) (hne : e ≠ S) (M : Value) : MarkStep e M row w w1 := by
  refine ⟨hg, fun k cur hk hc => ?_⟩
  obtain ⟨cells, h⟩ := hr k hk
  rw [h] at hc
  injection hc with hc
  injection hc with _ hc _
  exact absurd hc.symm hne
/-- One more is put into the list. -/
theorem Own2.more {x : Option Addr × Nat × Nat} (h : Own2 T S e B H g AL cL Ls Mk cl al i k w wr va) (hk : k < 5) (hx : Fil B e cl wr i (Mk i) (sl x) x.2.1 x.2.1)
    (hR : Kd.sl.R S w1 H (fun _ => True) v1 (al ++ [x])) (hg : wr.grownBy w1 va.ownBlock) : Own2 T S e B H g AL cL Ls Mk cl (al ++ [x]) i (k + 1) w w1 v1 ∧ Fil B e cl w1 i (Mk i) (sl x) x.2.1 x.2.1 := by
  obtain ⟨h1, h2, h3, h4, h5, h6, h7, h8, h9, h10⟩ := h
  have hty : ∀ b, va.ownBlock = some b → ∃ cells, wr.heap[b]? = some (.cells cells S (0, 0)) := fun b hb => Kd.R_typed h7 b hb
  have hfar : ∀ b, va.ownBlock = some b → H ≤ b := fun b hb => Kd.Q_base (Kd.Q_of_R h7) b hb
  have hs : ∀ M, MarkStep e M va.ownBlock wr w1 := MarkStep.other hg hty h2
  have hx1 := hx.step (hs (Mk i)) (fun _ _ _ => rfl)
  refine ⟨⟨h1, h2, h3, h4, h5.far hg hfar, h6.grown hg (Nat.le_trans h3 h6.size) (fun b hb => by have := hfar b hb; omega), hR, by rw [List.length_append, h8]; rfl, fun j y hy => (h9 j y hy).step (hs (Mk j)) (fun _ _ _ => rfl), fun j y hy => ?_⟩, hx1⟩
  by_cases hj : j < al.length
  · rw [List.getElem?_append_left hj] at hy
    exact (h10 j y hy).step (hs (Mk (j / 5))) (fun _ _ _ => rfl)
  · rw [List.getElem?_append_right (by omega)] at hy
    have hj0 : j - al.length = 0 := by
      have := (List.getElem?_eq_some_iff.1 hy).1
      simp at this; omega
    rw [hj0] at hy
    simp at hy
    subst hy
    rw [show j / 5 = i by omega]
    exact hx1
/-- Row i grows by one mark. -/
theorem Own2.longer {x : Value} {m : Nat} (h : Own2 T S e B H g AL cL Ls Mk cl al i k w wr va) (hx : Fil B e cl wr i (Mk i) x m m) (hs : MarkStep e (Mk i) x.ownBlock wr w1) :
    Own2 T S e B H g AL cL Ls Mk (fun b => if b < wr.heap.size then cl b else i) al i k w w1 va := by
  obtain ⟨h1, h2, h3, h4, h5, h6, h7, h8, h9, h10⟩ := h
  have hc : ∀ b, b < wr.heap.size → (fun b => if b < wr.heap.size then cl b else i) b = cl b := fun b hb => if_pos hb
  have hst : ∀ j v n, Fil B e cl wr j (Mk j) v n n → Fil B e (fun b => if b < wr.heap.size then cl b else i) w1 j (Mk j) v n n := by
    intro j v n hv
    refine (hv.classes hc).step hs (fun b hb hbc => ?_)
    have hlt := hx.lt b hb
    have hbc' : (if b < wr.heap.size then cl b else i) = j := hbc
    rw [if_pos hlt, hx.2 b hb] at hbc'
    rw [hbc']
  refine ⟨h1, h2, h3, h4, h5.step hs.1 hx.typed h1 h2, h6.grown hs.1 (Nat.le_trans h3 h6.size) hx.base, ?_, h8, fun j y hy => hst j _ _ (h9 j y hy), fun j y hy => hst (j / 5) _ _ (h10 j y hy)⟩
  cases hb : x.ownBlock with
  | none => exact Kd.R_grown h7 hs.1 (fun k _ => by rw [hb]; simp)
  | some b =>
    obtain ⟨cells, hc⟩ := hx.typed b hb
    exact Kd.R_mono (Kd.R_grown (Kd.R_types h7 hc (fun q hq => by
      have : q = S := by simpa [Kd.sl, Kd.scalar] using hq
      rw [this]; exact fun he => h2 he.symm)) hs.1 (fun k hk => by rw [hb]; intro he; injection he with he; exact hk.2 he)) (fun _ _ => trivial)
/-- Element j of the list of all. -/
theorem Own2.look (h : Own2 T S e B H g AL cL Ls Mk cl al i k w wr va) : ∃ Aa ca, va = .slice Aa al.length ca ∧ ∀ j, j < al.length → ∃ ad A n c, Aa = some ad ∧ wr.cell? (ad.add j) = some (.slice A n c) ∧ Fil B e cl wr (j / 5) (Mk (j / 5)) (.slice A n c) n n := by
  obtain ⟨h1, h2, h3, h4, h5, h6, h7, h8, h9, h10⟩ := h
  obtain ⟨Aa, ca, rfl, _, hC⟩ := Kd.R_reads h7
  refine ⟨Aa, ca, rfl, fun j hj => ?_⟩
  obtain ⟨ad, he, hc⟩ := ReadsOf.at_ (Kd.reads_of_C (enc := sl) (d := ((none, 0, 0) : Option Addr × Nat × Nat)) (h1 := fun _ => rfl) hC) (j : Int) (by omega) (by omega)
  have hy : al[j]? = some al[j] := List.getElem?_eq_getElem hj
  have hr : rdOf ((none, 0, 0) : Option Addr × Nat × Nat) al (j : Int) = al[j] := by simp [rdOf, List.getD_eq_getElem?_getD, hy]
  rw [hr, Int.toNat_natCast] at hc
  exact ⟨ad, _, _, _, he, hc, h10 j _ hy⟩
end
end Go.Proofs.YtkoonpjlpobmeaaW.PrintWords
