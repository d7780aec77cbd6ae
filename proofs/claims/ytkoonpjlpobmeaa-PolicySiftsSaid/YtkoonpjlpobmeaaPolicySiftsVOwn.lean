import Derived.Test.YtkoonpjlpobmeaaPolicySiftsVCopy
import Derived.Test.YtkoonpjlpobmeaaPolicySiftsVQPut
/- Rows that their owner writes full of marks: each block bears one mark alone. -/
namespace Go.Proofs.YtkoonpjlpobmeaaW.PrintWords
open Go Go.RowKit
set_option linter.unusedVariables false
/-- The world went on; of the blocks that there were at most one (of elements of type e) was written, with one mark alone. -/
def MarkStep (e : TypeId) (M : Value) (g : Option Nat) (w w1 : World) : Prop :=
  w.grownBy w1 g ∧ ∀ k cur, g = some k → w.heap[k]? = some (.cells cur e (0, 0)) → ∃ cur', w1.heap[k]? = some (.cells cur' e (0, 0)) ∧ cur'.size = cur.size ∧ ∀ q : Nat, cur'[q]? = cur[q]? ∨ cur'[q]? = some M
theorem MarkStep.refl (e : TypeId) (M : Value) (g : Option Nat) (w : World) : MarkStep e M g w w :=
  ⟨⟨rfl, rfl, rfl, Nat.le_refl _, fun _ _ _ => rfl⟩, fun k cur _ h => ⟨cur, h, rfl, fun _ => .inl rfl⟩⟩
theorem MarkStep.quiet {e : TypeId} {M : Value} {g : Option Nat} {w w1 : World} (h : w.grownBy w1 none) : MarkStep e M g w w1 :=
  ⟨⟨h.os, h.tape, h.output, h.size, fun k hk _ => h.block k hk (by simp)⟩, fun k cur _ hc => ⟨cur, (h.block k (blk_lt hc) (by simp)).trans hc, rfl, fun _ => .inl rfl⟩⟩
theorem MarkStep.after {e : TypeId} {M : Value} {g : Option Nat} {w w1 w2 : World} (h : w.grownBy w1 none) (k : MarkStep e M g w1 w2) : MarkStep e M g w w2 := by
  refine ⟨⟨k.1.os.trans h.os, k.1.tape.trans h.tape, k.1.output.trans h.output, Nat.le_trans h.size k.1.size, fun j hj hne => ?_⟩, fun j cur hg hc => ?_⟩
  · exact (k.1.block j (Nat.lt_of_lt_of_le hj h.size) hne).trans (h.block j hj (by simp))
  · exact k.2 j cur hg ((h.block j (blk_lt hc) (by simp)).trans hc)
/-- A row (of elements of type e, one cell each) whose block is of class i, its first k elements marked. -/
def Fil (B : Nat) (e : TypeId) (cl : Nat → Nat) (w : World) (i : Nat) (M : Value) (v : Value) (n k : Nat) : Prop :=
  (∃ xs, QRow w B e 1 v n xs ∧ ∀ q, q < k → q < n → xs[q]? = some M) ∧ ∀ b, v.ownBlock = some b → cl b = i
section
variable {e : TypeId} {cl cl' : Nat → Nat} {w w1 : World} {B i k n : Nat} {M M' v : Value}
theorem Fil.lt (h : Fil B e cl w i M v n k) : ∀ b, v.ownBlock = some b → b < w.heap.size := by
  obtain ⟨⟨xs, hq, _⟩, _⟩ := h
  exact fun b hb => q_lt hq b hb
theorem Fil.base (h : Fil B e cl w i M v n k) : ∀ b, v.ownBlock = some b → B ≤ b := by
  obtain ⟨⟨xs, hq, _⟩, _⟩ := h
  exact fun b hb => (q_typed hq b hb).1
theorem Fil.typed (h : Fil B e cl w i M v n k) : ∀ b, v.ownBlock = some b → ∃ cells, w.heap[b]? = some (.cells cells e (0, 0)) := by
  obtain ⟨⟨xs, hq, _⟩, _⟩ := h
  exact fun b hb => (q_typed hq b hb).2
theorem Fil.classes (h : Fil B e cl w i M v n k) (hc : ∀ b, b < w.heap.size → cl' b = cl b) : Fil B e cl' w i M v n k :=
  ⟨h.1, fun b hb => (hc b (h.lt b hb)).trans (h.2 b hb)⟩
theorem Fil.form (h : Fil B e cl w i M v n k) : ∃ A c, v = .slice A n c ∧ n ≤ c := by
  obtain ⟨⟨xs, hq, _⟩, _⟩ := h
  exact q_slice hq
theorem Fil.none (B : Nat) (e : TypeId) (cl : Nat → Nat) (w : World) (i : Nat) (M : Value) : Fil B e cl w i M (.slice none 0 0) 0 0 :=
  ⟨⟨[], ⟨rfl, .inl ⟨rfl, Option.none, rfl, fun a ha => by cases ha⟩⟩, fun q hq => by omega⟩, fun b hb => by simp [Value.ownBlock] at hb⟩
theorem Fil.fewer {k' : Nat} (h : Fil B e cl w i M v n k) (hk : k' ≤ k) : Fil B e cl w i M v n k' :=
  ⟨by obtain ⟨⟨xs, hq, hm⟩, _⟩ := h; exact ⟨xs, hq, fun q h1 h2 => hm q (by omega) h2⟩, h.2⟩
theorem Fil.blank (h : Fil B e cl w i M v n 0) (M' : Value) : Fil B e cl w i M' v n 0 :=
  ⟨by obtain ⟨⟨xs, hq, _⟩, _⟩ := h; exact ⟨xs, hq, fun q h1 => by omega⟩, h.2⟩
theorem Fil.step {g : Option Nat} (h : Fil B e cl w i M v n k) (s : MarkStep e M' g w w1) (hm : ∀ b, g = some b → cl b = i → M' = M) : Fil B e cl w1 i M v n k := by
  obtain ⟨⟨xs, ⟨hl, hq⟩, hx⟩, hb⟩ := h
  refine ⟨?_, hb⟩
  have here : ∀ b cur, v.ownBlock = some b → w.heap[b]? = some (.cells cur e (0, 0)) → ∃ cur', w1.heap[b]? = some (.cells cur' e (0, 0)) ∧ cur'.size = cur.size ∧ ∀ q : Nat, cur'[q]? = cur[q]? ∨ cur'[q]? = some M := by
    intro b cur hv hc
    by_cases hg : g = some b
    · obtain ⟨cur', h1, h2, h3⟩ := s.2 b cur hg hc
      have := hm b hg (hb b hv)
      subst this
      exact ⟨cur', h1, h2, h3⟩
    · exact ⟨cur, (s.1.block b (blk_lt hc) (fun he => hg he.symm)).trans hc, rfl, fun _ => .inl rfl⟩
  rcases hq with ⟨h0, A, rfl, hA⟩ | ⟨g0, off, cap, cur, rfl, hbase, hc, hnc, hcm, hcs, ht⟩
  · refine ⟨xs, ⟨hl, .inl ⟨h0, A, rfl, fun a ha => ?_⟩⟩, hx⟩
    obtain ⟨h1, cur, hc⟩ := hA a ha
    subst ha
    obtain ⟨cur', h2, _⟩ := here a.block cur (by simp [Value.ownBlock]) hc
    exact ⟨h1, cur', h2⟩
  · obtain ⟨cur', h2, h3, h4⟩ := here g0 cur (by simp [Value.ownBlock]) hc
    have hcs1 : off + cap ≤ cur.size := by simpa using hcs
    refine ⟨(cur'.toList.drop (off * 1)).take (n * 1), ⟨?_, .inr ⟨g0, off, cap, cur', rfl, hbase, h2, hnc, hcm, by rw [h3]; exact hcs, rfl⟩⟩, fun q hqk hqn => ?_⟩
    · rw [List.length_take, List.length_drop, Array.length_toList, h3]; omega
    · have h5 := hx q hqk hqn
      rw [← ht] at h5
      rw [List.getElem?_take, List.getElem?_drop, Array.getElem?_toList] at h5 ⊢
      rw [if_pos (by omega)] at h5 ⊢
      rcases h4 (off * 1 + q) with h6 | h6
      · rw [h6]; exact h5
      · exact h6
/-- Element j of such a row. -/
theorem Fil.at_ {A : Option Addr} {c : Nat} (h : Fil B e cl w i M (.slice A n c) n k) (j : Nat) (hj : j < n) :
    ∃ g o u, A = some ⟨g, o, Option.none⟩ ∧ w.cell? ⟨g, o + j, Option.none⟩ = some u ∧ w.frozen? ⟨g, o + j, Option.none⟩ = false ∧ (j < k → u = M) := by
  obtain ⟨⟨xs, ⟨hl, hq⟩, hx⟩, hb⟩ := h
  rcases hq with ⟨h0, _⟩ | ⟨g0, off, cap, cur, he, hbase, hc, hnc, hcm, hcs, ht⟩
  · omega
  · injection he with ha hn hcc
    subst hcc
    have hlt : j < xs.length := by omega
    have hcell : w.cell? ⟨g0, off * 1 + j, Option.none⟩ = some xs[j] := by
      rw [cell_of_row w g0 _ cur e (0, 0) hc, ← Array.getElem?_toList]
      have h5 : xs[j]? = some xs[j] := List.getElem?_eq_getElem hlt
      rw [← h5, ← ht, List.getElem?_take, if_pos (by omega), List.getElem?_drop]
    refine ⟨g0, off * 1, xs[j], ha, hcell, blk_frozen hc _, fun hjk => ?_⟩
    have := hx j hjk hj
    rw [List.getElem?_eq_getElem hlt] at this
    exact Option.some.inj this
/-- A mark is written into a cell. -/
theorem MarkStep.put {g o : Nat} {u : Value} (hc : w.cell? ⟨g, o, Option.none⟩ = some u) : MarkStep e M (some g) w (w.setCell ⟨g, o, Option.none⟩ M) := by
  refine ⟨⟨rfl, rfl, rfl, by rw [World.size_setCell]; exact Nat.le_refl _, fun k _ hk => Below.heap_setCell w _ M k (fun he => hk (by rw [he]))⟩, fun k cur hk hcur => ?_⟩
  injection hk with hk
  subst hk
  refine ⟨cur.setIfInBounds o M, blk_set hcur o M, by simp, fun q => ?_⟩
  rw [Array.getElem?_setIfInBounds]
  split
  · split
    · exact .inr rfl
    · rename_i h1 h2
      subst h1
      rw [cell_of_row w g _ cur e (0, 0) hcur] at hc
      exact absurd (Array.getElem?_eq_some_iff.1 hc).1 h2
  · exact .inl rfl
theorem Fil.put {g o c : Nat} (h : Fil B e cl w i M (.slice (some ⟨g, o, Option.none⟩) n c) n k) (hk : k < n) : Fil B e cl (w.setCell ⟨g, o + k, Option.none⟩ M) i M (.slice (some ⟨g, o, Option.none⟩) n c) n (k + 1) := by
  obtain ⟨g0, o0, u, he, hcell, _, _⟩ := h.at_ k hk
  injection he with he
  injection he with he1 he2
  subst he1; subst he2
  have hs := h.step (M' := M) (MarkStep.put (e := e) (M := M) hcell) (fun _ _ _ => rfl)
  obtain ⟨⟨xs, hq, hx⟩, hb⟩ := hs
  refine ⟨⟨xs, hq, fun q h1 h2 => ?_⟩, hb⟩
  by_cases hqk : q < k
  · exact hx q hqk h2
  · obtain rfl : q = k := by omega
    obtain ⟨hl, hq⟩ := hq
    rcases hq with ⟨h0, _⟩ | ⟨g1, off, cap, cur, he, hbase, hc, hnc, hcm, hcs, ht⟩
    · omega
    · injection he with ha _ _
      injection ha with ha
      injection ha with hg ho
      subst hg
      obtain ⟨cur0, hc0⟩ := h.typed g (by simp [Value.ownBlock])
      have h6 := blk_set hc0 (o + q) M
      rw [hc] at h6
      injection h6 with h6
      injection h6 with h6 _ _
      rw [cell_of_row w g _ cur0 e (0, 0) hc0] at hcell
      have hlt := (Array.getElem?_eq_some_iff.1 hcell).1
      rw [← ht, List.getElem?_take, if_pos (by omega), List.getElem?_drop, Array.getElem?_toList, h6, ← ho, Array.getElem?_setIfInBounds_self_of_lt hlt]
end
section
variable {P : Program}
/-- append of one mark to such a row. -/
theorem mark_run (w : World) (B : Nat) (hbase : B ≤ w.heap.size) (t ty e : TypeId) (i : TypeInfo) (z : Value) (bytes : Nat) (ht : P.underlying t = some (.slice e)) (hi : P.info? e = some i) (hz : i.zero = some z)
    (hsize : i.size = 1) (hby : i.bytes = bytes) (hzs : z.cells.size = 1) (v : Value) (n : Nat) (xs : List Value) (hown : QRow w B e 1 v n xs)
    (a : Addr) (c : Nat) (M : Value) (hM : w.cell? (a.add 0) = some M) (h1 : M.oneCell' = true) (h63 : n + 1 ≤ maxLen) (hbytes : (n + 1) * bytes ≤ 140737488355328) :
    ∃ v' w', (Builtin.append_ #[t, t] ty #[v, .slice (some a) 1 c]).run P w = .ok v' w' ∧ QRow w' B e 1 v' (n + 1) (xs ++ [M]) ∧ MarkStep e M v.ownBlock w w' ∧ (v'.ownBlock = v.ownBlock ∨ ∃ b, v'.ownBlock = some b ∧ w.heap.size ≤ b) := by
  have hnews : ∀ j u, [M][j]? = some u → w.cell? (a.add j) = some u := by
    intro j u hu
    match j with
    | 0 => simp at hu; subst hu; exact hM
    | j + 1 => simp at hu
  obtain ⟨v', w', hr, hq, hg, hat⟩ := q_append (P := P) w B t ty e i z 1 bytes ht hi hz hsize hby hzs (by omega) v n xs hown a 1 c [M] rfl hnews (by simpa using h1) (by omega) h63 hbytes hbase
  refine ⟨v', w', hr, hq, ⟨hg, fun k cur hk hc => ?_⟩, hat⟩
  have grows : ∀ (b : Addr) (cap : Nat), cap < n + 1 → (∀ j u, xs[j]? = some u → w.cell? (b.add j) = some u) → v = .slice (some b) n cap → w'.heap[k]? = w.heap[k]? := by
    intro b cap hcap hcells hv
    obtain ⟨v2, w2, hr2, _, hg2⟩ := run_append_arg_grows (P := P) (w := w) t ty e i z 1 bytes ht hi hz hsize hby hzs (by omega) b n cap xs hown.1 hcells a 1 c [M] rfl hnews hcap h63 hbytes
    rw [← hv, hr] at hr2
    injection hr2 with _ he
    subst he
    exact hg2.block k (blk_lt hc) (by simp)
  have same : w'.heap[k]? = w.heap[k]? → ∃ cur', w'.heap[k]? = some (.cells cur' e (0, 0)) ∧ cur'.size = cur.size ∧ ∀ q : Nat, cur'[q]? = cur[q]? ∨ cur'[q]? = some M := fun h => ⟨cur, h.trans hc, rfl, fun _ => .inl rfl⟩
  rcases hown.2 with ⟨h0, A, hv, hA⟩ | ⟨g, off, cap, cur0, hv, hbg, hgc, hnc, hcm, hcs, htake⟩
  · cases A with
    | none => rw [hv] at hk; simp [Value.ownBlock] at hk
    | some b =>
      have hx : xs = [] := List.eq_nil_of_length_eq_zero (by rw [hown.1, h0, Nat.zero_mul])
      exact same (grows b 0 (by omega) (fun j u hu => by rw [hx] at hu; simp at hu) (by rw [hv, h0]))
  · have hkg : g = k := by rw [hv] at hk; simpa [Value.ownBlock] using hk
    subst hkg
    rw [hgc] at hc
    injection hc with hc
    injection hc with hc _ _
    subst hc
    by_cases hroom : n + 1 ≤ cap
    · have hr2 := run_append_room_cells (P := P) (w := w) t ty e i ht hi g (off * i.size) n cap a 1 c [M] (by rw [hsize]; rfl) hnews (by simpa using h1) hroom
        (fun j hj => by rw [cell_of_row w g _ cur0 e (0, 0) hgc]; simp at hj ⊢; rw [hsize]; omega) (fun j _ => blk_frozen hgc _)
      rw [hsize] at hr2
      rw [← hv, hr] at hr2
      injection hr2 with _ he
      subst he
      rw [show off * 1 + n * 1 = off + n by omega]
      refine ⟨cur0.setIfInBounds (off + n) M, blk_set hgc (off + n) M, by simp, fun q => ?_⟩
      rw [Array.getElem?_setIfInBounds]
      split
      · rename_i h2
        split
        · exact .inr rfl
        · omega
      · exact .inl rfl
    · refine same (grows ⟨g, off * 1, Option.none⟩ cap (by omega) (fun j u hu => ?_) hv)
      rw [add_at, cell_of_row w g _ cur0 e (0, 0) hgc]
      rw [← htake, List.getElem?_take] at hu
      split at hu
      · rw [List.getElem?_drop] at hu
        rw [← Array.getElem?_toList]
        exact hu
      · cases hu
variable {ops : Array Oper} {rest : List Oper} {o : Oper} {a : Act} {Q' : Exit → Act → World → Prop}
theorem mark_append {W : World} (B : Nat) (hbase : B ≤ W.heap.size) (hgd : o.guard = none) (s x : Operand) (t e : TypeId) (z : Value) (bytes : Nat)
    (ho : o.op = .call { callee := .builtin .append, args := #[s, x], argTypes := #[t, t] })
    (ht : P.underlying t = some (.slice e)) (hinfo : (P.info? e).map (fun i => (i.zero, i.size, i.bytes)) = some (some z, 1, bytes)) (hz : z.cells.size = 1) (hb0 : 0 < bytes)
    (v : Value) (n i : Nat) (M : Value) (cl : Nat → Nat) (hs : a.eval s = v) (hx : a.eval x = .slice (some ⟨W.heap.size, 0, none⟩) 1 1) (h1 : M.oneCell' = true)
    (HF : Fil B e cl W i M v n n) (hl : (n + 1) * bytes ≤ 140737488355328)
    (h : ∀ v1 w1, Fil B e (fun k => if k < W.heap.size then cl k else i) w1 i M v1 (n + 1) (n + 1) → MarkStep e M v.ownBlock W w1 → wpList P ops Q' rest (a.put o.dst v1) w1) :
    wpList P ops Q' (o :: rest) a (W.alloc (.cells #[M] e)) := by
  obtain ⟨⟨xs, hq0, hxs⟩, hcl⟩ := id HF
  obtain ⟨i0, hi, hzz⟩ := Option.map_eq_some_iff.1 hinfo
  simp only [Prod.mk.injEq] at hzz
  obtain ⟨hz0, hz1, hz2⟩ := hzz
  have hlen : n + 1 ≤ 140737488355328 := Nat.le_trans (Nat.le_mul_of_pos_right _ hb0) hl
  have hq : QRow (W.alloc (.cells #[M] e)) B e 1 v n xs := q_move hq0 (fun k hk => Below.heap_alloc W _ k (q_lt hq0 k hk))
  obtain ⟨v1, w1, hr, hq1, hm, hat⟩ := mark_run (P := P) (W.alloc (.cells #[M] e)) B (by rw [World.size_alloc]; omega) t o.type e i0 z bytes ht hi hz0 hz1 hz2 hz v n xs hq ⟨W.heap.size, 0, none⟩ 1 M
    (by simpa using World.news_of_block (cs := #[M]) (t := e) (fr := (0, 0)) (heap_alloc_new W (.cells #[M] e)) 0 M rfl) h1 (by simp only [maxLen]; omega) hl
  have hxl : xs.length = n := by simpa using hq0.1
  have hF : Fil B e (fun k => if k < W.heap.size then cl k else i) w1 i M v1 (n + 1) (n + 1) := by
    refine ⟨⟨_, hq1, fun q h2 h3 => ?_⟩, fun b hb => ?_⟩
    · by_cases hqn : q < n
      · rw [List.getElem?_append_left (by omega)]; exact hxs q hqn hqn
      · rw [List.getElem?_append_right (by omega), show q - xs.length = 0 by omega]; rfl
    · show (if b < W.heap.size then cl b else i) = i
      split
      · rename_i hlt
        rcases hat with hat | ⟨b', hb', hle⟩
        · exact hcl b (by rw [← hat]; exact hb)
        · rw [hb'] at hb
          injection hb with hb
          rw [World.size_alloc] at hle
          omega
      · rfl
  refine wpList_plain hgd fun K hK => ?_
  unfold Oper.wp execOp
  simp only [ho, resolve, invoke, builtin, Sem.run_bind, Sem.run_pure, Result.andThen_ok, List.map_toArray, List.map_cons, List.map_nil, hs, hx, hr]
  exact hK _ _ (h v1 w1 hF (MarkStep.after (World.grownBy_alloc W _ _) hm))
end
end Go.Proofs.YtkoonpjlpobmeaaW.PrintWords
