/- Arguments laid open for the rows of laws: what can be read as data of a type is one of that type's kind (numbers, floats, bools, strings, slices, structs), in the words of the print; and slices are no longer than the reach. -/
import Derived.Test.YtkoonpjlpobmeaaWFloat
import Derived.Laws.Cover2
import Derived.ChangeSame
import Derived.ChangeShapes
import Derived.Deep.Slices
import Derived.SizedLaws
namespace Go.Proofs.YtkoonpjlpobmeaaW.PrintWords
open Go.RowKit Go.ChangeShapes Go.WideShapes
set_option linter.unusedVariables false
/-- Whatever reads as data of type t is of kind d, and well formed. -/
def Opens {α : Type} (P : Program) (t : TypeId) (d : Kd α) (wf : α → Prop) : Prop :=
  ∀ {H : Type} (enc : TypeId × Value → H) (w : World) (base : Nat) (spare : Nat → Bool) (held : Bool) (fuel : Nat) (cs : List Value) (x : DataW H × List MemPlace),
    DataW.trod enc P w base spare held fuel t cs = some x → (∀ n ∈ x.1.weights P t, n ≤ reachBytes) → ∃ a : α, d.K w a cs ∧ wf a
theorem Opens.int {P : Program} {t : TypeId} {k : IntKind} (ht : P.underlying t = some (.int k)) : Opens P t (Kd.int k) (fun n => (Lit.int k n).wf = true) := by
  intro H enc w base spare held fuel cs x h _
  obtain ⟨n, rfl, _, hw⟩ := DataW.trod_int ht h
  exact ⟨n, rfl, hw⟩
theorem Opens.bool {P : Program} {t : TypeId} (ht : P.underlying t = some .bool) : Opens P t Kd.bool (fun _ => True) := by
  intro H enc w base spare held fuel cs x h _
  obtain ⟨n, rfl, _⟩ := DataW.trod_bool ht h
  exact ⟨n, rfl, trivial⟩
theorem Opens.string {P : Program} {t : TypeId} (ht : P.underlying t = some .string) : Opens P t Kd.string (fun s => s.size ≤ 140737488351232) := by
  intro H enc w base spare held fuel cs x h hwt
  obtain ⟨n, rfl, rfl, _⟩ := DataW.trod_string ht h
  refine ⟨n, rfl, ?_⟩
  have := hwt n.data.toList.length (by simp [DataW.weights])
  rw [Array.length_toList] at this
  exact this
theorem trod_float {H : Type} {enc : TypeId × Value → H} {P : Program} {w : World} {base : Nat} {spare : Nat → Bool} {held : Bool} {fuel : Nat} {t : TypeId} {k : FloatKind} {cs : List Value} {x : DataW H × List MemPlace} (ht : P.underlying t = some (.float k)) (h : DataW.trod enc P w base spare held fuel t cs = some x) : ∃ b, cs = [.float k b] ∧ x = (.lit (.float k b), []) ∧ (Lit.float k b).wf = true := by
  cases fuel with
  | zero => simp [DataW.trod] at h
  | succ n =>
    unfold DataW.trod at h
    rw [ht] at h
    split at h <;> simp_all
theorem Opens.float {P : Program} {t : TypeId} {k : FloatKind} (ht : P.underlying t = some (.float k)) : Opens P t (Kd.float k) (fun n => (Lit.float k n).wf = true) := by
  intro H enc w base spare held fuel cs x h _
  obtain ⟨n, rfl, _, hw⟩ := trod_float ht h
  exact ⟨n, rfl, hw⟩
theorem list_choice {α β : Type} {Q : β → α → Prop} : ∀ (ys : List β), (∀ y ∈ ys, ∃ a, Q y a) → ∃ xs : List α, xs.length = ys.length ∧ ∀ (j : Nat) (y : β), ys[j]? = some y → ∃ a, xs[j]? = some a ∧ Q y a
  | [], _ => ⟨[], rfl, fun j y h => by simp at h⟩
  | y :: ys, h => by
    obtain ⟨a, ha⟩ := h y (List.mem_cons_self ..)
    obtain ⟨xs, hl, hx⟩ := list_choice ys (fun z hz => h z (List.mem_cons_of_mem _ hz))
    refine ⟨a :: xs, by simp [hl], fun j z hz => ?_⟩
    cases j with
    | zero => simp at hz; subst hz; exact ⟨a, rfl, ha⟩
    | succ j => simpa using hx j z (by simpa using hz)
theorem weights_elem {H : Type} {P : Program} {e : TypeId} : ∀ {ds : List (DataW H)} {d : DataW H}, d ∈ ds → ∀ n ∈ d.weights P e, n ∈ DataW.weightsAll P e ds
  | d0 :: ds, d, hd, n, hn => by
    simp only [DataW.weightsAll, List.mem_append]
    rcases List.mem_cons.1 hd with rfl | hd
    · exact .inl hn
    · exact .inr (weights_elem hd n hn)
theorem Opens.slice {P : Program} {t e : TypeId} {α : Type} {d : Kd α} {wf : α → Prop} {B : Nat} (ht : P.underlying t = some (.slice e)) (he : Opens P e d wf) (hc : P.cellsOf e = d.sz) (hB : P.bytesOf e = B) :
    Opens P t (Kd.slice e d) (fun xs => xs.length ≤ maxLen ∧ xs.length * B ≤ 140737488351232 ∧ ∀ x ∈ xs, wf x) := by
  intro H enc w base spare held fuel cs x h hwt
  rcases DataW.trod_slice ht h with ⟨rfl, _⟩ | ⟨a, len, cap, elems, rest, n, _, rfl, rfl, hb, hl, hm, hlen, hel, hsp, hns⟩
  · exact ⟨[], ⟨none, 0, rfl, Nat.le_refl _, rfl, Nat.zero_le _, fun h => absurd h (by simp)⟩, by simp, by simp, fun x hx => by simp at hx⟩
  · have hw0 : (elems.length + rest.length) * B ≤ 140737488351232 := by
      have := hwt ((elems.length + rest.length) * P.bytesOf e) (by simp [DataW.weights, ht])
      rw [hB] at this
      exact this
    have each : ∀ (i : Nat) (y : DataW H × List MemPlace), elems[i]? = some y → ∃ (p : α) (c : List Value), wf p ∧ c.length = d.sz ∧ d.K w p c ∧ ∀ (j : Nat) (u : Value), c[j]? = some u → w.cell? (a.add (i * d.sz + j)) = some u := by
      intro i y hy
      have hi : i < len := by rw [← hlen]; exact (List.getElem?_eq_some_iff.1 hy).1
      have hb' := (hel i hi).trans hy
      rw [Option.bind_eq_some_iff] at hb'
      obtain ⟨c, hcs, hy'⟩ := hb'
      rw [hc] at hcs
      obtain ⟨_, hcl, hat⟩ := World.cells?_some hcs
      have hmem : y ∈ elems := List.mem_of_getElem? hy
      obtain ⟨p, hp, hpw⟩ := he enc w base spare held n c y hy' (fun m hm' => hwt m (by
        simp only [DataW.weights, ht, List.mem_cons, List.mem_append]
        exact .inr (.inl (weights_elem (List.mem_map_of_mem hmem) m hm'))))
      refine ⟨p, c, hpw, hcl, hp, fun j u hu => ?_⟩
      have hj : j < d.sz := by rw [← hcl]; exact (List.getElem?_eq_some_iff.1 hu).1
      rw [← Go.Deep.add_add, hat j hj, hu]
    obtain ⟨xs, hxl, hx⟩ := list_choice (Q := fun (y : Nat × (DataW H × List MemPlace)) (p : α) => elems[y.1]? = some y.2 → ∃ c : List Value, wf p ∧ c.length = d.sz ∧ d.K w p c ∧ ∀ (j : Nat) (u : Value), c[j]? = some u → w.cell? (a.add (y.1 * d.sz + j)) = some u)
      (elems.zipIdx.map fun z => (z.2, z.1)) (by
        intro y hy
        obtain ⟨z, hz, rfl⟩ := List.mem_map.1 hy
        obtain ⟨i, hi⟩ := List.getElem?_of_mem hz
        rw [List.getElem?_zipIdx] at hi
        obtain ⟨v, hv, rfl⟩ := Option.map_eq_some_iff.1 hi
        obtain ⟨p, c, h1, h2, h3, h4⟩ := each i v hv
        exact ⟨p, fun _ => ⟨c, h1, h2, h3, by simpa using h4⟩⟩)
    have hxl' : xs.length = len := by rw [hxl]; simp [hlen]
    have get : ∀ (j : Nat) (p : α), xs[j]? = some p → ∃ c : List Value, wf p ∧ c.length = d.sz ∧ d.K w p c ∧ ∀ (i : Nat) (u : Value), c[i]? = some u → w.cell? (a.add (j * d.sz + i)) = some u := by
      intro j p hj
      have hjl : j < elems.length := by rw [hlen, ← hxl']; exact (List.getElem?_eq_some_iff.1 hj).1
      have hz : (elems.zipIdx.map fun z => (z.2, z.1))[j]? = some (j, elems[j]) := by simp [hjl]
      obtain ⟨p', hp', hq⟩ := hx j _ hz
      obtain rfl : p' = p := Option.some.inj (hp'.symm.trans hj)
      exact hq (List.getElem?_eq_getElem hjl)
    refine ⟨xs, ⟨some a, cap, by rw [hxl'], by rw [hxl']; exact hl, rfl, ?_, fun _ => ⟨a, rfl, fun j p hj => ?_⟩⟩, ?_, ?_, fun p hp => ?_⟩
    · rw [hxl']; exact Nat.le_trans hl hm
    · obtain ⟨c, _, h2, h3, h4⟩ := get j p hj
      exact ⟨c, h2, h3, h4⟩
    · rw [hxl']; exact Nat.le_trans hl hm
    · rw [hxl', ← hlen]; exact Nat.le_trans (Nat.mul_le_mul_right _ (Nat.le_add_right _ _)) hw0
    · obtain ⟨j, hj⟩ := List.getElem?_of_mem hp
      obtain ⟨_, h1, _⟩ := get j p hj
      exact h1
/-- The fields fs of a struct, the first at cell o. -/
def OpensF {α : Type} (P : Program) (fs : List Field) (o : Nat) (d : Kd α) (wf : α → Prop) : Prop :=
  ∀ {H : Type} (enc : TypeId × Value → H) (w : World) (base : Nat) (spare : Nat → Bool) (held : Bool) (n : Nat) (cs : List Value) (ys : List (DataW H × List MemPlace)),
    cs.length = o + d.sz → ys.length = fs.length → (∀ (i : Nat) (f : Field), fs[i]? = some f → DataW.trod enc P w base spare held n f.type ((cs.drop f.offset).take (P.cellsOf f.type)) = ys[i]?) →
    (∀ m ∈ DataW.weightsEach P (fs.map (·.type)) (ys.map (·.1)), m ≤ reachBytes) → ∃ a : α, d.K w a (cs.drop o) ∧ wf a
theorem OpensF.one {P : Program} {f : Field} {o : Nat} {α : Type} {d : Kd α} {wf : α → Prop} (h : Opens P f.type d wf) (ho : f.offset = o) (hc : P.cellsOf f.type = d.sz) : OpensF P [f] o d wf := by
  intro H enc w base spare held n cs ys hcl hyl hf hwt
  match ys, hyl with
  | [y], _ =>
    have h0 := hf 0 f rfl
    rw [ho, hc, List.take_of_length_le (by rw [List.length_drop]; omega)] at h0
    exact h enc w base spare held n _ y h0 (fun m hm => hwt m (by simp only [List.map_cons, List.map_nil, DataW.weightsEach, List.mem_append]; exact .inl hm))
theorem OpensF.cons {P : Program} {f : Field} {fs : List Field} {o : Nat} {α β : Type} {d : Kd α} {d' : Kd β} {wf : α → Prop} {wf' : β → Prop} (h : Opens P f.type d wf) (ho : f.offset = o) (hc : P.cellsOf f.type = d.sz) (h' : OpensF P fs (o + d.sz) d' wf') :
    OpensF P (f :: fs) o (Kd.pair d d') (fun x => wf x.1 ∧ wf' x.2) := by
  intro H enc w base spare held n cs ys hcl hyl hf hwt
  match ys, hyl with
  | y :: ys, hyl =>
    have hcl : cs.length = o + (d.sz + d'.sz) := hcl
    have h0 := hf 0 f rfl
    rw [ho, hc] at h0
    obtain ⟨a, ha, hwa⟩ := h enc w base spare held n _ y h0 (fun m hm => hwt m (by simp only [List.map_cons, DataW.weightsEach, List.mem_append]; exact .inl hm))
    obtain ⟨b, hb, hwb⟩ := h' enc w base spare held n cs ys (by omega) (by simpa using hyl) (fun i g hg => by simpa using hf (i + 1) g (by simpa using hg)) (fun m hm => hwt m (by simp only [List.map_cons, DataW.weightsEach, List.mem_append]; exact .inr hm))
    refine ⟨(a, b), ⟨_, _, ?_, ha, hb⟩, hwa, hwb⟩
    rw [← List.drop_drop]
    exact (List.take_append_drop _ _).symm
theorem Opens.struct {P : Program} {t : TypeId} {fs : Array Field} {α β : Type} {d : Kd α} {wf : α → Prop} (ht : P.underlying t = some (.struct fs)) (h : OpensF P fs.toList 0 d wf) (hc : P.cellsOf t = d.sz) (f : β → α) (g : α → β) (hfg : ∀ x, f (g x) = x) :
    Opens P t (Kd.iso d f) (fun s => wf (f s)) := by
  intro H enc w base spare held fuel cs x hx hwt
  obtain ⟨ys, n, _, rfl, hcl, hyl, hf⟩ := DataW.trod_struct ht hx
  obtain ⟨a, ha, hwa⟩ := h enc w base spare held n cs ys (by rw [hcl, hc]; omega) (by simpa using hyl) (fun i g hg => hf i g (by simpa using hg)) (fun m hm => hwt m (by simpa [DataW.weights, ht] using hm))
  refine ⟨g a, ?_, ?_⟩
  · show d.K w (f (g a)) cs
    rw [hfg]
    simpa using ha
  · show wf (f (g a))
    rw [hfg]
    exact hwa
/-- An argument, laid open. -/
theorem Opens.arg {P : Program} {t : TypeId} {α : Type} {d : Kd α} {wf : α → Prop} (ho : Opens P t d wf) {H : Type} {enc : TypeId × Value → H} {w : World} {base : Nat} {spare : Nat → Bool} {held : Bool} {v : Value} {x : DataW H} {ps : List MemPlace}
    (h : DataW.Trod enc P w base spare held t v x ps) {ts : List TypeId} {ds : List (DataW H)} (hsz : (DataW.weightsEach P ts ds).all (· ≤ reachBytes) = true) {j : Nat} (hj : ts[j]? = some t) (hd : ds[j]? = some x) : ∃ a : α, d.K w a v.cells.toList ∧ wf a := by
  obtain ⟨fuel, hf⟩ := h
  exact ho enc w base spare held fuel _ _ hf (fun n hn => by have := List.all_eq_true.1 hsz n (DataW.weights_mem_each hj hd n hn); simpa using this)
end Go.Proofs.YtkoonpjlpobmeaaW.PrintWords
