import Derived.Test.YtkoonpjlpobmeaaPolicySiftsM0
import Derived.Test.YtkoonpjlpobmeaaPolicySiftsVOwn2
import Derived.Test.YtkoonpjlpobmeaaPolicySiftsM1
import Derived.Test.YtkoonpjlpobmeaaPolicySiftsM2
import Derived.Test.YtkoonpjlpobmeaaPolicySiftsVBox
import Derived.Test.YtkoonpjlpobmeaaPolicySiftsM3
import Ieee.Arith
import Derived.Laws.BitsLemmas
import Derived.RowKit
import Derived.Test.YtkoonpjlpobmeaaPolicySiftsVFloat
import Derived.Laws.Cover2
import Derived.ChangeSame
import Derived.ChangeShapes
import Derived.Deep.Slices
import Derived.SizedLaws
namespace Go.Proofs.Ytkoonpjlpobmeaa.Pr
open Go.RowKit Go.Proofs.YtkoonpjlpobmeaaW.PrintWords Go.Proofs.YtkoonpjlpobmeaaW.PrintLast Go.Proofs.YtkoonpjlpobmeaaW.PrintMore
set_option linter.unusedVariables false
theorem und35 : Try.prog.underlying 35 = some (.pointer 38) := by kernel_rfl
theorem und36 : Try.prog.underlying 36 = some (.slice 27) := by kernel_rfl
theorem info27 : (Try.prog.info? 27).map (fun i => (i.zero, i.size, i.bytes)) = some (some (.slice none 0 0), 1, 24) := by kernel_rfl
def Mkf (i : Nat) : Value := .float .f64 (floatOfInt .f64 (1000 + (i : Int)))
theorem wrap_small (s : Nat) (h : s < 1048576) : wrap64 (s : Int) = (s : Int) ∧ wrap64 (1000 + (s : Int)) = 1000 + (s : Int) := by
  constructor <;> (unfold wrap64; omega)
set_option maxHeartbeats 3000000 in
theorem own_first (B g cL : Nat) (AL : Option Addr) (Ls : List (Option Addr × Nat × Nat)) (cl : Nat → Nat) (w : World) (hN : Ls.length ≤ 1048576) (hn : ∀ (j : Nat) (A : Option Addr) (n c : Nat), Ls[j]? = some (A, n, c) → n ≤ 1099511627776)
    (h : Own1 38 27 41 B w.heap.size g AL cL Ls cl Mkf 0 0 w w) (hmk : ∀ i : Nat, i < 2000000 → FloatKind.f64.format.order (floatOfInt .f64 (1000 + (i : Int))) (floatOfInt .f64 (1000 + (i : Int))) = some .eq) :
    Calls Try.prog 17 #[.pointer (some ⟨g, 0, none⟩)] w fun e w' => e = .returned (.bool true) ∧ Below B w w' := by
  have HN := Aside0.mk hN
  have Hn := Aside0.mk hn
  have HMK := Aside0.mk hmk
  have H1 := Aside0.mk h
  clear hN hn hmk h
  generalize hNN : Ls.length = N at *
  have HNN := Aside0.mk hNN
  clear hNN
  go_enter Try.func17, Try.ntmps17
  go_wp2
  go_loopg [3] N (fun k v wr => ∃ i : Nat, i ≤ N ∧ k = N - i ∧ v = .int .i64 i ∧ Aside0 (Own1 38 27 41 B w.heap.size g AL cL Ls cl Mkf i 0 w wr))
  case atStart => exact ⟨0, by omega, by omega, rfl, H1⟩
  case round =>
    obtain ⟨i, hi, hgk, rfl, HI⟩ := hrel
    have HG := Aside0.mk hgk
    have HL := Aside0.mk hi
    clear hgk hi H1
    have hc0 := HI.out.2.2.2.2.1.cell
    rw [HNN.out] at hc0
    have hw0 : IntKind.i64.wrap ((i : Int) + 1) = (i : Int) + 1 := by rw [i64_w]; unfold wrap64; have := HL.out; have := HN.out; omega
    by_cases hlt : i < N
    · have c1 : decide ((i : Int) < (N : Int)) = true := decide_eq_true (by omega)
      have c2 : decide (i < N) = true := decide_eq_true hlt
      have HLT := Aside0.mk hlt
      have c5 := eq_true hlt
      clear hlt
      obtain ⟨ad, A, n, c, rfl, hrow, _⟩ := HI.out.2.2.2.2.1.at_ i (by have := HNN.out; have := HLT.out; omega)
      have HR := Aside0.mk hrow
      have hnn := Hn.out i A n c hrow
      have HNn := Aside0.mk hnn
      clear hrow hnn
      go_wp2
      go_loopg [4] n (fun q v wq => ∃ k : Nat, k ≤ n ∧ q = n - k ∧ v = .int .i64 k ∧ Aside0 (Own1 38 27 41 B w.heap.size g (some ad) cL Ls cl Mkf i k w wq))
      case atStart => exact ⟨0, by omega, by omega, rfl, HI⟩
      case round =>
        clear HI hc0
        obtain ⟨k, hk, hgk, rfl, HI⟩ := hrel
        have HG2 := Aside0.mk hgk
        have HK := Aside0.mk hk
        clear hgk hk
        have hc0 := HI.out.2.2.2.2.1.cell
        obtain ⟨_, A', n', c', he, hrow, hc1⟩ := HI.out.2.2.2.2.1.at_ i (by have := HNN.out; have := HLT.out; omega)
        rw [HR.out] at hrow
        injection hrow with hrow
        injection hrow with r1 r2
        injection r2 with r2 r3
        injection he with he
        subst r1 r2 r3 he
        rw [HNN.out] at hc0
        have hw1 : IntKind.i64.wrap ((k : Int) + 1) = (k : Int) + 1 := by rw [i64_w]; unfold wrap64; have := HK.out; have := HNn.out; omega
        have hw2 : IntKind.i64.wrap (1000 + (i : Int)) = 1000 + (i : Int) := by rw [i64_w]; unfold wrap64; have := HL.out; have := HN.out; omega
        by_cases hkn : k < n
        · have c3 : decide ((k : Int) < (n : Int)) = true := decide_eq_true (by omega)
          have c4 : decide (k < n) = true := decide_eq_true hkn
          obtain ⟨g', o', u, rfl, hcc, hff, HI2⟩ := HI.out.put HR.out hkn
          have HI3 := Aside0.mk HI2
          have HKN := Aside0.mk hkn
          have c6 := eq_true hkn
          clear hkn HI2
          go_wp2
          go_roundg (n - (k + 1))
          case rel => exact ⟨k + 1, by have := HKN.out; omega, by omega, by go_num, HI3⟩
          case measure => have := HKN.out; have := HG2.out; omega
        · have c3 : decide ((k : Int) < (n : Int)) = false := decide_eq_false (by omega)
          have c4 : decide (k < n) = false := decide_eq_false hkn
          obtain rfl : k = n := by have := HK.out; omega
          have HI3 := Aside0.mk (HI.out.next HR.out)
          clear hkn
          go_wp2
          go_roundg (N - (i + 1))
          case rel => exact ⟨i + 1, by have := HLT.out; omega, by omega, by go_num, HI3⟩
          case measure => have := HLT.out; have := HG.out; omega
    · have c1 : decide ((i : Int) < (N : Int)) = false := decide_eq_false (by omega)
      have c2 : decide (i < N) = false := decide_eq_false hlt
      obtain rfl : i = N := by have := HL.out; omega
      have h0 : ∃ cl al, Aside0 (Own2 38 27 41 B w.heap.size g AL cL Ls Mkf cl al 0 0 w wr (.slice none 0 0)) := ⟨_, _, ⟨Own1.over (HNN.out.symm ▸ HI.out)⟩⟩
      obtain ⟨cl0, al0, H20⟩ := h0
      clear hlt HI
      go_wp2
      go_loopg [5, 6] i (fun q va v wq => ∃ j : Nat, j ≤ i ∧ q = i - j ∧ v = .int .i64 j ∧ ∃ cl al, Aside0 (Own2 38 27 41 B w.heap.size g AL cL Ls Mkf cl al j 0 w wq va))
      case atStart => exact ⟨0, by omega, by omega, rfl, _, _, H20⟩
      case round =>
        clear H20 hc0
        obtain ⟨j, hj, hgk, rfl, cl1, al1, HJ⟩ := hrel
        have HG2 := Aside0.mk hgk
        have HLJ := Aside0.mk hj
        clear hgk hj
        have hc0 := HJ.out.2.2.2.2.1.cell
        rw [HNN.out] at hc0
        have hw1 : IntKind.i64.wrap ((j : Int) + 1) = (j : Int) + 1 := by rw [i64_w]; unfold wrap64; have := HLJ.out; have := HN.out; omega
        by_cases hlt : j < i
        · have c3 : decide ((j : Int) < (i : Int)) = true := decide_eq_true (by omega)
          have c4 : decide (j < i) = true := decide_eq_true hlt
          have c5 := eq_true hlt
          have HLT := Aside0.mk hlt
          clear hlt
          obtain ⟨ad, A, n, c, rfl, hrow, hc1⟩ := HJ.out.2.2.2.2.1.at_ j (by have := HNN.out; have := HLT.out; omega)
          have hx0 : ∃ B_, Aside0 (Fil B_ 41 cl1 wr j (Mkf j) (.slice A n c) n n ∧ B_ = B) := ⟨B, ⟨HJ.out.2.2.2.2.2.2.2.2.1 j _ hrow, rfl⟩⟩
          obtain ⟨_, HX⟩ := hx0
          have HR := Aside0.mk hrow
          have HNn := Aside0.mk (Hn.out j A n c hrow)
          clear hrow
          go_wp2
          go_loopg [5, 7, 8] 5 (fun q va vx v wq => ∃ m : Nat, m ≤ 5 ∧ q = 5 - m ∧ v = .int .i64 m ∧ ∃ cl al A n c, vx = .slice A n c ∧ Aside0 (n ≤ 1099511627776 + m) ∧ Aside0 (Own2 38 27 41 B w.heap.size g (some ad) cL Ls Mkf cl al j m w wq va) ∧ Aside0 (Fil B 41 cl wq j (Mkf j) (.slice A n c) n n))
          case atStart => exact ⟨0, by omega, by omega, rfl, _, _, _, _, _, rfl, ⟨by have := HNn.out; omega⟩, HJ, ⟨by have := HX.out; rw [this.2] at this; exact this.1⟩⟩
          case round =>
            clear HJ HX hc0 hc1 HNn HR
            obtain ⟨m, hm, hgk, rfl, cl2, al2, A2, n2, c2', rfl, HN2, HJ, HX⟩ := hrel
            have HG3 := Aside0.mk hgk
            have HM := Aside0.mk hm
            clear hgk hm
            have hw2 : IntKind.i64.wrap ((m : Int) + 1) = (m : Int) + 1 := by rw [i64_w]; unfold wrap64; have := HM.out; omega
            have hw3 : IntKind.i64.wrap (1000 + (j : Int)) = 1000 + (j : Int) := by rw [i64_w]; unfold wrap64; have := HLT.out; have := HN.out; omega
            by_cases hm5 : m < 5
            · have c6 : decide ((m : Int) < 5) = true := decide_eq_true (by omega)
              have c7 : decide (m < 5) = true := decide_eq_true hm5
              have HM5 := Aside0.mk hm5
              clear hm5
              go_wp2_with (first
                | ((with_reducible refine gate_builtin (b := .append) (xs := #[.tmp 64, .tmp 66]) rfl ?_); at_builtin
                   go_loud (refine Kd.R_append Kd.sl (w0 := wr) w.heap.size rfl (.tmp 64) (.tmp 66) 36 27 (.slice none 0 0) 24 rfl und36 info27 rfl (by decide) (by omega) _ al2 (A2, n2, c2') [.slice A2 n2 c2'] (fun _ => True) (fun _ => False) rfl rfl rfl (fun _ hk => hk.elim) (fun _ _ => trivial) HJ.out.2.2.2.2.2.2.1 (Below.refl _ _) HJ.out.size (by have := HJ.out.2.2.2.2.2.2.2.1; have := HLT.out; have := HN.out; have := HM5.out; omega) ?_)
                   intro v1 w1 ho hb hg hat
                   go_loud (have n0_ := HJ.out.more (x := (A2, n2, c2')) HM5.out HX.out ho hg)
                   clear hb hat ho hg HJ HX
                   have HJ := Aside0.mk n0_.1
                   have HX := Aside0.mk n0_.2
                   clear n0_)
                | ((with_reducible refine gate_builtin (b := .append) (xs := #[.tmp 68, .tmp 72]) rfl ?_); at_builtin
                   refine mark_append B HJ.out.bsize rfl (.tmp 68) (.tmp 72) 27 41 (.float .f64 0) 8 rfl Try.underlying27 info41 rfl (by omega) (.slice A2 n2 c2') n2 j (Mkf j) _ rfl rfl rfl HX.out (by have := HN2.out; have := HM5.out; omega) ?_
                   intro v2 w2 hF hs
                   have n0_ := HJ.out.longer HX.out hs
                   obtain ⟨A3, c3', he, _⟩ := hF.form
                   subst he
                   clear hs HJ HX
                   have HJ := Aside0.mk n0_
                   have HX := Aside0.mk hF
                   clear n0_ hF))
              go_roundg (5 - (m + 1))
              case rel => exact ⟨m + 1, by have := HM5.out; omega, by omega, by go_num, _, _, _, _, _, rfl, ⟨by have := HN2.out; omega⟩, HJ, HX⟩
              case measure => have := HM5.out; have := HG3.out; omega
            · have c6 : decide ((m : Int) < 5) = false := decide_eq_false (by omega)
              have c7 : decide (m < 5) = false := decide_eq_false hm5
              obtain rfl : m = 5 := by have := HM.out; omega
              have HJ2 := Aside0.mk HJ.out.next
              clear hm5 HJ
              go_wp2
              go_roundg (i - (j + 1))
              case rel => exact ⟨j + 1, by have := HLT.out; omega, by omega, by go_num, _, _, HJ2⟩
              case measure => have := HLT.out; have := HG2.out; omega
        · have c3 : decide ((j : Int) < (i : Int)) = false := decide_eq_false (by omega)
          have c4 : decide (j < i) = false := decide_eq_false hlt
          obtain rfl : j = i := by have := HLJ.out; omega
          clear hlt
          obtain ⟨Aa, ca, rfl, hlook⟩ := HJ.out.look
          have hlen : al1.length = 5 * j := HJ.out.2.2.2.2.2.2.2.1
          have HLOOK := Aside0.mk hlook
          have HBB := Aside0.mk HJ.out.2.2.2.2.2.1
          rw [hlen] at HLOOK
          rw [hlen]
          clear HJ hlook hlen
          generalize hNA : 5 * j = NA at *
          have HNA := Aside0.mk hNA
          clear hNA
          go_wp2
          go_loop [9] (fun v => ∃ p : Nat, p ≤ NA ∧ v = .int .i64 p) (fun v => NA - (intOf v).toNat)
          case atStart => exact ⟨0, by omega, rfl⟩
          case round =>
            obtain ⟨p, hp, rfl⟩ := hrel
            have HP := Aside0.mk hp
            clear hp
            have hw2 : IntKind.i64.wrap ((p : Int) + 1) = (p : Int) + 1 := by rw [i64_w]; unfold wrap64; have := HP.out; have := HNA.out; have := HL.out; have := HN.out; omega
            by_cases hpn : p < NA
            · have c5 : decide ((p : Int) < (NA : Int)) = true := decide_eq_true (by omega)
              have c6 : decide (p < NA) = true := decide_eq_true hpn
              have c7 := eq_true hpn
              have HPN := Aside0.mk hpn
              obtain ⟨ad, A, n, c, rfl, hcell, hF⟩ := HLOOK.out p hpn
              obtain ⟨s5, hs5⟩ : ∃ s5 : Nat, p / 5 = s5 := ⟨_, rfl⟩
              rw [hs5] at hF
              have HF := Aside0.mk hF
              have HS5 := Aside0.mk hs5
              have hdiv : (p : Int) / 5 = (s5 : Int) := by omega
              have hdiv2 : Int.tdiv (p : Int) 5 = (s5 : Int) := by rw [Int.tdiv_eq_ediv_of_nonneg (by omega)]; exact hdiv
              clear hpn hF hs5
              have hnm : n ≤ 9223372036854775807 := by
                obtain ⟨⟨xs, hq, _⟩, _⟩ := HF.out
                exact q_max hq
              have HNM := Aside0.mk hnm
              clear hnm
              go_wp2
              go_loop [10] (fun v => ∃ q : Nat, q ≤ n ∧ v = .int .i64 q) (fun v => n - (intOf v).toNat)
              case atStart => exact ⟨0, by omega, rfl⟩
              case round =>
                obtain ⟨q, hq, rfl⟩ := hrel
                have HQ := Aside0.mk hq
                clear hq
                by_cases hqn : q < n
                · have hw3 : IntKind.i64.wrap ((q : Int) + 1) = (q : Int) + 1 := by rw [i64_w]; unfold wrap64; have := HNM.out; omega
                  have d5 : decide ((q : Int) < (n : Int)) = true := decide_eq_true (by omega)
                  have d6 : decide (q < n) = true := decide_eq_true hqn
                  have d7 := eq_true hqn
                  have HQN := Aside0.mk hqn
                  obtain ⟨g', o', u, rfl, hcc, hff, hu⟩ := HF.out.at_ q hqn
                  obtain rfl := hu hqn
                  have hs5b : s5 < 1048576 := by have := HPN.out; have := HNA.out; have := HL.out; have := HN.out; have := HS5.out; omega
                  obtain ⟨hw5, hw6⟩ := wrap_small s5 hs5b
                  have hord := HMK.out s5 (Nat.lt_trans hs5b (by decide))
                  unfold Mkf at hcc
                  clear hs5b
                  clear hqn hu
                  go_wp2
                  go_round
                  case rel => exact ⟨q + 1, by have := HQN.out; omega, by go_num⟩
                  case measure => have := HQN.out; simp [intOf]; omega
                · have d5 : decide ((q : Int) < (n : Int)) = false := decide_eq_false (by omega)
                  have d6 : decide (q < n) = false := decide_eq_false hqn
                  clear hqn
                  go_wp2
                  go_round
                  case rel => exact ⟨p + 1, by have := HPN.out; omega, by go_num⟩
                  case measure => have := HPN.out; simp [intOf]; omega
            · have c5 : decide ((p : Int) < (NA : Int)) = false := decide_eq_false (by omega)
              have c6 : decide (p < NA) = false := decide_eq_false hpn
              clear hpn
              go_wp2
              go_ret
              exact ⟨rfl, HBB.out⟩
theorem take_calls (g B : Nat) (vL : Value) (Ls : List (Option Addr × Nat × Nat)) (x : Option Addr × Nat × Nat) (w : World) (hg : w.heap[g]? = some (.cells #[vL] 38 (0, 0))) (hR : Kd.sl.R 27 w B (fun _ => True) vL Ls) (hB : B ≤ g) (hl : Ls.length ≤ 1000) :
    Calls Try.prog 16 #[.pointer (some ⟨g, 0, none⟩), sl x] w fun e w' => e = .returned (.tuple #[]) ∧ ∃ v1, w'.heap[g]? = some (.cells #[v1] 38 (0, 0)) ∧ Kd.sl.R 27 w' B (fun _ => True) v1 (Ls ++ [x]) ∧ Below B w w' ∧
      ∀ (k : Nat) (cs : Array Value) (t : TypeId), w.heap[k]? = some (.cells cs t (0, 0)) → t ≠ 38 → t ≠ 27 → w'.heap[k]? = w.heap[k]? := by
  have HG := Aside0.mk hg
  have HR := Aside0.mk hR
  have HBB := Aside0.mk hB
  have HL := Aside0.mk hl
  have hc : w.cell? ⟨g, 0, none⟩ = some vL := by rw [blk_cell hg]; rfl
  have hsz : B ≤ w.heap.size := Nat.le_of_lt (Nat.lt_of_le_of_lt hB (blk_lt hg))
  have HS := Aside0.mk hsz
  clear hg hR hB hl hsz
  unfold sl
  go_enter Try.func16, Try.ntmps16
  go_wp2_with ((with_reducible refine gate_builtin (b := .append) rfl ?_); at_builtin
               go_loud (refine Kd.R_append Kd.sl (w0 := w) B rfl _ _ 36 27 (.slice none 0 0) 24 rfl und36 info27 rfl (by decide) (by omega) vL Ls x [sl x] (fun _ => True) (fun _ => False) rfl rfl rfl (fun _ hk => hk.elim) (fun _ _ => trivial) HR.out (Below.refl _ _) HS.out (by have := HL.out; omega) ?_)
               intro v1 w1 ho hb hgr hat
               have hg1 := blk_grown HG.out hgr (Kd.R_ne HR.out HG.out (by decide))
               have hc1 : w1.cell? ⟨g, 0, none⟩ = some vL := by rw [blk_cell hg1]; rfl
               have hf1 := blk_frozen hg1 0
               obtain ⟨A1, c1, he1, _, _⟩ := Kd.R_reads ho
               subst he1
               have HG1 := Aside0.mk hg1
               have HO := Aside0.mk ho
               have HW := Aside0.mk hb
               have HGR := Aside0.mk hgr
               clear hg1 ho hb hgr hat hc)
  refine bodyPost_end (results_none rfl _ _ _) rfl ?_
  have hst : (w1.setCell ⟨g, 0, none⟩ (.slice A1 (Ls.length + 1) c1)).heap[g]? = some (.cells #[.slice A1 (Ls.length + 1) c1] 38 (0, 0)) := blk_set HG1.out 0 _
  have hll : (Ls ++ [x]).length = Ls.length + 1 := by simp
  have HO' := HO.out
  rw [hll] at HO'
  refine ⟨rfl, _, hst, Kd.R_set HO' HG1.out (by decide) 0 _, ?_, fun k cs t hk h1 h2 => ?_⟩
  · exact HW.out.setCell (p := ⟨g, 0, none⟩) HBB.out _
  · have hlt := blk_lt hk
    have hkg : k ≠ g := by
      intro he
      subst he
      have := HG.out
      rw [hk] at this
      injection this with this
      injection this with _ this _
      exact h1 this
    refine (Below.heap_setCell w1 _ _ k hkg).trans (HGR.out.block k hlt (fun he => ?_))
    obtain ⟨cells, hc⟩ := Kd.R_typed HR.out k he.symm
    rw [hk] at hc
    injection hc with hc
    injection hc with _ hc _
    exact h2 hc
/-- Behind a list of marks: what its owner hands in. -/
def lentF (l : List Nat) : List Nat := l ++ [4634696597773484032, 4634766966517661696]
theorem lentF_eq (l : List Nat) : ((cpy (List.replicate (l.length + 2) 0) l).set l.length 4634696597773484032).set (l.length + 1) 4634766966517661696 = lentF l := by
  unfold cpy lentF
  rw [List.length_replicate, Nat.min_eq_left (by omega), List.take_length, List.drop_replicate, show l.length + 2 - l.length = 2 by omega]
  rw [List.set_append_right _ _ (Nat.le_refl _), List.set_append_right _ _ (by omega), Nat.sub_self, show l.length + 1 - l.length = 1 by omega]
  rfl
theorem lentF_length (l : List Nat) : (lentF l).length = l.length + 2 := by simp [lentF]
theorem lent_calls (A0 : Option Addr) (c0 : Nat) (l0 : List Nat) (w : World) (hr0 : (Kd.float .f64).C w A0 l0.length l0) (hl : l0.length ≤ 17592186044415) :
    Calls Try.prog 11 #[.slice A0 l0.length c0] w fun e w' => Below w.heap.size w w' ∧ ∃ g c, e = .returned (.slice (some ⟨g, 0, none⟩) l0.length c) ∧ (Kd.float .f64).R 41 w' w.heap.size (fun _ => True) (.slice (some ⟨g, 0, none⟩) (l0.length + 2) c) (lentF l0) := by
  have HR := Aside0.mk hr0
  have HL := Aside0.mk hl
  have LF := Aside0.mk (lentF_eq l0)
  clear hr0 hl
  generalize hN : l0.length = N at *
  have HN := Aside0.mk hN
  have hw1 : IntKind.i64.wrap ((N : Int) + 2) = ((N + 2 : Nat) : Int) := by rw [i64_w]; unfold wrap64; have := HL.out; omega
  have hw2 : IntKind.i64.wrap ((N : Int) + 1) = ((N + 1 : Nat) : Int) := by rw [i64_w]; unfold wrap64; have := HL.out; omega
  clear hN
  go_enter Try.func11, Try.ntmps11
  go_wp2_with (first
    | ((with_reducible refine gate_dst (N := 7) rfl ?_)
       go_loud (refine Kd.R_make (Kd.float .f64) _ 41 rfl (N := 7) rfl 27 _ _ rfl ((N + 2 : Nat) : Int) rfl rfl Try.underlying27 (.float .f64 0) 8 info41 rfl (by decide) (by omega) (0 : Nat) (ok := fun _ => True) (okp := fun _ => True) rfl (fun _ hk => hk) trivial (by omega) (by have := HL.out; omega) (Below.refl _ _) (Nat.le_refl _) ?_)
       intro v1 w1 ho hb hg_ hnew_
       clear hg_ hnew_
       rw [Int.toNat_natCast] at ho
       have HO := Aside0.mk ho
       have HB := Aside0.mk hb
       clear hb ho)
    | ((with_reducible refine gate_builtin (b := .copy) (xs := #[.tmp 8, .tmp 9]) rfl ?_)
       go_loud (refine R_cpy (enc := (Value.float .f64)) (h1 := fun _ => rfl) (0 : Nat) (w0 := w) w.heap.size rfl (.tmp 8) (.tmp 9) 27 27 41 rfl Try.underlying27 (by kernel_rfl) v1 (List.replicate (N + 2) 0) l0 _ _ _ (fun _ => True) rfl rfl HO.out (Kd.C_below HR.out HB.out) HB.out HB.out.size ?_)
       intro w2 ho hb hg hat
       obtain ⟨xs1, hxs⟩ : ∃ xs1, cpy (List.replicate (N + 2) 0) l0 = xs1 := ⟨_, rfl⟩
       have hx1 : xs1.length = N + 2 := by rw [← hxs]; unfold cpy; rw [List.length_append, List.length_take, List.length_drop, List.length_replicate, HN.out]; omega
       rw [hxs] at ho LF
       clear HO HB hg hat
       obtain ⟨g1, c1, he, hgb, hgl, _⟩ := Kd.R_form ho (by omega)
       rw [hx1] at he
       subst he
       have p1 := Kd.R_celln (0 : Nat) ho ((N : Nat) : Int) (by omega) (by omega)
       have p2 := Kd.R_putg ho ((N : Nat) : Int) 4634696597773484032
       have p3 := Kd.R_celln (0 : Nat) ho ((N + 1 : Nat) : Int) (by omega) (by omega)
       have p4 := Kd.R_putg p2.1 ((N + 1 : Nat) : Int) 4634766966517661696
       rw [Int.toNat_natCast] at p1 p2 p3 p4
       obtain ⟨p1, p1'⟩ := p1
       obtain ⟨p3, p3'⟩ := p3
       have hc1 := (Kd.R_reads' ho).2.1
       obtain ⟨i0, hi0, _, hsz, _⟩ := info_parts info41
       have hcut := cut_to (P := Try.prog) 27 41 .i64 Try.underlying27 hi0 (some ⟨g1, 0, none⟩) (N + 2) c1 ((N : Nat) : Int) (by omega) (by omega) hc1
       rw [Int.toNat_natCast] at hcut
       clear hi0 hsz hc1
       rw [Int.toNat_natCast] at p4
       have P4 := Aside0.mk p4.1
       have GB := Aside0.mk hgb
       have HB := Aside0.mk hb
       clear hb p4 p2 ho hgb hgl hxs hx1)
     )
  go_ret
  refine ⟨?_, g1, c1, rfl, ?_⟩
  · exact (HB.out.setCell (p := ⟨g1, N, none⟩) GB.out _).setCell (p := ⟨g1, N + 1, none⟩) GB.out _
  · have := P4.out
    rw [LF.out] at this
    exact this
theorem cut_cap {P : Program} (t e : TypeId) (kh : IntKind) {i : TypeInfo} (ht : P.underlying t = some (.slice e)) (hi : P.info? e = some i) (A : Option Addr) (n c : Nat) (j : Int) (h0 : 0 ≤ j) (hm : j ≤ c) :
    ∀ W : World, (Instr.slice t (.slice A n c) none (some (.int kh j)) none).run P W = .ok (.slice A j.toNat c) W := by
  intro W
  have hel : P.elem t = e := by simp [Program.elem, ht]
  have hu : P.underlying t = some (.slice (P.elem t)) := by rw [hel]; exact ht
  have ha : (A.map fun x => x.add 0) = A := by cases A <;> simp [Addr.add]
  rw [run_slice_h W t A n c hu kh j h0 (by omega), hel]
  simp [sizeOf, typeInfo, hi, sliced, Result.andThen, ha]
theorem rd_lentF (l : List Nat) : rdOf (0 : Nat) (lentF l) (l.length : Int) = 4634696597773484032 ∧ rdOf (0 : Nat) (lentF l) ((l.length + 1 : Nat) : Int) = 4634766966517661696 := by
  unfold rdOf lentF
  constructor
  · rw [Int.toNat_natCast, List.getD_eq_getElem?_getD, List.getElem?_append_right (Nat.le_refl _), Nat.sub_self]; rfl
  · rw [Int.toNat_natCast, List.getD_eq_getElem?_getD, List.getElem?_append_right (by omega), show l.length + 1 - l.length = 1 by omega]; rfl
def gone (l : List Nat) (k : Nat) : List Nat := List.replicate k 4635541022703616000 ++ (lentF l).drop k
theorem gone_length (l : List Nat) (k : Nat) (hk : k ≤ l.length + 2) : (gone l k).length = l.length + 2 := by
  unfold gone; rw [List.length_append, List.length_replicate, List.length_drop, lentF_length]; omega
theorem gone_set (l : List Nat) (k : Nat) (hk : k < l.length + 2) : (gone l k).set k 4635541022703616000 = gone l (k + 1) := by
  unfold gone
  rw [List.set_append_right _ _ (by simp), List.length_replicate, Nat.sub_self]
  have h := List.drop_eq_getElem_cons (l := lentF l) (i := k) (by rw [lentF_length]; exact hk)
  rw [h, List.set_cons_zero, List.replicate_succ', List.append_assoc]
  rfl
theorem gone_rd (l : List Nat) (k : Nat) (hk : k < l.length) : rdOf (0 : Nat) (gone l k) (k : Int) = rdOf (0 : Nat) l (k : Int) := by
  unfold rdOf gone lentF
  rw [Int.toNat_natCast, List.getD_eq_getElem?_getD, List.getElem?_append_right (by simp), List.length_replicate, Nat.sub_self, List.getElem?_drop, Nat.add_zero, List.getElem?_append_left hk, List.getD_eq_getElem?_getD]
theorem asLent_calls (A0 : Option Addr) (c0 g c : Nat) (l0 : List Nat) (w0 w : World) (hr0 : (Kd.float .f64).C w0 A0 l0.length l0) (hB : Below w0.heap.size w0 w) (hR : (Kd.float .f64).R 41 w w0.heap.size (fun _ => True) (.slice (some ⟨g, 0, none⟩) (l0.length + 2) c) (lentF l0)) (hl : l0.length ≤ 17592186044415) :
    Calls Try.prog 13 #[.slice (some ⟨g, 0, none⟩) l0.length c, .slice A0 l0.length c0] w fun e w' => e = .returned (.bool true) ∧ Below w0.heap.size w0 w' ∧ w.grownBy w' (some g) := by
  have HR := Aside0.mk hr0
  have HO := Aside0.mk hR
  have HB := Aside0.mk hB
  have HL := Aside0.mk hl
  have hc1 := (Kd.R_reads' hR).2.1
  have p1 := Kd.R_celln (0 : Nat) hR ((l0.length : Nat) : Int) (by omega) (by omega)
  have p3 := Kd.R_celln (0 : Nat) hR ((l0.length + 1 : Nat) : Int) (by omega) (by omega)
  rw [(rd_lentF l0).1, Int.toNat_natCast] at p1
  rw [(rd_lentF l0).2, Int.toNat_natCast] at p3
  obtain ⟨p1, p1'⟩ := p1
  obtain ⟨p3, p3'⟩ := p3
  obtain ⟨i0, hi0, _, hsz, _⟩ := info_parts info41
  have hcut := cut_cap (P := Try.prog) 27 41 .i64 Try.underlying27 hi0 (some ⟨g, 0, none⟩) l0.length c ((l0.length + 2 : Nat) : Int) (by omega) (by omega)
  rw [Int.toNat_natCast] at hcut
  replace hcut : ∀ W : World, (Instr.slice 27 (.slice (some ⟨g, 0, none⟩) l0.length c) none (some (.int .i64 ((l0.length : Int) + 2))) none).run Try.prog W = .ok (.slice (some ⟨g, 0, none⟩) (l0.length + 2) c) W := hcut
  have hw1 : IntKind.i64.wrap ((l0.length : Int) + 2) = ((l0.length + 2 : Nat) : Int) := by rw [i64_w]; unfold wrap64; have := HL.out; omega
  have hw2 : IntKind.i64.wrap ((l0.length : Int) + 1) = ((l0.length + 1 : Nat) : Int) := by rw [i64_w]; unfold wrap64; have := HL.out; omega
  clear hr0 hR hB hl hc1 hi0 hsz
  generalize hN : l0.length = N at *
  have HN := Aside0.mk hN
  clear hN
  have o1 : FloatKind.f64.format.order 4634696597773484032 4634696597773484032 = some .eq := by rfl
  have o2 : FloatKind.f64.format.order 4634766966517661696 4634766966517661696 = some .eq := by rfl
  go_enter Try.func13, Try.ntmps13
  go_wp2
  clear p1 p1' p3 p3' o1 o2 hcut hw1 hw2
  have hc2 : (N : Int) + 2 = ((N + 2 : Nat) : Int) := rfl
  rw [hc2]
  clear hc2
  generalize hMM : N + 2 = M at *
  have HMM := Aside0.mk hMM
  clear hMM
  go_loopg [6, 7] M (fun q vg v wr => ∃ k : Nat, k ≤ M ∧ q = M - k ∧ vg = .bool true ∧ v = .int .i64 k ∧ Aside0 (Below w0.heap.size w0 wr) ∧ Aside0 (w.grownBy wr (some g)) ∧ Aside0 ((Kd.float .f64).R 41 wr w0.heap.size (fun _ => True) (.slice (some ⟨g, 0, none⟩) M c) (gone l0 k)))
  case atStart => exact ⟨0, by omega, by omega, rfl, rfl, HB, ⟨⟨rfl, rfl, rfl, Nat.le_refl _, fun _ _ _ => rfl⟩⟩, HO⟩
  case round =>
    clear HB HO
    obtain ⟨k, hk, hgk, rfl, rfl, HB, HW, HO⟩ := hrel
    have HG := Aside0.mk hgk
    have HK := Aside0.mk hk
    clear hgk hk
    have hw1 : IntKind.i64.wrap ((k : Int) + 1) = (k : Int) + 1 := by rw [i64_w]; unfold wrap64; have := HK.out; have := HL.out; have := HMM.out; omega
    by_cases hlt : k < M
    · have c1 : decide ((k : Int) < (M : Int)) = true := decide_eq_true (by omega)
      have c2 : decide (k < M) = true := decide_eq_true hlt
      have c3 := eq_true hlt
      have HLT := Aside0.mk hlt
      have p0 := eq_true (show (k : Int) < (M : Int) by omega)
      have p1 := Kd.R_celln (0 : Nat) HO.out ((k : Nat) : Int) (by omega) (by omega)
      have p2 : ∀ nq, (Kd.float .f64).R 41 ((wr.drewN nq).setCell ⟨g, k, none⟩ (.float .f64 4635541022703616000)) w0.heap.size (fun _ => True) (.slice (some ⟨g, 0, none⟩) M c) (gone l0 (k + 1)) ∧ w.grownBy ((wr.drewN nq).setCell ⟨g, k, none⟩ (.float .f64 4635541022703616000)) (some g) := by
        intro nq
        have q := Kd.R_putg (Kd.R_drewN HO.out nq) ((k : Nat) : Int) 4635541022703616000
        rw [Int.toNat_natCast, gone_set l0 k (by rw [HN.out, HMM.out]; exact hlt)] at q
        have hd : wr.grownBy (wr.drewN nq) (some g) := ⟨rfl, rfl, rfl, Nat.le_refl _, fun _ _ _ => rfl⟩
        exact ⟨q.1, World.grownBy.trans (World.grownBy.trans HW.out hd) q.2⟩
      rw [Int.toNat_natCast] at p1
      obtain ⟨p1, p1'⟩ := p1
      have hgb : w0.heap.size ≤ g := Kd.Q_base (Kd.Q_of_R HO.out) g (by simp [Value.ownBlock])
      have GB := Aside0.mk hgb
      have P2 := Aside0.mk p2
      clear hlt p2 hgb
      by_cases hn : k < N
      · have d1 : decide ((k : Int) ≥ (N : Int)) = false := decide_eq_false (by omega)
        have d2 : decide ((N : Int) ≤ (k : Int)) = false := decide_eq_false (by omega)
        have d3 : decide (N ≤ k) = false := decide_eq_false (by omega)
        have d4 := eq_true hn
        obtain ⟨ad, e, hx⟩ := Kd.at_float HR.out ((k : Nat) : Int) (by omega) (by omega)
        subst e
        rw [gone_rd l0 k (by rw [HN.out]; exact hn)] at p1
        generalize hval : rdOf (0 : Nat) l0 (k : Int) = val at *
        replace hx := (HB.out.cell (World.block_lt_of_cell? w0 _ hx)).trans hx
        rw [Int.toNat_natCast] at hx
        clear hn hval
        go_wp2
        go_quiet ((go_at_call 21; (with_reducible refine (r03_Alike.calls val val true _ (by simp [r03_Alike.f])).mono ?_); rintro e w' ⟨rfl, ⟨nd, rfl⟩⟩; (first | exact ⟨rfl, _, World.drewN_drewN _ _ _⟩ | exact ⟨rfl, _, Eq.trans (World.drewN_drewN _ _ _) (congrArg (World.drewN _) (Nat.add_assoc _ _ _))⟩)))
        go_wp2
        go_roundg (M - (k + 1))
        case rel => exact ⟨k + 1, by have := HLT.out; omega, by omega, rfl, by go_num, ⟨(pw_below_drewN HB.out nq).setCell (p := ⟨g, k, none⟩) GB.out _⟩, ⟨(P2.out nq).2⟩, ⟨(P2.out nq).1⟩⟩
        case measure => have := HLT.out; have := HG.out; omega
      · have d1 : decide ((k : Int) ≥ (N : Int)) = true := decide_eq_true (by omega)
        have d2 : decide ((N : Int) ≤ (k : Int)) = true := decide_eq_true (by omega)
        have d3 : decide (N ≤ k) = true := decide_eq_true (by omega)
        have d4 := eq_true (show N ≤ k by omega)
        generalize rdOf (0 : Nat) (gone l0 k) (k : Int) = val at *
        clear hn
        go_wp2
        go_quiet (fail)
        go_wp2
        go_roundg (M - (k + 1))
        case rel => exact ⟨k + 1, by have := HLT.out; omega, by omega, rfl, by go_num, ⟨(pw_below_drewN HB.out nq).setCell (p := ⟨g, k, none⟩) GB.out _⟩, ⟨(P2.out nq).2⟩, ⟨(P2.out nq).1⟩⟩
        case measure => have := HLT.out; have := HG.out; omega
    · have c1 : decide ((k : Int) < (M : Int)) = false := decide_eq_false (by omega)
      have c2 : decide (k < M) = false := decide_eq_false hlt
      clear hlt
      go_wp2
      go_ret
      exact ⟨rfl, HB.out, HW.out⟩
end Go.Proofs.Ytkoonpjlpobmeaa.Pr
namespace Go.Proofs.Ytkoonpjlpobmeaa.Pr
open Go.RowKit Go.Proofs.YtkoonpjlpobmeaaW.PrintWords Go.Proofs.YtkoonpjlpobmeaaW.PrintLast Go.Proofs.YtkoonpjlpobmeaaW.PrintMore
set_option linter.unusedVariables false
set_option linter.unusedSimpArgs false
theorem inf30 : (Try.prog.info? 30).map (·.size) = some 6 := by kernel_rfl
theorem inf23 : (Try.prog.info? 23).map (·.size) = some 2 := by kernel_rfl
theorem one6 (a b c d e f : Int) : (#[Value.int .i64 a, Value.int .i64 b, Value.int .i64 c, Value.int .i64 d, Value.int .i64 e, Value.int .i64 f] : Array Value).all (·.oneCell') = true := by simp [Value.oneCell']
theorem thn {w w1 w2 : World} (h : Below w.heap.size w w1) (k : Below w1.heap.size w1 w2) : Below w.heap.size w w2 := below_then h h.size k
theorem after_box {W w1 w2 : World} {g : Nat} (hb : Below W.heap.size W w1) (hg : g = W.heap.size) (h : w1.grownBy w2 (some g)) : Below W.heap.size W w2 := hb.grown h hb.size (fun k hk => by injection hk with hk; omega)
theorem lent_reads {w : World} {base g c : Nat} {l : List Nat} (h : (Kd.float .f64).R 41 w base (fun _ => True) (.slice (some ⟨g, 0, none⟩) (l.length + 2) c) (lentF l)) : (Kd.float .f64).C w (some ⟨g, 0, none⟩) l.length l := by
  have := Kd.R_take h (m := l.length) (by rw [lentF_length]; omega)
  have he : (lentF l).take l.length = l := by unfold lentF; rw [List.take_left']; rfl
  rw [he] at this
  exact (Kd.R_reads' this).2.2
theorem blk_row {w w1 : World} {g k : Nat} {cs : Array Value} {t e : TypeId} (h : w.heap[k]? = some (.cells cs t (0, 0))) (hg : w.grownBy w1 (some g)) (ht : ∃ cells, w.heap[g]? = some (.cells cells e (0, 0))) (hne : t ≠ e) : w1.heap[k]? = some (.cells cs t (0, 0)) := by
  obtain ⟨cells, hc⟩ := ht
  exact blk_elderput h hg (blk_ne h hc hne)
theorem own_small {Aa Ab Ac : Option Addr} {ca cb cc : Nat} {la lb : List Nat} (h1 : la.length ≤ 1048576) (h2 : lb.length ≤ 1048576) (j : Nat) (A : Option Addr) (n c : Nat) (h : [(Aa, la.length, ca), (Ab, lb.length, cb), (Ac, la.length, cc)][j]? = some (A, n, c)) : n ≤ 1099511627776 := by
  match j with
  | 0 => simp at h; omega
  | 1 => simp at h; omega
  | 2 => simp at h; omega
  | j + 3 => simp at h
theorem fil_of {w : World} {B base i : Nat} {cl : Nat → Nat} {M v : Value} {xs : List Nat} (h : (Kd.float .f64).R 41 w base (fun _ => True) v xs) (hB : B ≤ base) (hc : ∀ b, v.ownBlock = some b → cl b = i) : Fil B 41 cl w i M v xs.length 0 := by
  obtain ⟨_, inner, hq, _⟩ := Kd.Q_of_R h
  exact ⟨⟨inner, q_lower hq hB, fun q hq => by omega⟩, hc⟩
theorem own3 (B bA nA bB nB bC b20 : Nat) {W : World} {gk : Nat} {vL : Value} {Aa Ab Ac : Option Addr} {ca cb cc : Nat} {la lb lc : List Nat}
    (hBK : W.heap[gk]? = some (.cells #[vL] 38 (0, 0))) (hL : Kd.sl.R 27 W b20 (fun _ => True) vL ([] ++ [(Aa, la.length, ca)] ++ [(Ab, lb.length, cb)] ++ [(Ac, lc.length, cc)]))
    (hA : (Kd.float .f64).R 41 W bA (fun _ => True) (.slice Aa la.length ca) la) (hBb : (Kd.float .f64).R 41 W bB (fun _ => True) (.slice Ab lb.length cb) lb) (hC : (Kd.float .f64).R 41 W bC (fun _ => True) (.slice Ac lc.length cc) lc)
    (hA2 : ∀ b, (Value.slice Aa la.length ca).ownBlock = some b → b < nA) (hB2 : ∀ b, (Value.slice Ab lb.length cb).ownBlock = some b → b < nB) (h0 : B ≤ bA) (h1 : B ≤ W.heap.size) (h2 : nA ≤ bB) (h3 : nB ≤ bC) (h4 : bA ≤ bB) (h5 : bB ≤ bC) (h6 : nA ≤ nB) :
    ∃ AL cL cl, vL = .slice AL 3 cL ∧ Own1 38 27 41 B W.heap.size gk AL cL [(Aa, la.length, ca), (Ab, lb.length, cb), (Ac, lc.length, cc)] cl Mkf 0 0 W W := by
  have e : ([] ++ [(Aa, la.length, ca)] ++ [(Ab, lb.length, cb)] ++ [(Ac, lc.length, cc)]) = [(Aa, la.length, ca), (Ab, lb.length, cb), (Ac, lc.length, cc)] := rfl
  rw [e] at hL
  obtain ⟨AL, cL, rfl, _, _⟩ := Kd.R_reads hL
  have hq := Kd.Q_of_R hL
  obtain ⟨_, inner, hqr, hrep⟩ := hq
  refine ⟨AL, cL, fun b => if b < nA then 0 else if b < nB then 1 else 2, rfl, by decide, by decide, h1, rfl, ⟨hBK, blk_lt hBK, ?_, fun b hb => Kd.R_lt hL b hb⟩, Below.refl _ _, fun j x hx => ?_⟩
  · have hin : inner = [(Aa, la.length, ca), (Ab, lb.length, cb), (Ac, lc.length, cc)].map sl := by
      apply List.ext_getElem?
      intro j
      by_cases hj : j < 3
      · have hm := hrep.2 j _ (List.getElem?_eq_getElem (l := [(Aa, la.length, ca), (Ab, lb.length, cb), (Ac, lc.length, cc)]) (i := j) hj)
        have hM : (inner.drop (j * 1)).take 1 = [sl ([(Aa, la.length, ca), (Ab, lb.length, cb), (Ac, lc.length, cc)][j]'hj)] := hm
        have h7 : ((inner.drop (j * 1)).take 1)[0]? = inner[j]? := by rw [List.getElem?_take, if_pos (by omega), List.getElem?_drop]; simp
        have h9 : ∀ (j : Nat) (hj : j < 3), [sl ([(Aa, la.length, ca), (Ab, lb.length, cb), (Ac, lc.length, cc)][j]'hj)][0]? = ([(Aa, la.length, ca), (Ab, lb.length, cb), (Ac, lc.length, cc)].map sl)[j]? := by
          intro j hj
          match j, hj with
          | 0, _ => rfl
          | 1, _ => rfl
          | 2, _ => rfl
        rw [← h7, hM]
        exact h9 j hj
      · have h8 : inner.length = 3 := hqr.1
        rw [List.getElem?_eq_none (by omega), List.getElem?_eq_none (by simp; omega)]
    rw [hin] at hqr
    exact q_lower hqr (Nat.zero_le _)
  · have hb3 : ∀ b, (Value.slice Ab lb.length cb).ownBlock = some b → bB ≤ b := Kd.Q_base (Kd.Q_of_R hBb)
    have hb4 : ∀ b, (Value.slice Ac lc.length cc).ownBlock = some b → bC ≤ b := Kd.Q_base (Kd.Q_of_R hC)
    have hz : (if j < 0 then x.2.1 else if j = 0 then 0 else 0) = 0 := by simp
    rw [hz]
    match j with
    | 0 => simp at hx; subst hx; exact fil_of hA h0 (fun b hb => if_pos (hA2 b hb))
    | 1 => simp at hx; subst hx; exact fil_of hBb (by omega) (fun b hb => by have := hb3 b hb; have := hB2 b hb; show (if b < nA then 0 else if b < nB then 1 else 2) = 1; rw [if_neg (by omega), if_pos (by omega)])
    | 2 => simp at hx; subst hx; exact fil_of hC (by omega) (fun b hb => by have := hb4 b hb; show (if b < nA then 0 else if b < nB then 1 else 2) = 2; rw [if_neg (by omega), if_neg (by omega)])
    | j + 3 => simp at hx
set_option maxHeartbeats 3000000 in
set_option maxRecDepth 100000 in
theorem sifts_calls (k : Nat) (A0 A1 : Option Addr) (c0 c1 : Nat) (l m : List Nat) (p0 p1 q0 q1 : Int) (la lb : List Nat) (s1 s2 s3 s4 s5 s6 se t1 t2 t3 t4 t5 t6 te : Int) (w : World)
    (hr0 : (Kd.float .f64).C w A0 l.length l) (hc0 : l.length ≤ c0) (hr1 : (Kd.float .f64).C w A1 m.length m) (hc1 : m.length ≤ c1) (hl0 : l.length ≤ 17592186044415) (hl1 : m.length ≤ 17592186044415)
    (hA : l06_awake.f k = some true) (hS : policy_Sift.f k l p0 p1 = some (la, s1, s2, s3, s4, s5, s6, se)) (hT : policy_Sift.f k m q0 q1 = some (lb, t1, t2, t3, t4, t5, t6, te))
    (hS2 : r06_Sift.f k l p0 p1 = some (la, s1, s2, s3, s4, s5, s6, se)) (hT2 : r06_Sift.f k m q0 q1 = some (lb, t1, t2, t3, t4, t5, t6, te))
    (hla : r03_AlikeLists.f k la la = some true) (hlb : r03_AlikeLists.f k lb lb = some true) (hna : la.length ≤ 1048576) (hnb : lb.length ≤ 1048576)
    (hmk : ∀ i : Nat, i < 2000000 → FloatKind.f64.format.order (floatOfInt .f64 (1000 + (i : Int))) (floatOfInt .f64 (1000 + (i : Int))) = some .eq) :
    Calls Try.prog 4 #[.slice A0 l.length c0, .agg #[.int .i64 p0, .int .i64 p1], .slice A1 m.length c1, .agg #[.int .i64 q0, .int .i64 q1]] w fun e w' => e = .returned (.bool true) ∧ Below w.heap.size w w' := by
  have HR0 := Aside0.mk hr0
  have HC0 := Aside0.mk hc0
  have HR1 := Aside0.mk hr1
  have HC1 := Aside0.mk hc1
  have HL0 := Aside0.mk hl0
  have HL1 := Aside0.mk hl1
  have HA := Aside0.mk hA
  have HS := Aside0.mk hS
  have HT := Aside0.mk hT
  have HS2 := Aside0.mk hS2
  have HT2 := Aside0.mk hT2
  have HLA := Aside0.mk hla
  have HLB := Aside0.mk hlb
  have HNA := Aside0.mk hna
  have HNB := Aside0.mk hnb
  have HMK := Aside0.mk hmk
  clear hr0 hc0 hr1 hc1 hl0 hl1 hA hS hT hS2 hT2 hla hlb hna hnb hmk
  go_enter Try.func4, Try.ntmps4
  go_wp2_with (first
    | ((with_reducible refine gate_dst (N := 5) rfl ?_); refine box_event ?hg (N := 5) ?hd (cs := #[.int .i64 p0, .int .i64 p1]) (t := 23) ?hr ?_; (case hd => rfl); (case hg => rfl); (case hr => first | (go_simp; done) | (go_simp; rfl)); intro g5 hg w1 hbox hb
       have BKp := Aside0.mk hbox
       have E0 := Aside0.mk hb
       have GP := Aside0.mk hg
       clear hg hb hbox)
    | ((with_reducible refine gate_dst (N := 7) rfl ?_); refine box_event ?hg (N := 7) ?hd (cs := #[.int .i64 q0, .int .i64 q1]) (t := 23) ?hr ?_; (case hd => rfl); (case hg => rfl); (case hr => first | (go_simp; done) | (go_simp; rfl)); intro g7 hg w2 hbox hb
       have BKq := Aside0.mk hbox
       have E1 := Aside0.mk hb
       have GQ := Aside0.mk hg
       clear hg hb hbox)
    | ((with_reducible refine gate_callee (f := 7) rfl ?_); (try (refine gate_guard (by rfl) ?_; dsimp only)); refine goesL_ (some 30) rfl rfl Try.func7 (by kernel_rfl) rfl #[] rfl (by (try simp only [List.map_toArray, List.map_cons, List.map_nil]); first | done | rfl | (simp only [List.length_drop, List.length_take]; rfl)) ?_
       refine (l06_awake.calls k true _ HA.out).mono ?_
       rintro e w3 ⟨rfl, hb⟩
       refine ⟨_, rfl, ?_⟩
       have E2 := Aside0.mk hb
       clear hb)
    | ((with_reducible refine gate_callee (f := 11) rfl ?_); (try (refine gate_guard (by rfl) ?_; dsimp only)); refine goesL_ (some 34) rfl rfl Try.func11 (by kernel_rfl) rfl #[.slice A0 l.length c0] rfl (by (try simp only [List.map_toArray, List.map_cons, List.map_nil]); first | done | rfl | (simp only [List.length_drop, List.length_take]; rfl)) ?_
       refine (lent_calls A0 c0 l _ (Kd.C_below HR0.out (thn (thn E0.out E1.out) E2.out)) HL0.out).mono ?_
       rintro e w4 ⟨hb, gx, cx, rfl, ho⟩
       refine ⟨_, rfl, ?_⟩
       have E3 := Aside0.mk hb
       have X4 := Aside0.mk ho
       have CX := Aside0.mk (by have := (Kd.R_reads' ho).2.1; omega : l.length ≤ cx)
       clear hb ho)
    | ((with_reducible refine gate_callee (f := 11) rfl ?_); (try (refine gate_guard (by rfl) ?_; dsimp only)); refine goesL_ (some 36) rfl rfl Try.func11 (by kernel_rfl) rfl #[.slice A1 m.length c1] rfl (by (try simp only [List.map_toArray, List.map_cons, List.map_nil]); first | done | rfl | (simp only [List.length_drop, List.length_take]; rfl)) ?_
       refine (lent_calls A1 c1 m _ (Kd.C_below HR1.out (thn (thn (thn E0.out E1.out) E2.out) E3.out)) HL1.out).mono ?_
       rintro e w5 ⟨hb, gy, cy, rfl, ho⟩
       refine ⟨_, rfl, ?_⟩
       have E4 := Aside0.mk hb
       have Y5 := Aside0.mk ho
       have CY := Aside0.mk (by have := (Kd.R_reads' ho).2.1; omega : m.length ≤ cy)
       clear hb ho)
    | ((with_reducible refine gate_dst (N := 39) rfl ?_); (try (refine gate_guard (by rfl) ?_; dsimp only)); refine box_load rfl 23 (.tmp 5) rfl g5 #[.int .i64 p0, .int .i64 p1] rfl (blk_below BKp.out (thn (thn (thn E1.out E2.out) E3.out) E4.out)) Try.underlying23 rfl inf23 ?_)
    | ((with_reducible refine gate_callee (f := 12) rfl ?_); (try (refine gate_guard (by rfl) ?_; dsimp only)); refine goesL_ (some 40) rfl rfl Try.func12 (by kernel_rfl) rfl #[.slice (some ⟨gx, 0, none⟩) l.length cx, .agg #[.int .i64 p0, .int .i64 p1]] rfl (by (try simp only [List.map_toArray, List.map_cons, List.map_nil]); first | done | rfl | (simp only [List.length_drop, List.length_take]; rfl)) ?_
       refine (policy_Sift.calls k _ _ l p0 p1 la s1 s2 s3 s4 s5 s6 se _ (lent_reads (Kd.R_below X4.out E4.out)) CX.out HS.out).mono ?_
       rintro e w6 ⟨va, rfl, ho, hb⟩
       refine ⟨_, rfl, ?_⟩
       have E5 := Aside0.mk hb
       obtain ⟨Ava, cva, he, _, _⟩ := Kd.R_reads ho
       subst he
       have RA := Aside0.mk ho
       clear hb ho)
    | ((with_reducible refine gate_dst (N := 13) rfl ?_); refine box_event ?hg (N := 13) ?hd (cs := #[.int .i64 0, .int .i64 0, .int .i64 0, .int .i64 0, .int .i64 0, .int .i64 0]) (t := 30) ?hr ?_; (case hd => rfl); (case hg => rfl); (case hr => first | (go_simp; done) | (go_simp; rfl)); intro g13 hg w6z hbox hb
       have BKz := Aside0.mk hbox
       have EZ := Aside0.mk hb
       have GZ := Aside0.mk hg
       clear hg hb hbox)
    | ((with_reducible refine gate_store (t := 30) (p := 13) rfl ?_); refine box_store rfl 30 (.tmp 13) (.tmp 42) rfl g13 #[.int .i64 0, .int .i64 0, .int .i64 0, .int .i64 0, .int .i64 0, .int .i64 0] #[.int .i64 s1, .int .i64 s2, .int .i64 s3, .int .i64 s4, .int .i64 s5, .int .i64 s6] rfl rfl BKz.out rfl inf30 (one6 _ _ _ _ _ _) ?_
       intro w7 hbox hgr
       have E6 := Aside0.mk (after_box EZ.out GZ.out hgr)
       have BKs := Aside0.mk hbox
       clear hbox hgr BKz EZ GZ)
    | ((with_reducible refine gate_dst (N := 46) rfl ?_); (try (refine gate_guard (by rfl) ?_; dsimp only)); refine box_load rfl 23 (.tmp 7) rfl g7 #[.int .i64 q0, .int .i64 q1] rfl (blk_below BKq.out (thn (thn (thn (thn E2.out E3.out) E4.out) E5.out) E6.out)) Try.underlying23 rfl inf23 ?_)
    | ((with_reducible refine gate_callee (f := 12) rfl ?_); (try (refine gate_guard (by rfl) ?_; dsimp only)); refine goesL_ (some 47) rfl rfl Try.func12 (by kernel_rfl) rfl #[.slice (some ⟨gy, 0, none⟩) m.length cy, .agg #[.int .i64 q0, .int .i64 q1]] rfl (by (try simp only [List.map_toArray, List.map_cons, List.map_nil]); first | done | rfl | (simp only [List.length_drop, List.length_take]; rfl)) ?_
       refine (policy_Sift.calls k _ _ m q0 q1 lb t1 t2 t3 t4 t5 t6 te _ (lent_reads (Kd.R_below Y5.out (thn E5.out E6.out))) CY.out HT.out).mono ?_
       rintro e w8 ⟨vb, rfl, ho, hb⟩
       refine ⟨_, rfl, ?_⟩
       have E7 := Aside0.mk hb
       obtain ⟨Avb, cvb, he, _, _⟩ := Kd.R_reads ho
       subst he
       have RB := Aside0.mk ho
       clear hb ho)
    | ((with_reducible refine gate_dst (N := 16) rfl ?_); refine box_event ?hg (N := 16) ?hd (cs := #[.int .i64 0, .int .i64 0, .int .i64 0, .int .i64 0, .int .i64 0, .int .i64 0]) (t := 30) ?hr ?_; (case hd => rfl); (case hg => rfl); (case hr => first | (go_simp; done) | (go_simp; rfl)); intro g16 hg w8z hbox hb
       have BKz := Aside0.mk hbox
       have EZ := Aside0.mk hb
       have GZ := Aside0.mk hg
       clear hg hb hbox)
    | ((with_reducible refine gate_store (t := 30) (p := 16) rfl ?_); refine box_store rfl 30 (.tmp 16) (.tmp 49) rfl g16 #[.int .i64 0, .int .i64 0, .int .i64 0, .int .i64 0, .int .i64 0, .int .i64 0] #[.int .i64 t1, .int .i64 t2, .int .i64 t3, .int .i64 t4, .int .i64 t5, .int .i64 t6] rfl rfl BKz.out rfl inf30 (one6 _ _ _ _ _ _) ?_
       intro w9 hbox hgr
       have E8 := Aside0.mk (after_box EZ.out GZ.out hgr)
       have BKt := Aside0.mk hbox
       clear hbox hgr BKz EZ GZ)
    | ((with_reducible refine gate_dst (N := 53) rfl ?_); (try (refine gate_guard (by rfl) ?_; dsimp only)); refine box_load rfl 23 (.tmp 5) rfl g5 #[.int .i64 p0, .int .i64 p1] rfl (blk_below BKp.out (thn (thn (thn (thn (thn (thn (thn E1.out E2.out) E3.out) E4.out) E5.out) E6.out) E7.out) E8.out)) Try.underlying23 rfl inf23 ?_)
    | ((with_reducible refine gate_callee (f := 12) rfl ?_); (try (refine gate_guard (by rfl) ?_; dsimp only)); refine goesL_ (some 54) rfl rfl Try.func12 (by kernel_rfl) rfl #[.slice (some ⟨gx, 0, none⟩) l.length cx, .agg #[.int .i64 p0, .int .i64 p1]] rfl (by (try simp only [List.map_toArray, List.map_cons, List.map_nil]); first | done | rfl | (simp only [List.length_drop, List.length_take]; rfl)) ?_
       refine (policy_Sift.calls k _ _ l p0 p1 la s1 s2 s3 s4 s5 s6 se _ (lent_reads (Kd.R_below X4.out (thn (thn (thn (thn E4.out E5.out) E6.out) E7.out) E8.out))) CX.out HS.out).mono ?_
       rintro e w10 ⟨vc, rfl, ho, hb⟩
       refine ⟨_, rfl, ?_⟩
       have E9 := Aside0.mk hb
       obtain ⟨Avc, cvc, he, _, _⟩ := Kd.R_reads ho
       subst he
       have RC := Aside0.mk ho
       clear hb ho)
    | ((with_reducible refine gate_dst (N := 19) rfl ?_); refine box_event ?hg (N := 19) ?hd (cs := #[.int .i64 0, .int .i64 0, .int .i64 0, .int .i64 0, .int .i64 0, .int .i64 0]) (t := 30) ?hr ?_; (case hd => rfl); (case hg => rfl); (case hr => first | (go_simp; done) | (go_simp; rfl)); intro g19 hg w10z hbox hb
       have BKz := Aside0.mk hbox
       have EZ := Aside0.mk hb
       have GZ := Aside0.mk hg
       clear hg hb hbox)
    | ((with_reducible refine gate_store (t := 30) (p := 19) rfl ?_); refine box_store rfl 30 (.tmp 19) (.tmp 56) rfl g19 #[.int .i64 0, .int .i64 0, .int .i64 0, .int .i64 0, .int .i64 0, .int .i64 0] #[.int .i64 s1, .int .i64 s2, .int .i64 s3, .int .i64 s4, .int .i64 s5, .int .i64 s6] rfl rfl BKz.out rfl inf30 (one6 _ _ _ _ _ _) ?_
       intro w11 hbox hgr
       have E10 := Aside0.mk (after_box EZ.out GZ.out hgr)
       have BKu := Aside0.mk hbox
       clear hbox hgr BKz EZ GZ)
    | ((with_reducible refine gate_callee (f := 13) rfl ?_); (try (refine gate_guard (by rfl) ?_; dsimp only)); refine goesL_ (some 60) rfl rfl Try.func13 (by kernel_rfl) rfl #[.slice (some ⟨gx, 0, none⟩) l.length cx, .slice A0 l.length c0] rfl (by (try simp only [List.map_toArray, List.map_cons, List.map_nil]); first | done | rfl | (simp only [List.length_drop, List.length_take]; rfl)) ?_
       refine (asLent_calls A0 c0 gx cx l w _ HR0.out (thn (thn (thn (thn (thn (thn (thn (thn (thn (thn E0.out E1.out) E2.out) E3.out) E4.out) E5.out) E6.out) E7.out) E8.out) E9.out) E10.out) (Kd.R_lower (Kd.R_below X4.out (thn (thn (thn (thn (thn (thn E4.out E5.out) E6.out) E7.out) E8.out) E9.out) E10.out)) (below_size (thn (thn E0.out E1.out) E2.out))) HL0.out).mono ?_
       rintro e w12 ⟨rfl, hb, hgr⟩
       refine ⟨_, rfl, ?_⟩
       have HB12 := Aside0.mk hb
       have hgx : gx < w4.heap.size := Kd.R_lt X4.out gx (by simp [Value.ownBlock])
       have z5 := below_size E4.out
       have z7 := below_size (thn (thn E4.out E5.out) E6.out)
       have z9 := below_size (thn (thn (thn (thn E4.out E5.out) E6.out) E7.out) E8.out)
       have tX := Kd.R_typed (Kd.R_below X4.out (thn (thn (thn (thn (thn (thn E4.out E5.out) E6.out) E7.out) E8.out) E9.out) E10.out)) gx (by simp [Value.ownBlock])
       have BP2 := Aside0.mk (blk_row (blk_below BKp.out (thn (thn (thn (thn (thn (thn (thn (thn (thn E1.out E2.out) E3.out) E4.out) E5.out) E6.out) E7.out) E8.out) E9.out) E10.out)) hgr tX (by decide))
       have BQ2 := Aside0.mk (blk_row (blk_below BKq.out (thn (thn (thn (thn (thn (thn (thn (thn E2.out E3.out) E4.out) E5.out) E6.out) E7.out) E8.out) E9.out) E10.out)) hgr tX (by decide))
       have BS2 := Aside0.mk (blk_row (blk_below BKs.out (thn (thn (thn E7.out E8.out) E9.out) E10.out)) hgr tX (by decide))
       have BT2 := Aside0.mk (blk_row (blk_below BKt.out (thn E9.out E10.out)) hgr tX (by decide))
       have BU2 := Aside0.mk (blk_row BKu.out hgr tX (by decide))
       have RA2 := Aside0.mk (Kd.R_elderput (Kd.R_below RA.out (thn (thn (thn (thn E6.out E7.out) E8.out) E9.out) E10.out)) hgr (by omega))
       have RB2 := Aside0.mk (Kd.R_elderput (Kd.R_below RB.out (thn (thn E8.out E9.out) E10.out)) hgr (by omega))
       have RC2 := Aside0.mk (Kd.R_elderput (Kd.R_below RC.out E10.out) hgr (by omega))
       have Y2 := Aside0.mk (Kd.R_elderput (Kd.R_below Y5.out (thn (thn (thn (thn (thn E5.out E6.out) E7.out) E8.out) E9.out) E10.out)) hgr (by omega))
       clear hb hgr hgx z5 z7 z9 tX X4)
    | ((with_reducible refine gate_callee (f := 13) rfl ?_); (try (refine gate_guard (by rfl) ?_; dsimp only)); refine goesL_ (some 63) rfl rfl Try.func13 (by kernel_rfl) rfl #[.slice (some ⟨gy, 0, none⟩) m.length cy, .slice A1 m.length c1] rfl (by (try simp only [List.map_toArray, List.map_cons, List.map_nil]); first | done | rfl | (simp only [List.length_drop, List.length_take]; rfl)) ?_
       refine (asLent_calls A1 c1 gy cy m w _ HR1.out HB12.out (Kd.R_lower Y2.out (below_size (thn (thn (thn E0.out E1.out) E2.out) E3.out))) HL1.out).mono ?_
       rintro e w13 ⟨rfl, hb, hgr⟩
       refine ⟨_, rfl, ?_⟩
       have HB13 := Aside0.mk hb
       have hgy : gy < w5.heap.size := Kd.R_lt Y5.out gy (by simp [Value.ownBlock])
       have z7 := below_size (thn E5.out E6.out)
       have z9 := below_size (thn (thn (thn E5.out E6.out) E7.out) E8.out)
       have tY := Kd.R_typed Y2.out gy (by simp [Value.ownBlock])
       have BP3 := Aside0.mk (blk_row BP2.out hgr tY (by decide))
       have BQ3 := Aside0.mk (blk_row BQ2.out hgr tY (by decide))
       have BS3 := Aside0.mk (blk_row BS2.out hgr tY (by decide))
       have BT3 := Aside0.mk (blk_row BT2.out hgr tY (by decide))
       have BU3 := Aside0.mk (blk_row BU2.out hgr tY (by decide))
       have RA3 := Aside0.mk (Kd.R_elderput RA2.out hgr (by omega))
       have RB3 := Aside0.mk (Kd.R_elderput RB2.out hgr (by omega))
       have RC3 := Aside0.mk (Kd.R_elderput RC2.out hgr (by omega))
       clear hb hgr hgy z7 z9 tY Y2 BP2 BQ2 BS2 BT2 BU2 RA2 RB2 RC2)
    | ((with_reducible refine gate_dst (N := 66) rfl ?_); (try (refine gate_guard (by rfl) ?_; dsimp only)); refine box_load rfl 23 (.tmp 5) rfl g5 #[.int .i64 p0, .int .i64 p1] rfl BP3.out Try.underlying23 rfl inf23 ?_)
    | ((with_reducible refine gate_callee (f := 14) rfl ?_); (try (refine gate_guard (by rfl) ?_; dsimp only)); refine goesL_ (some 67) rfl rfl Try.func14 (by kernel_rfl) rfl #[.slice A0 l.length c0, .agg #[.int .i64 p0, .int .i64 p1]] rfl (by (try simp only [List.map_toArray, List.map_cons, List.map_nil]); first | done | rfl | (simp only [List.length_drop, List.length_take]; rfl)) ?_
       refine (r06_Sift.calls k _ _ l p0 p1 la s1 s2 s3 s4 s5 s6 se _ (Kd.C_below HR0.out HB13.out) HC0.out HS2.out).mono ?_
       rintro e w14 ⟨va2, rfl, ho, hb⟩
       refine ⟨_, rfl, ?_⟩
       have E13 := Aside0.mk hb
       obtain ⟨Ava2, cva2, he, _, _⟩ := Kd.R_reads ho
       subst he
       have RA14 := Aside0.mk ho
       clear hb ho)
    | ((with_reducible refine gate_dst (N := 24) rfl ?_); refine box_event ?hg (N := 24) ?hd (cs := #[.int .i64 0, .int .i64 0, .int .i64 0, .int .i64 0, .int .i64 0, .int .i64 0]) (t := 30) ?hr ?_; (case hd => rfl); (case hg => rfl); (case hr => first | (go_simp; done) | (go_simp; rfl)); intro g24 hg w14z hbox hb
       have BKz := Aside0.mk hbox
       have EZ := Aside0.mk hb
       have GZ := Aside0.mk hg
       clear hg hb hbox)
    | ((with_reducible refine gate_store (t := 30) (p := 24) rfl ?_); refine box_store rfl 30 (.tmp 24) (.tmp 69) rfl g24 #[.int .i64 0, .int .i64 0, .int .i64 0, .int .i64 0, .int .i64 0, .int .i64 0] #[.int .i64 s1, .int .i64 s2, .int .i64 s3, .int .i64 s4, .int .i64 s5, .int .i64 s6] rfl rfl BKz.out rfl inf30 (one6 _ _ _ _ _ _) ?_
       intro w15 hbox hgr
       have E14 := Aside0.mk (after_box EZ.out GZ.out hgr)
       have BKs2 := Aside0.mk hbox
       clear hbox hgr BKz EZ GZ)
    | ((with_reducible refine gate_dst (N := 73) rfl ?_); (try (refine gate_guard (by rfl) ?_; dsimp only)); refine box_load rfl 23 (.tmp 7) rfl g7 #[.int .i64 q0, .int .i64 q1] rfl (blk_below BQ3.out (thn E13.out E14.out)) Try.underlying23 rfl inf23 ?_)
    | ((with_reducible refine gate_callee (f := 14) rfl ?_); (try (refine gate_guard (by rfl) ?_; dsimp only)); refine goesL_ (some 74) rfl rfl Try.func14 (by kernel_rfl) rfl #[.slice A1 m.length c1, .agg #[.int .i64 q0, .int .i64 q1]] rfl (by (try simp only [List.map_toArray, List.map_cons, List.map_nil]); first | done | rfl | (simp only [List.length_drop, List.length_take]; rfl)) ?_
       refine (r06_Sift.calls k _ _ m q0 q1 lb t1 t2 t3 t4 t5 t6 te _ (Kd.C_below HR1.out (below_step HB13.out (thn E13.out E14.out))) HC1.out HT2.out).mono ?_
       rintro e w16 ⟨vb2, rfl, ho, hb⟩
       refine ⟨_, rfl, ?_⟩
       have E15 := Aside0.mk hb
       obtain ⟨Avb2, cvb2, he, _, _⟩ := Kd.R_reads ho
       subst he
       have RB16 := Aside0.mk ho
       clear hb ho)
    | ((with_reducible refine gate_dst (N := 27) rfl ?_); refine box_event ?hg (N := 27) ?hd (cs := #[.int .i64 0, .int .i64 0, .int .i64 0, .int .i64 0, .int .i64 0, .int .i64 0]) (t := 30) ?hr ?_; (case hd => rfl); (case hg => rfl); (case hr => first | (go_simp; done) | (go_simp; rfl)); intro g27 hg w16z hbox hb
       have BKz := Aside0.mk hbox
       have EZ := Aside0.mk hb
       have GZ := Aside0.mk hg
       clear hg hb hbox)
    | ((with_reducible refine gate_store (t := 30) (p := 27) rfl ?_); refine box_store rfl 30 (.tmp 27) (.tmp 76) rfl g27 #[.int .i64 0, .int .i64 0, .int .i64 0, .int .i64 0, .int .i64 0, .int .i64 0] #[.int .i64 t1, .int .i64 t2, .int .i64 t3, .int .i64 t4, .int .i64 t5, .int .i64 t6] rfl rfl BKz.out rfl inf30 (one6 _ _ _ _ _ _) ?_
       intro w17 hbox hgr
       have E16 := Aside0.mk (after_box EZ.out GZ.out hgr)
       have BKt2 := Aside0.mk hbox
       clear hbox hgr BKz EZ GZ)
    | ((with_reducible refine gate_dst (N := 100) rfl ?_); (try (refine gate_guard (by rfl) ?_; dsimp only)); refine box_load rfl 30 (.tmp 13) rfl g13 #[.int .i64 s1, .int .i64 s2, .int .i64 s3, .int .i64 s4, .int .i64 s5, .int .i64 s6] rfl (blk_below BS3.out (thn (thn (thn E13.out E14.out) E15.out) E16.out)) Try.underlying30 rfl inf30 ?_)
    | ((with_reducible refine gate_dst (N := 101) rfl ?_); (try (refine gate_guard (by rfl) ?_; dsimp only)); refine box_load rfl 30 (.tmp 24) rfl g24 #[.int .i64 s1, .int .i64 s2, .int .i64 s3, .int .i64 s4, .int .i64 s5, .int .i64 s6] rfl (blk_below BKs2.out (thn E15.out E16.out)) Try.underlying30 rfl inf30 ?_)
    | ((with_reducible refine gate_dst (N := 105) rfl ?_); (try (refine gate_guard (by rfl) ?_; dsimp only)); refine box_load rfl 30 (.tmp 16) rfl g16 #[.int .i64 t1, .int .i64 t2, .int .i64 t3, .int .i64 t4, .int .i64 t5, .int .i64 t6] rfl (blk_below BT3.out (thn (thn (thn E13.out E14.out) E15.out) E16.out)) Try.underlying30 rfl inf30 ?_)
    | ((with_reducible refine gate_dst (N := 106) rfl ?_); (try (refine gate_guard (by rfl) ?_; dsimp only)); refine box_load rfl 30 (.tmp 27) rfl g27 #[.int .i64 t1, .int .i64 t2, .int .i64 t3, .int .i64 t4, .int .i64 t5, .int .i64 t6] rfl BKt2.out Try.underlying30 rfl inf30 ?_)
    | ((with_reducible refine gate_dst (N := 110) rfl ?_); (try (refine gate_guard (by rfl) ?_; dsimp only)); refine box_load rfl 30 (.tmp 19) rfl g19 #[.int .i64 s1, .int .i64 s2, .int .i64 s3, .int .i64 s4, .int .i64 s5, .int .i64 s6] rfl (blk_below BU3.out (thn (thn (thn E13.out E14.out) E15.out) E16.out)) Try.underlying30 rfl inf30 ?_)
    | ((with_reducible refine gate_dst (N := 111) rfl ?_); (try (refine gate_guard (by rfl) ?_; dsimp only)); refine box_load rfl 30 (.tmp 24) rfl g24 #[.int .i64 s1, .int .i64 s2, .int .i64 s3, .int .i64 s4, .int .i64 s5, .int .i64 s6] rfl (blk_below BKs2.out (thn E15.out E16.out)) Try.underlying30 rfl inf30 ?_)
    | ((with_reducible refine gate_callee (f := 15) rfl ?_); (try (refine gate_guard (by rfl) ?_; dsimp only)); refine goesL_ (some 116) rfl rfl Try.func15 (by kernel_rfl) rfl #[.slice Ava la.length cva, .slice Ava2 la.length cva2] rfl (by (try simp only [List.map_toArray, List.map_cons, List.map_nil]); first | done | rfl | (simp only [List.length_drop, List.length_take]; rfl)) ?_
       refine (r03_AlikeLists.calls k Ava cva la Ava2 cva2 la true _ (Kd.R_reads' (Kd.R_below RA3.out (thn (thn (thn E13.out E14.out) E15.out) E16.out))).2.2 (Kd.R_reads' (Kd.R_below RA3.out (thn (thn (thn E13.out E14.out) E15.out) E16.out))).2.1 (Kd.R_reads' (Kd.R_below RA14.out (thn (thn E14.out E15.out) E16.out))).2.2 (Kd.R_reads' (Kd.R_below RA14.out (thn (thn E14.out E15.out) E16.out))).2.1 HLA.out).mono ?_
       rintro e w18 ⟨rfl, hd⟩
       refine ⟨_, rfl, ?_⟩
       have E17 := Aside0.mk hd.below
       clear hd)
    | ((with_reducible refine gate_callee (f := 15) rfl ?_); (try (refine gate_guard (by rfl) ?_; dsimp only)); refine goesL_ (some 121) rfl rfl Try.func15 (by kernel_rfl) rfl #[.slice Avb lb.length cvb, .slice Avb2 lb.length cvb2] rfl (by (try simp only [List.map_toArray, List.map_cons, List.map_nil]); first | done | rfl | (simp only [List.length_drop, List.length_take]; rfl)) ?_
       refine (r03_AlikeLists.calls k Avb cvb lb Avb2 cvb2 lb true _ (Kd.R_reads' (Kd.R_below RB3.out (thn (thn (thn (thn E13.out E14.out) E15.out) E16.out) E17.out))).2.2 (Kd.R_reads' (Kd.R_below RB3.out (thn (thn (thn (thn E13.out E14.out) E15.out) E16.out) E17.out))).2.1 (Kd.R_reads' (Kd.R_below RB16.out (thn E16.out E17.out))).2.2 (Kd.R_reads' (Kd.R_below RB16.out (thn E16.out E17.out))).2.1 HLB.out).mono ?_
       rintro e w19 ⟨rfl, hd⟩
       refine ⟨_, rfl, ?_⟩
       have E18 := Aside0.mk hd.below
       clear hd)
    | ((with_reducible refine gate_callee (f := 15) rfl ?_); (try (refine gate_guard (by rfl) ?_; dsimp only)); refine goesL_ (some 127) rfl rfl Try.func15 (by kernel_rfl) rfl #[.slice Avc la.length cvc, .slice Ava2 la.length cva2] rfl (by (try simp only [List.map_toArray, List.map_cons, List.map_nil]); first | done | rfl | (simp only [List.length_drop, List.length_take]; rfl)) ?_
       refine (r03_AlikeLists.calls k Avc cvc la Ava2 cva2 la true _ (Kd.R_reads' (Kd.R_below RC3.out (thn (thn (thn (thn (thn E13.out E14.out) E15.out) E16.out) E17.out) E18.out))).2.2 (Kd.R_reads' (Kd.R_below RC3.out (thn (thn (thn (thn (thn E13.out E14.out) E15.out) E16.out) E17.out) E18.out))).2.1 (Kd.R_reads' (Kd.R_below RA14.out (thn (thn (thn (thn E14.out E15.out) E16.out) E17.out) E18.out))).2.2 (Kd.R_reads' (Kd.R_below RA14.out (thn (thn (thn (thn E14.out E15.out) E16.out) E17.out) E18.out))).2.1 HLA.out).mono ?_
       rintro e w20 ⟨rfl, hd⟩
       refine ⟨_, rfl, ?_⟩
       have E19 := Aside0.mk hd.below
       clear hd)
    | ((with_reducible refine gate_dst (N := 131) rfl ?_); refine box_event ?hg (N := 131) ?hd (cs := #[.slice none 0 0]) (t := 38) ?hr ?_; (case hd => rfl); (case hg => rfl); (case hr => first | (go_simp; done) | (go_simp; rfl)); intro gk hg w21 hbox hb
       have T0 := Aside0.mk hb
       have BK0 := Aside0.mk hbox
       have GK := Aside0.mk hg
       have L0 : Aside0 (Kd.sl.R 27 w21 w20.heap.size (fun _ => True) (.slice none 0 0) []) := ⟨Kd.R_nil _ _ _ _ _⟩
       clear hg hb hbox)
    | ((with_reducible refine gate_callee (f := 16) rfl ?_); (try (refine gate_guard (by rfl) ?_; dsimp only)); refine goesL_ (some 134) rfl rfl Try.func16 (by kernel_rfl) rfl #[.pointer (some ⟨gk, 0, none⟩), .slice Ava la.length cva] rfl (by (try simp only [List.map_toArray, List.map_cons, List.map_nil]); first | done | rfl | (simp only [List.length_drop, List.length_take]; rfl)) ?_
       refine (take_calls gk w20.heap.size _ _ (Ava, la.length, cva) _ BK0.out L0.out (by rw [GK.out]; exact Nat.le_refl _) (by simp)).mono ?_
       rintro e w22 ⟨rfl, vl1, hbox, ho, hb, _⟩
       refine ⟨_, rfl, ?_⟩
       have T1 := Aside0.mk (T0.out.trans hb)
       have BK1 := Aside0.mk hbox
       have L1 := Aside0.mk ho
       clear hbox ho hb BK0 L0)
    | ((with_reducible refine gate_callee (f := 16) rfl ?_); (try (refine gate_guard (by rfl) ?_; dsimp only)); refine goesL_ (some 137) rfl rfl Try.func16 (by kernel_rfl) rfl #[.pointer (some ⟨gk, 0, none⟩), .slice Avb lb.length cvb] rfl (by (try simp only [List.map_toArray, List.map_cons, List.map_nil]); first | done | rfl | (simp only [List.length_drop, List.length_take]; rfl)) ?_
       refine (take_calls gk w20.heap.size _ _ (Avb, lb.length, cvb) _ BK1.out L1.out (by rw [GK.out]; exact Nat.le_refl _) (by simp)).mono ?_
       rintro e w23 ⟨rfl, vl2, hbox, ho, hb, _⟩
       refine ⟨_, rfl, ?_⟩
       have T2 := Aside0.mk (T1.out.trans hb)
       have BK2 := Aside0.mk hbox
       have L2 := Aside0.mk ho
       clear hbox ho hb BK1 L1)
    | ((with_reducible refine gate_callee (f := 16) rfl ?_); (try (refine gate_guard (by rfl) ?_; dsimp only)); refine goesL_ (some 140) rfl rfl Try.func16 (by kernel_rfl) rfl #[.pointer (some ⟨gk, 0, none⟩), .slice Avc la.length cvc] rfl (by (try simp only [List.map_toArray, List.map_cons, List.map_nil]); first | done | rfl | (simp only [List.length_drop, List.length_take]; rfl)) ?_
       refine (take_calls gk w20.heap.size _ _ (Avc, la.length, cvc) _ BK2.out L2.out (by rw [GK.out]; exact Nat.le_refl _) (by simp)).mono ?_
       rintro e w24 ⟨rfl, vl3, hbox, ho, hb, _⟩
       refine ⟨_, rfl, ?_⟩
       have T3 := Aside0.mk (T2.out.trans hb)
       have BK3 := Aside0.mk hbox
       have L3 := Aside0.mk ho
       clear hbox ho hb BK2 L2
       have b0 := below_size HB13.out
       have b1 := below_size (thn (thn (thn (thn (thn (thn E13.out E14.out) E15.out) E16.out) E17.out) E18.out) E19.out)
       have b2 := T3.out.size
       have b3 := below_size (thn (thn (thn (thn E0.out E1.out) E2.out) E3.out) E4.out)
       have b4 := below_size E6.out
       have b5 := below_size E8.out
       have b6 := below_size E5.out
       have b7 := below_size E7.out
       have o3 := own3 w.heap.size w5.heap.size w6.heap.size w7.heap.size w8.heap.size w9.heap.size w20.heap.size BK3.out L3.out (Kd.R_step (Kd.R_below RA3.out (thn (thn (thn (thn (thn (thn E13.out E14.out) E15.out) E16.out) E17.out) E18.out) E19.out)) (fun k_ _ hk_ => T3.out.block k_ hk_)) (Kd.R_step (Kd.R_below RB3.out (thn (thn (thn (thn (thn (thn E13.out E14.out) E15.out) E16.out) E17.out) E18.out) E19.out)) (fun k_ _ hk_ => T3.out.block k_ hk_)) (Kd.R_step (Kd.R_below RC3.out (thn (thn (thn (thn (thn (thn E13.out E14.out) E15.out) E16.out) E17.out) E18.out) E19.out)) (fun k_ _ hk_ => T3.out.block k_ hk_)) (Kd.R_lt RA.out) (Kd.R_lt RB.out) b3 (by omega) b4 b5 (by omega) (by omega) (by omega)
       obtain ⟨AL, cL, cl, he, hown⟩ := o3
       have HOWN := Aside0.mk (own_first w.heap.size gk cL AL _ cl _ (by simp) (fun j A n c hj => own_small HNA.out HNB.out j A n c hj) hown HMK.out)
       subst he
       clear b0 b1 b2 b3 b4 b5 b6 b7 hown)
    | ((with_reducible refine gate_callee (f := 17) rfl ?_); (try (refine gate_guard (by rfl) ?_; dsimp only)); refine goesL_ (some 142) rfl rfl Try.func17 (by kernel_rfl) rfl #[.pointer (some ⟨gk, 0, none⟩)] rfl (by (try simp only [List.map_toArray, List.map_cons, List.map_nil]); first | done | rfl | (simp only [List.length_drop, List.length_take]; rfl)) ?_
       refine (HOWN.out).mono ?_
       rintro e w25 ⟨rfl, hb⟩
       refine ⟨_, rfl, ?_⟩
       have HEND := Aside0.mk hb
       clear hb))
  go_ret
  exact ⟨rfl, Below.trans (Below.trans (below_step HB13.out (thn (thn (thn (thn (thn (thn E13.out E14.out) E15.out) E16.out) E17.out) E18.out) E19.out)) ⟨T3.out.os, T3.out.tape, T3.out.output, T3.out.size, fun k hk => T3.out.block k (Nat.lt_of_lt_of_le hk (Nat.le_trans (below_size HB13.out) (below_size (thn (thn (thn (thn (thn (thn E13.out E14.out) E15.out) E16.out) E17.out) E18.out) E19.out))))⟩) HEND.out⟩
end Go.Proofs.Ytkoonpjlpobmeaa.Pr
namespace Go.Proofs.Ytkoonpjlpobmeaa.Pure
open Go.RowKit Go.Proofs.Ytkoonpjlpobmeaa.Pr Go.Proofs.YtkoonpjlpobmeaaW.PrintWords Go.Proofs.YtkoonpjlpobmeaaW.PrintLast

theorem awake40 : l06_awake.f 40 = some true := by decide +kernel
theorem choice_eq (a : Int) : policy_choice.f a = some (decide (0 ≤ a ∧ a ≤ 2)) := by
  unfold policy_choice.f
  by_cases h : a ≥ 0
  · rw [if_pos h]; congr 1; rw [Bool.eq_iff_iff, decide_eq_true_eq, decide_eq_true_eq]; omega
  · rw [if_neg h]; congr 1; rw [eq_comm, decide_eq_false_iff_not]; omega
theorem May_eq (a b : Int) : policy_May.f a b = some (decide (0 ≤ a ∧ a ≤ 2 ∧ 0 ≤ b ∧ b ≤ 2)) := by
  unfold policy_May.f
  rw [choice_eq, Option.bind_some]
  by_cases h : 0 ≤ a ∧ a ≤ 2
  · rw [if_pos (by simpa using h), choice_eq, Option.bind_some]; congr 1; rw [Bool.eq_iff_iff, decide_eq_true_eq, decide_eq_true_eq]; omega
  · rw [if_neg (by simpa using h)]; congr 1; rw [eq_comm, decide_eq_false_iff_not]; omega
theorem rMay_eq (a b : Int) : r06_May.f a b = some (decide (0 ≤ a ∧ a ≤ 2 ∧ 0 ≤ b ∧ b ≤ 2)) := by
  unfold r06_May.f
  by_cases h1 : a ≥ 0
  · rw [if_pos h1]
    by_cases h2 : a ≤ 2
    · rw [if_pos h2]
      by_cases h3 : b ≥ 0
      · rw [if_pos h3]; congr 1; rw [Bool.eq_iff_iff, decide_eq_true_eq, decide_eq_true_eq]; omega
      · rw [if_neg h3]; congr 1; rw [eq_comm, decide_eq_false_iff_not]; omega
    · rw [if_neg h2]; congr 1; rw [eq_comm, decide_eq_false_iff_not]; omega
  · rw [if_neg h1]; congr 1; rw [eq_comm, decide_eq_false_iff_not]; omega
theorem PolicyMays : l06_PolicyMays.Pure := by
  intro a b _ _
  refine ⟨40, ?_⟩
  unfold l06_PolicyMays.f policy_Plain.f
  rw [awake40, Option.bind_some, May_eq, Option.bind_some, Option.bind_some, May_eq, Option.bind_some, if_pos rfl, if_pos (by decide), rMay_eq, Option.bind_some]
  simp

end Go.Proofs.Ytkoonpjlpobmeaa.Pure
namespace Go.Proofs.Ytkoonpjlpobmeaa.Pure
open Go.RowKit Go.Proofs.Ytkoonpjlpobmeaa.Pr Go.Proofs.YtkoonpjlpobmeaaW.PrintWords Go.Proofs.YtkoonpjlpobmeaaW.PrintLast

theorem w64 {x : Int} (h0 : -9223372036854775808 ≤ x) (h1 : x < 9223372036854775808) : wrap64 x = x := by unfold wrap64; omega
abbrev Wi (a : Int) : Prop := 0 ≤ a ∧ a ≤ 1099511627776
/-- May these Specials be? -/
abbrev MB (a b c d e f : Int) : Prop := Wi a ∧ Wi b ∧ Wi c ∧ Wi d ∧ Wi e ∧ a + b + c + d + e ≤ f ∧ f ≤ 1099511627776
theorem mstep (s : Int) (P : Prop) [Decidable P] (g : Option Bool) (h : Wi s → g = some (decide P)) : (if s < 0 then some false else if s > 1099511627776 then some false else g) = some (decide (Wi s ∧ P)) := by
  by_cases c : s < 0
  · rw [if_pos c]; congr 1; rw [eq_comm, decide_eq_false_iff_not]; exact fun z => by have := z.1.1; omega
  · rw [if_neg c]
    by_cases d : s > 1099511627776
    · rw [if_pos d]; congr 1; rw [eq_comm, decide_eq_false_iff_not]; exact fun z => by have := z.1.2; omega
    · have hs : Wi s := ⟨by omega, by omega⟩
      rw [if_neg d, h hs]; congr 1; rw [Bool.eq_iff_iff, decide_eq_true_eq, decide_eq_true_eq]
      exact ⟨fun z => ⟨hs, z⟩, fun z => z.2⟩
theorem mayBe_eq (a b c d e f : Int) : policy_mayBe.f a b c d e f = some (decide (MB a b c d e f)) := by
  unfold policy_mayBe.f policy_mayBe.m0
  refine mstep a _ _ fun ha => ?_
  unfold policy_mayBe.m1
  refine mstep b _ _ fun hb => ?_
  unfold policy_mayBe.m2
  refine mstep c _ _ fun hc => ?_
  unfold policy_mayBe.m3
  refine mstep d _ _ fun hd => ?_
  unfold policy_mayBe.m4
  refine mstep e _ _ fun he => ?_
  unfold policy_mayBe.m5
  have e1 : wrap64 (0 + a) = a := by rw [w64 (by omega) (by omega)]; omega
  have e2 : wrap64 (a + b) = a + b := w64 (by omega) (by omega)
  have e3 : wrap64 (a + b + c) = a + b + c := w64 (by omega) (by omega)
  have e4 : wrap64 (a + b + c + d) = a + b + c + d := w64 (by omega) (by omega)
  have e5 : wrap64 (a + b + c + d + e) = a + b + c + d + e := w64 (by omega) (by omega)
  rw [e1, e2, e3, e4, e5]
  by_cases h : a + b + c + d + e ≤ f
  · rw [if_pos h]; congr 1; rw [Bool.eq_iff_iff, decide_eq_true_eq, decide_eq_true_eq]
    exact ⟨fun z => ⟨h, z⟩, fun z => z.2⟩
  · rw [if_neg h]; congr 1; rw [eq_comm, decide_eq_false_iff_not]; exact fun z => h z.1
theorem within_eq (a : Int) : r06_within.f a = some (decide (Wi a)) := by
  unfold r06_within.f
  by_cases h : a ≥ 0
  · rw [if_pos h]; congr 1; rw [Bool.eq_iff_iff, decide_eq_true_eq, decide_eq_true_eq]
    exact ⟨fun z => ⟨h, z⟩, fun z => z.2⟩
  · rw [if_neg h]; congr 1; rw [eq_comm, decide_eq_false_iff_not]; exact fun z => h z.1
theorem rMayBe_eq (a b c d e f : Int) : r06_MayBe.f a b c d e f = some (decide (MB a b c d e f)) := by
  unfold r06_MayBe.f
  simp only [within_eq, Option.bind_some]
  by_cases ha : Wi a
  · by_cases hb : Wi b
    · by_cases hc : Wi c
      · by_cases hd : Wi d
        · by_cases he : Wi e
          · by_cases hf : Wi f
            · have e2 : wrap64 (a + b) = a + b := w64 (by omega) (by omega)
              have e3 : wrap64 (a + b + c) = a + b + c := w64 (by omega) (by omega)
              have e4 : wrap64 (a + b + c + d) = a + b + c + d := w64 (by omega) (by omega)
              have e5 : wrap64 (a + b + c + d + e) = a + b + c + d + e := w64 (by omega) (by omega)
              rw [e2, e3, e4, e5]
              simp only [decide_eq_true ha, decide_eq_true hb, decide_eq_true hc, decide_eq_true hd, decide_eq_true he, decide_eq_true hf, if_true]
              congr 1; rw [Bool.eq_iff_iff, decide_eq_true_eq, decide_eq_true_eq]
              exact ⟨fun z => ⟨ha, hb, hc, hd, he, z, hf.2⟩, fun z => z.2.2.2.2.2.1⟩
            · have : ¬ MB a b c d e f := fun z => hf ⟨by have := z.2.2.2.2.2.1; omega, z.2.2.2.2.2.2⟩
              simp [ha, hb, hc, hd, he, hf, this]
          · have : ¬ MB a b c d e f := fun z => he z.2.2.2.2.1
            simp [ha, hb, hc, hd, he, this]
        · have : ¬ MB a b c d e f := fun z => hd z.2.2.2.1
          simp [ha, hb, hc, hd, this]
      · have : ¬ MB a b c d e f := fun z => hc z.2.2.1
        by_cases hd : Wi d
        · by_cases he : Wi e
          · simp [ha, hb, hc, hd, he, this]
          · simp [ha, hb, hc, hd, he, this]
        · simp [ha, hb, hc, hd, this]
    · have : ¬ MB a b c d e f := fun z => hb z.2.1
      by_cases hd : Wi d
      · by_cases he : Wi e
        · simp [ha, hb, hd, he, this]
        · simp [ha, hb, hd, he, this]
      · simp [ha, hb, hd, this]
  · have : ¬ MB a b c d e f := fun z => ha z.1
    by_cases hd : Wi d
    · by_cases he : Wi e
      · simp [ha, hd, he, this]
      · simp [ha, hd, he, this]
    · simp [ha, hd, this]

/-- What is carried. -/
def vd (a b c p q : Int) : Nat × Bool := if a > 0 ∧ p = 0 then (9221120237041090560, true) else if q = 0 then (if b > 0 ∧ c > 0 then (9221120237041090560, true) else if b > 0 then (9218868437227405312, true) else if c > 0 then (18442240474082181120, true) else (0, false)) else (0, false)
theorem bV (k : Nat) (a b c d e f p q : Int) : policy_Verdict.j0 (k + 4) false a b c d e f p q = some (vd a b c p q) := by
  rw [policy_Verdict.j0, if_neg (by decide)]
  unfold vd
  by_cases h1 : b > 0 <;> by_cases h2 : c > 0 <;> by_cases h3 : a > 0 <;> by_cases h4 : p = 0 <;> by_cases h5 : q = 0 <;>
    simp [policy_Verdict.j1, policy_Verdict.j2, policy_Verdict.j3, bits_NaN.f, math_Inf.f, h1, h2, h3, h4, h5]
theorem rV (k : Nat) (a b c d e f p q : Int) : r06_Verdict.j0 (k + 4) false a b c d e f p q = some (vd a b c p q) := by
  rw [r06_Verdict.j0, if_neg (by decide)]
  have e1 : r06_Inf.f false = some 9218868437227405312 := rfl
  have e2 : r06_Inf.f true = some 18442240474082181120 := by decide +kernel
  unfold vd
  by_cases h1 : b > 0 <;> by_cases h2 : c > 0 <;> by_cases h3 : a > 0 <;> by_cases h4 : p = 0 <;> by_cases h5 : q = 0 <;>
    simp [r06_Verdict.j1, r06_Verdict.j2, r06_TheNaN.f, e1, e2, h1, h2, h3, h4, h5]
theorem Verdict_same (k : Nat) (a b c d e f p q : Int) : ∃ x : Nat × Bool, policy_Verdict.f (k + 4) a b c d e f p q = some x ∧ r06_Verdict.f (k + 4) a b c d e f p q = some x := by
  unfold policy_Verdict.f r06_Verdict.f
  rw [mayBe_eq, Option.bind_some, rMayBe_eq, Option.bind_some, rMay_eq, Option.bind_some, May_eq]
  generalize decide (MB a b c d e f) = m
  generalize decide (0 ≤ p ∧ p ≤ 2 ∧ 0 ≤ q ∧ q ≤ 2) = n
  cases m
  · exact ⟨(0, false), rfl, rfl⟩
  · cases n
    · exact ⟨(0, false), rfl, rfl⟩
    · exact ⟨vd a b c p q, bV k a b c d e f p q, rV k a b c d e f p q⟩
theorem Copysign_eq : math_Copysign.f 0 13830554455654793216 = some 9223372036854775808 := by decide +kernel
theorem Nought_same (k : Nat) (a b c d e f m : Int) (hf : -9223372036854775808 ≤ f ∧ f < 9223372036854775808) : ∃ x : Nat, policy_Nought.f a b c d e f m = some x ∧ r06_Nought.f (k + 1) a b c d e f m = some x := by
  unfold policy_Nought.f r06_Nought.f
  rw [mayBe_eq, Option.bind_some, rMayBe_eq, Option.bind_some]
  by_cases h : MB a b c d e f
  · have h' : decide (MB a b c d e f) = true := decide_eq_true h
    rw [if_pos h', if_pos h']
    obtain ⟨ha, hb, hc, hd, he, hs, hf2⟩ := h
    have e1 : wrap64 (f - a) = f - a := w64 (by omega) (by omega)
    have e2 : wrap64 (f - a - b) = f - a - b := w64 (by omega) (by omega)
    have e3 : wrap64 (f - a - b - c) = f - a - b - c := w64 (by omega) (by omega)
    rw [e1, e2, e3]
    clear e1 e2 e3
    obtain ⟨n, hn⟩ : ∃ n, n = f - a - b - c := ⟨_, rfl⟩
    rw [← hn]
    have Z0 : ∀ s, r06_Zero.f s = some (if s = true then 9223372036854775808 else 0) := by intro s; cases s <;> rfl
    by_cases c1 : n > 0
    · have n0 : (n == 0) = false := by simp; omega
      rw [n0]
      by_cases c2 : d = n
      · refine ⟨9223372036854775808, ?_, ?_⟩
        · rw [if_pos c1, if_pos c2, Copysign_eq]; rfl
        · rw [r06_Nought.j0, if_neg (by decide), if_pos c2, Z0]; rfl
      · by_cases c3 : e < n
        · have c3' : ¬ e = n := by omega
          by_cases c4 : m = 3
          · refine ⟨9223372036854775808, ?_, ?_⟩
            · rw [if_pos c1, if_neg c2, if_pos c3, if_pos c4, Copysign_eq]; rfl
            · rw [r06_Nought.j0, if_neg (by decide), if_neg c2, if_neg c3', c4, Z0]; rfl
          · refine ⟨0, ?_, ?_⟩
            · rw [if_pos c1, if_neg c2, if_pos c3, if_neg c4]
            · rw [r06_Nought.j0, if_neg (by decide), if_neg c2, if_neg c3', show (m == 3) = false by simpa using c4, Z0]; rfl
        · have c3' : e = n := by omega
          refine ⟨0, ?_, ?_⟩
          · rw [if_pos c1, if_neg c2, if_neg c3]
          · rw [r06_Nought.j0, if_neg (by decide), if_neg c2, if_pos c3', Z0]; rfl
    · have n0 : (n == 0) = true := by simp; omega
      rw [n0]
      refine ⟨0, ?_, ?_⟩
      · rw [if_neg c1]
      · rw [r06_Nought.j0, if_pos rfl, Z0]; rfl
  · have h' : ¬ decide (MB a b c d e f) = true := by rw [decide_eq_true_eq]; exact h
    rw [if_neg h', if_neg h', r06_Nought.j0, if_pos rfl]
    exact ⟨_, rfl, rfl⟩
theorem int64_range {c : Int} (h : (Lit.int .i64 c).wf = true) : -9223372036854775808 ≤ c ∧ c < 9223372036854775808 := by
  simp [Lit.wf, IntKind.min, IntKind.max, IntKind.bits, IntKind.signed] at h; omega
theorem PolicyVerdicts : l06_PolicyVerdicts.Pure := by
  intro a b c d e f p q m _ _ _ _ _ hf _ _ _
  refine ⟨40, ?_⟩
  obtain ⟨x, x1, x2⟩ := Verdict_same 36 a b c d e f p q
  obtain ⟨y, y1, y2⟩ := Nought_same 39 a b c d e f m (int64_range hf)
  unfold l06_PolicyVerdicts.f r03_Alike.f
  rw [awake40, Option.bind_some, x1, Option.bind_some, x2, Option.bind_some, y1, Option.bind_some, if_pos rfl, if_pos (by simp), Option.bind_some, if_pos (by simp), y2, Option.bind_some, Option.bind_some]
  simp

end Go.Proofs.Ytkoonpjlpobmeaa.Pure
namespace Go.Proofs.YtkoonpjlpobmeaaW.FL

theorem two_pow_pos (n : Nat) : 0 < 2 ^ n := Nat.two_pow_pos n

def U (p r : Nat) : Nat := if r < 2 ^ p then r else (2 ^ p + r % 2 ^ p) * 2 ^ (r / 2 ^ p - 1)

theorem U_low {p r : Nat} (h : r < 2 ^ p) : U p r = r := by simp [U, h]

theorem U_parts {p e k : Nat} (h1 : 2 ^ p ≤ k) (h2 : k < 2 ^ (p + 1)) : U p (e * 2 ^ p + k) = k * 2 ^ e := by
  have hp := two_pow_pos p
  rw [Nat.pow_succ] at h2
  have hk : k = 2 ^ p + (k - 2 ^ p) := by omega
  have h3 : k - 2 ^ p < 2 ^ p := by omega
  have e1 : e * 2 ^ p + k = (e + 1) * 2 ^ p + (k - 2 ^ p) := by rw [Nat.add_mul, Nat.one_mul]; omega
  have e2 : (e * 2 ^ p + k) / 2 ^ p = e + 1 := by
    rw [e1, Nat.mul_comm, Nat.mul_add_div hp, Nat.div_eq_of_lt h3, Nat.add_zero]
  have e3 : (e * 2 ^ p + k) % 2 ^ p = k - 2 ^ p := by
    rw [e1, Nat.mul_comm, Nat.mul_add_mod, Nat.mod_eq_of_lt h3]
  have e4 : ¬ (e * 2 ^ p + k < 2 ^ p) := by omega
  unfold U
  rw [if_neg e4, e2, e3, Nat.add_sub_cancel, ← hk]

theorem U_small {p k : Nat} (h2 : k < 2 ^ (p + 1)) : U p k = k := by
  by_cases h : k < 2 ^ p
  · exact U_low h
  · have := U_parts (p := p) (e := 0) (k := k) (by omega) h2
    simpa using this

theorem parts_of {p r : Nat} (h : 2 ^ p ≤ r) : ∃ e k, r = e * 2 ^ p + k ∧ 2 ^ p ≤ k ∧ k < 2 ^ (p + 1) ∧ e = r / 2 ^ p - 1 := by
  have hp := two_pow_pos p
  have h1 : 1 ≤ r / 2 ^ p := (Nat.one_le_div_iff hp).2 h
  refine ⟨r / 2 ^ p - 1, 2 ^ p + r % 2 ^ p, ?_, by omega, ?_, rfl⟩
  · have := Nat.div_add_mod r (2 ^ p)
    have e : (r / 2 ^ p - 1) * 2 ^ p + 2 ^ p = r / 2 ^ p * 2 ^ p := by
      rw [← Nat.succ_mul]; congr 1; omega
    have e2 : 2 ^ p * (r / 2 ^ p) = r / 2 ^ p * 2 ^ p := Nat.mul_comm _ _
    omega
  · have := Nat.mod_lt r hp
    rw [Nat.pow_succ]; omega

theorem U_succ (p r : Nat) : U p (r + 1) = U p r + 2 ^ (r / 2 ^ p - 1) := by
  have hp := two_pow_pos p
  by_cases h : r < 2 ^ p
  · have h0 : r / 2 ^ p = 0 := Nat.div_eq_of_lt h
    rw [U_small (by rw [Nat.pow_succ]; omega), U_low h, h0]
  · obtain ⟨e, k, rfl, h1, h2, he⟩ := parts_of (p := p) (r := r) (by omega)
    rw [← he, U_parts h1 h2]
    by_cases h3 : k + 1 < 2 ^ (p + 1)
    · rw [Nat.add_assoc, U_parts (by omega) h3, Nat.add_mul, Nat.one_mul]
    · have hk : k + 1 = 2 ^ (p + 1) := by omega
      have e1 : e * 2 ^ p + k + 1 = (e + 1) * 2 ^ p + 2 ^ p := by
        rw [Nat.add_mul, Nat.one_mul, Nat.add_assoc, hk, Nat.pow_succ]; omega
      rw [e1, U_parts (Nat.le_refl _) (by rw [Nat.pow_succ]; omega)]
      have : k * 2 ^ e + 2 ^ e = (k + 1) * 2 ^ e := by rw [Nat.add_mul, Nat.one_mul]
      rw [this, hk, Nat.pow_succ, Nat.pow_succ, Nat.mul_assoc, Nat.mul_comm 2]

theorem U_lt_succ (p r : Nat) : U p r < U p (r + 1) := by
  rw [U_succ]; have := two_pow_pos (r / 2 ^ p - 1); omega

theorem U_lt {p r s : Nat} (h : r < s) : U p r < U p s := by
  induction s with
  | zero => omega
  | succ s ih =>
    by_cases e : r = s
    · subst e; exact U_lt_succ p r
    · exact Nat.lt_trans (ih (by omega)) (U_lt_succ p s)

end Go.Proofs.YtkoonpjlpobmeaaW.FL
namespace Go.Proofs.YtkoonpjlpobmeaaW.FL
open Ieee

def neg (f : Format) (w : Nat) : Bool := w / f.signWeight % 2 == 1
def rung (f : Format) (w : Nat) : Nat := w % f.signWeight
def sgn (s : Bool) (n : Nat) : Int := if s then -(n : Int) else (n : Int)
def S (f : Format) (w : Nat) : Int := sgn (neg f w) (U f.fractionBits (rung f w))

theorem read_low {f : Format} {w : Nat} (h : rung f w < f.binade) : f.read w = .number (neg f w) (rung f w) f.leastPlace := by
  unfold Format.read; simp only [rung] at h; simp only [rung, neg, h, if_true]
theorem read_mid {f : Format} {w : Nat} (h : ¬ rung f w < f.binade) (h2 : rung f w < f.infRung) :
    f.read w = .number (neg f w) (f.binade + rung f w % f.binade) (f.leastPlace + (rung f w / f.binade - 1 : Nat)) := by
  unfold Format.read; simp only [rung] at h h2; simp only [rung, neg, h, h2, if_true, if_false]
theorem read_inf {f : Format} {w : Nat} (h : ¬ rung f w < f.binade) (h2 : rung f w = f.infRung) : f.read w = .infinity (neg f w) := by
  unfold Format.read; simp only [rung] at h h2; simp only [neg, h, if_false]; rw [h2]; simp
theorem read_nan {f : Format} {w : Nat} (h : ¬ rung f w < f.binade) (h2 : f.infRung < rung f w) : f.read w = .nan (neg f w) (rung f w - f.infRung) := by
  unfold Format.read; simp only [rung] at h h2; simp only [rung, neg, h, if_false]
  rw [if_neg (by omega), if_neg (by omega)]

theorem read_num {f : Format} {w : Nat} (h : rung f w < f.infRung) : ∃ m e : Nat, f.read w = .number (neg f w) m (f.leastPlace + e) ∧ m * 2 ^ e = U f.fractionBits (rung f w) := by
  by_cases h1 : rung f w < f.binade
  · exact ⟨rung f w, 0, by rw [read_low h1]; simp, by simp [U_low (p := f.fractionBits) h1]⟩
  · refine ⟨_, _, read_mid h1 h, ?_⟩
    have : ¬ rung f w < 2 ^ f.fractionBits := h1
    simp only [U, this, if_false, Format.binade]

theorem signed_eq (s : Bool) (m k : Nat) : signed s m k = sgn s (m * 2 ^ k) := by
  simp [signed, sgn, Nat.shiftLeft_eq]

theorem sgn_mul (s : Bool) (n k : Nat) : sgn s (n * k) = sgn s n * (k : Int) := by
  cases s <;> simp [sgn, Int.neg_mul]

theorem compare_mul (x y : Int) {k : Int} (hk : 0 < k) : compare (x * k) (y * k) = compare x y := by
  rcases Int.lt_trichotomy x y with h | h | h
  · have := Int.mul_lt_mul_of_pos_right h hk
    rw [Int.compare_eq_lt.2 h, Int.compare_eq_lt.2 this]
  · subst h; simp
  · have := Int.mul_lt_mul_of_pos_right h hk
    rw [Int.compare_eq_gt.2 h, Int.compare_eq_gt.2 this]

theorem binade_le_inf {f : Format} (hf : 1 ≤ f.exponentBits) : f.binade ≤ f.infRung := by
  unfold Format.infRung
  have : 1 ≤ 2 ^ f.exponentBits - 1 := by
    have h2 : 2 ^ 1 ≤ 2 ^ f.exponentBits := Nat.pow_le_pow_right (by omega) hf
    omega
  exact Nat.le_mul_of_pos_left _ this

theorem order_num (s t : Bool) (m n a b : Nat) (L : Int) :
    Datum.order (.number s m (L + a)) (.number t n (L + b)) = some (compare (sgn s (m * 2 ^ a)) (sgn t (n * 2 ^ b))) := by
  have key : ∀ c : Nat, c ≤ a → c ≤ b → compare (signed s m (a - c)) (signed t n (b - c)) = compare (sgn s (m * 2 ^ a)) (sgn t (n * 2 ^ b)) := by
    intro c h1 h2
    rw [signed_eq, signed_eq, ← compare_mul _ _ (k := ((2 ^ c : Nat) : Int)) (by exact_mod_cast two_pow_pos c), ← sgn_mul, ← sgn_mul, Nat.mul_assoc, Nat.mul_assoc, ← Nat.pow_add, ← Nat.pow_add, Nat.sub_add_cancel h1, Nat.sub_add_cancel h2]
  simp only [Datum.order]
  by_cases h : a ≤ b
  · have e : min (L + (a : Int)) (L + b) = L + a := by omega
    rw [e, show (L + (a : Int) - (L + a)).toNat = a - a by omega, show (L + (b : Int) - (L + a)).toNat = b - a by omega, key a (Nat.le_refl _) h]
  · have e : min (L + (a : Int)) (L + b) = L + b := by omega
    rw [e, show (L + (a : Int) - (L + b)).toNat = a - b by omega, show (L + (b : Int) - (L + b)).toNat = b - b by omega, key b (by omega) (Nat.le_refl _)]

def nan (f : Format) (w : Nat) : Prop := f.infRung < rung f w

theorem sgn_lt_inf {s t : Bool} {m n : Nat} (h : m < n) : compare (sgn s m) (sgn t n) = if t then .gt else .lt := by
  cases t
  · simp only [Bool.false_eq_true, if_false]; apply Int.compare_eq_lt.2; cases s <;> simp [sgn] <;> omega
  · simp only [if_true]; apply Int.compare_eq_gt.2; cases s <;> simp [sgn] <;> omega
theorem sgn_gt_inf {s t : Bool} {m n : Nat} (h : n < m) : compare (sgn s m) (sgn t n) = if s then .lt else .gt := by
  cases s
  · simp only [Bool.false_eq_true, if_false]; apply Int.compare_eq_gt.2; cases t <;> simp [sgn] <;> omega
  · simp only [if_true]; apply Int.compare_eq_lt.2; cases t <;> simp [sgn] <;> omega
theorem sgn_eq_inf {s t : Bool} {m : Nat} (h : 0 < m) : compare (sgn s m) (sgn t m) = compare t.toNat s.toNat := by
  have e1 : compare (sgn true m) (sgn false m) = .lt := by apply Int.compare_eq_lt.2; simp [sgn]; omega
  have e2 : compare (sgn false m) (sgn true m) = .gt := by apply Int.compare_eq_gt.2; simp [sgn]; omega
  cases s <;> cases t
  · simp
  · rw [e2]; rfl
  · rw [e1]; rfl
  · simp

theorem order_none {f : Format} (hf : 1 ≤ f.exponentBits) {a b : Nat} (h : nan f a ∨ nan f b) : f.order a b = none := by
  have hb := binade_le_inf hf
  unfold Format.order
  rcases h with h | h
  · rw [read_nan (by unfold nan at h; omega) h]; rfl
  · rw [read_nan (w := b) (by unfold nan at h; omega) h]; cases f.read a <;> rfl

theorem order_eq {f : Format} (hf : 1 ≤ f.exponentBits) {a b : Nat} (ha : ¬ nan f a) (hb : ¬ nan f b) : f.order a b = some (compare (S f a) (S f b)) := by
  have hI := binade_le_inf hf
  have hp : 0 < f.binade := two_pow_pos _
  unfold nan at ha hb
  unfold Format.order S
  by_cases h1 : rung f a < f.infRung
  · obtain ⟨m, i, e1, u1⟩ := read_num h1
    by_cases h2 : rung f b < f.infRung
    · obtain ⟨n, j, e2, u2⟩ := read_num h2
      rw [e1, e2, order_num, u1, u2]
    · have h2' : rung f b = f.infRung := by omega
      rw [e1, read_inf (w := b) (by omega) h2', h2']
      rw [sgn_lt_inf (U_lt h1)]; rfl
  · have h1' : rung f a = f.infRung := by omega
    rw [read_inf (w := a) (by omega) h1', h1']
    by_cases h2 : rung f b < f.infRung
    · obtain ⟨n, j, e2, u2⟩ := read_num h2
      rw [e2, sgn_gt_inf (U_lt h2)]; rfl
    · have h2' : rung f b = f.infRung := by omega
      rw [read_inf (w := b) (by omega) h2', h2', sgn_eq_inf]
      · rfl
      · have := U_lt (p := f.fractionBits) (r := 0) (s := f.infRung) (by omega); omega

theorem nan_iff {f : Format} (hf : 1 ≤ f.exponentBits) (a : Nat) : (f.order a a != some .eq) = true ↔ nan f a := by
  by_cases h : nan f a
  · rw [order_none hf (Or.inl h)]; simp [h]
  · rw [order_eq hf h h]; simp [h]

end Go.Proofs.YtkoonpjlpobmeaaW.FL
namespace Go.Proofs.YtkoonpjlpobmeaaW.FL
open Go Go.RowKit

theorem wrap64_id {x : Int} (h0 : -9223372036854775808 ≤ x) (h1 : x < 9223372036854775808) : wrap64 x = x := by unfold wrap64; omega
theorem wrap_u64 (n : Int) : IntKind.u64.wrap n = n % 18446744073709551616 := by simp [IntKind.wrap, IntKind.bits, IntKind.signed]
theorem wraps_u64 (n : Int) (h₀ : 0 ≤ n) (h₁ : n < 2 ^ 64) : IntKind.u64.wrap n = n := by rw [wrap_u64]; omega
theorem wraps_i64 (n : Int) (h₀ : 0 ≤ n) (h₁ : n < 2 ^ 63) : IntKind.i64.wrap n = n := by rw [IntKind.wrap_i64]; omega

theorem u64_mask (i : Nat) (hi : i ≤ 64) (x : Int) (h0 : 0 ≤ x) (h1 : x < 18446744073709551616) : bits .and .u64 x (2 ^ i - 1) = x % 2 ^ i :=
  bits_mask .u64 64 (by decide) wraps_u64 i hi x h0 h1
theorem i64_mask (i : Nat) (hi : i ≤ 63) (x : Int) (h0 : 0 ≤ x) (h1 : x < 9223372036854775808) : bits .and .i64 x (2 ^ i - 1) = x % 2 ^ i :=
  bits_mask .i64 63 (by decide) wraps_i64 i hi x h0 h1
theorem u64_join (i : Nat) (x y : Int) (hx₀ : 0 ≤ x) (hx : x % 2 ^ i = 0) (hx₁ : x < 18446744073709551616) (hy₀ : 0 ≤ y) (hy : y < 2 ^ i) (hy₁ : y < 18446744073709551616) : bits .or .u64 x y = x + y :=
  bits_join .u64 64 (by decide) wraps_u64 i x y hx₀ hx hx₁ hy₀ hy hy₁

theorem u64_and52 {x : Int} (h0 : 0 ≤ x) (h1 : x < 18446744073709551616) : bits .and .u64 x 4503599627370495 = x % 4503599627370496 := u64_mask 52 (by decide) x h0 h1
theorem u64_and1 {x : Int} (h0 : 0 ≤ x) (h1 : x < 18446744073709551616) : bits .and .u64 x 1 = x % 2 := u64_mask 1 (by decide) x h0 h1
theorem i64_and11 {x : Int} (h0 : 0 ≤ x) (h1 : x < 9223372036854775808) : bits .and .i64 x 2047 = x % 2048 := i64_mask 11 (by decide) x h0 h1
end Go.Proofs.YtkoonpjlpobmeaaW.FL
namespace Go.Proofs.YtkoonpjlpobmeaaW.FL
open Go Go.RowKit Ieee

abbrev D : Format := FloatKind.f64.format
theorem f64_wf {a : Nat} (h : (Lit.float .f64 a).wf = true) : a < 18446744073709551616 := by
  simpa [Lit.wf] using h
theorem D_nan_iff (a : Nat) : (D.order a a != some .eq) = true ↔ 9218868437227405312 < a % 9223372036854775808 :=
  nan_iff (f := D) (by decide) a
def K (a : Nat) : Int := sgn (neg D a) (a % 9223372036854775808)
end Go.Proofs.YtkoonpjlpobmeaaW.FL
/- What Sift computes. -/
namespace Go.Proofs.Ytkoonpjlpobmeaa.Pure
open Go Go.RowKit Go.Proofs.Ytkoonpjlpobmeaa.Pr Go.Proofs.YtkoonpjlpobmeaaW.PrintWords Go.Proofs.YtkoonpjlpobmeaaW.PrintLast Go.Proofs.YtkoonpjlpobmeaaW.FL

theorem or_comm64 (x y : Int) : bits .or .u64 x y = bits .or .u64 y x := by
  simp only [bits, BitVec.or_comm]
theorem or52 {x : Int} (h0 : 0 ≤ x) (h1 : x < 4503599627370496) : bits .or .u64 x 4503599627370496 = x + 4503599627370496 := by
  rw [or_comm64, u64_join 52 _ _ (by decide) (by decide) (by decide) h0 h1 (by omega)]; omega

/-- The parts of a word of 64. -/
def PL (x : Int) : Bool × Int × Int × Int :=
  if x % 9223372036854775808 > 9218868437227405312 then (false, 4, 0, 0) else if x % 9223372036854775808 = 9218868437227405312 then (decide (9223372036854775808 ≤ x), 3, 0, 0) else if 4503599627370496 ≤ x % 9223372036854775808 then (decide (9223372036854775808 ≤ x), 2, x % 9223372036854775808 / 4503599627370496 - 1 + (-1074), x % 4503599627370496 + 4503599627370496) else if 0 < x % 9223372036854775808 then (decide (9223372036854775808 ≤ x), 1, (-1074), x % 9223372036854775808) else (decide (9223372036854775808 ≤ x), 0, (-1074), 0)
theorem bits_parts_L {x : Int} (k : Nat) (h0 : 0 ≤ x) (h1 : x < 18446744073709551616) : bits_form_parts_L.f (k + 1) x = some (PL x) := by
  unfold bits_form_parts_L.f PL
  simp only [bits_form_parts_L.j0]
  rw [wrap64_id (x := x / 4503599627370496) (by omega) (by omega), u64_and52 h0 (by omega), i64_and11 (by omega) (by omega), u64_and1 (by omega) (by omega)]
  have eN : ((x / 9223372036854775808 % 2) == 1) = decide (9223372036854775808 ≤ x) := by
    have : x / 9223372036854775808 % 2 = 1 ↔ 9223372036854775808 ≤ x := by omega
    rw [Bool.eq_iff_iff, beq_iff_eq, decide_eq_true_eq]; exact this
  rw [eN]
  by_cases a1 : x / 4503599627370496 % 2048 = 2047
  · rw [if_pos a1]
    by_cases a2 : x % 4503599627370496 = 0
    · rw [if_neg (by simp [a2]), if_pos a1, if_neg (by omega), if_pos (by omega)]
    · rw [if_pos (by simp [a2]), if_pos (by omega)]
  · rw [if_neg a1, if_neg (by simp), if_neg a1, if_neg (show ¬ x % 9223372036854775808 > 9218868437227405312 by omega), if_neg (show ¬ x % 9223372036854775808 = 9218868437227405312 by omega)]
    by_cases a3 : x / 4503599627370496 % 2048 > 0
    · rw [if_pos a3, if_pos (by omega), wrap64_id (by rw [wrap64_id (by omega) (by omega)]; omega) (by rw [wrap64_id (by omega) (by omega)]; omega), wrap64_id (by omega) (by omega), or52 (by omega) (by omega)]
      congr 4
      omega
    · rw [if_neg a3, if_neg (show ¬ 4503599627370496 ≤ x % 9223372036854775808 by omega)]
      by_cases a4 : x % 4503599627370496 > 0
      · rw [if_pos a4, if_pos (by omega)]
        congr 4
        omega
      · rw [if_neg a4, if_neg (by omega)]

theorem eta4 (p : Bool × Int × Int × Int) : (p.1, p.2.1, p.2.2.1, p.2.2.2) = p := by obtain ⟨a, b, c, d⟩ := p; rfl
theorem parts11 {a : Nat} (k : Nat) (h : a < 18446744073709551616) : bits_form_parts.f (k + 1) 11 52 (-1074) (a : Int) = some (PL a) := by
  unfold bits_form_parts.f
  rw [if_pos ⟨rfl, rfl, rfl⟩, bits_parts_L k (by omega) (by omega)]
theorem Split_eq {a : Nat} (k : Nat) (h : a < 18446744073709551616) : bits_Split.f (k + 1) a = some (PL a) := by
  unfold bits_Split.f bits_long.f
  rw [Option.bind_some, parts11 k h, Option.bind_some, eta4]
/-- The sort of a word. -/
def kd (a : Nat) : Int := if 9218868437227405312 < a % 9223372036854775808 then 5 else if a % 9223372036854775808 = 9218868437227405312 then (if 9223372036854775808 ≤ a then 4 else 3) else if a % 9223372036854775808 = 0 then (if 9223372036854775808 ≤ a then 1 else 2) else 0
def kk (p : Bool × Int × Int × Int) : Int := if p.2.1 = 4 then 5 else if p.2.1 = 3 then (if p.1 = true then 4 else 3) else if p.2.1 = 0 then (if p.1 = true then 1 else 2) else 0
theorem kind_of (k : Nat) {a : Nat} {p : Bool × Int × Int × Int} (h : bits_Split.f (k + 3) a = some p) : policy_kind.f (k + 3) a = some (kk p) := by
  obtain ⟨s, c, e, n⟩ := p
  unfold policy_kind.f kk
  rw [h, Option.bind_some]
  show (if c = 4 then some 5 else if c = 3 then policy_kind.j0 (k + 3) s s c e n else policy_kind.j0 (k + 3) false s c e n) = some (if c = 4 then 5 else if c = 3 then (if s = true then 4 else 3) else if c = 0 then (if s = true then 1 else 2) else 0)
  by_cases c1 : c = 4
  · rw [if_pos c1, if_pos c1]
  · rw [if_neg c1, if_neg c1]
    by_cases c2 : c = 3
    · rw [if_pos c2, if_pos c2, policy_kind.j0, if_pos c2]
      cases s
      · rw [if_neg (by decide), if_neg (by decide)]
      · rw [if_pos rfl, if_pos rfl]
    · rw [if_neg c2, if_neg c2, policy_kind.j0, if_neg (by decide), if_neg c2]
      by_cases c3 : c = 0
      · rw [if_pos c3, if_pos c3, policy_kind.j1, if_pos c3]
        cases s
        · rw [if_neg (by decide), if_neg (by decide)]
        · rw [if_pos rfl, if_pos rfl]
      · rw [if_neg c3, if_neg c3, policy_kind.j1, if_neg (by decide), if_neg c3]
theorem kk_PL (a : Nat) : kk (PL a) = kd a := by
  have eN : decide (9223372036854775808 ≤ (a : Int)) = decide (9223372036854775808 ≤ a) := by
    have : (9223372036854775808 ≤ (a : Int)) ↔ 9223372036854775808 ≤ a := by omega
    simp only [this]
  unfold PL kd
  rw [eN]
  by_cases c1 : 9218868437227405312 < a % 9223372036854775808
  · rw [if_pos c1, if_pos (show (a : Int) % 9223372036854775808 > 9218868437227405312 by omega)]; rfl
  · rw [if_neg c1, if_neg (show ¬ (a : Int) % 9223372036854775808 > 9218868437227405312 by omega)]
    by_cases c2 : a % 9223372036854775808 = 9218868437227405312
    · rw [if_pos c2, if_pos (show (a : Int) % 9223372036854775808 = 9218868437227405312 by omega)]
      by_cases s : 9223372036854775808 ≤ a
      · rw [if_pos s, decide_eq_true s]; rfl
      · rw [if_neg s, decide_eq_false s]; rfl
    · rw [if_neg c2, if_neg (show ¬ (a : Int) % 9223372036854775808 = 9218868437227405312 by omega)]
      by_cases c3 : a % 9223372036854775808 = 0
      · rw [if_pos c3, if_neg (show ¬ (4503599627370496 : Int) ≤ (a : Int) % 9223372036854775808 by omega), if_neg (show ¬ (0 : Int) < (a : Int) % 9223372036854775808 by omega)]
        by_cases s : 9223372036854775808 ≤ a
        · rw [if_pos s, decide_eq_true s]; rfl
        · rw [if_neg s, decide_eq_false s]; rfl
      · rw [if_neg c3]
        by_cases c4 : (4503599627370496 : Int) ≤ (a : Int) % 9223372036854775808
        · rw [if_pos c4]; rfl
        · rw [if_neg c4, if_pos (show (0 : Int) < (a : Int) % 9223372036854775808 by omega)]; rfl
theorem kind_eq {a : Nat} (k : Nat) (h : a < 18446744073709551616) : policy_kind.f (k + 3) a = some (kd a) := by
  rw [kind_of k (Split_eq (k + 2) h), kk_PL]
theorem wN {n : Nat} (h : n < 1099511627776) : wrap64 ((n : Int) + 1) = ((n + 1 : Nat) : Int) := by rw [w64 (by omega) (by omega)]; omega

/-- How many of a sort. -/
def cn (k : Int) (xs : List Nat) : Nat := (xs.filter fun x => kd x == k).length
def fin_ (xs : List Nat) : List Nat := xs.filter fun x => decide (kd x ≤ 2)
theorem cn_nil (k : Int) : cn k [] = 0 := rfl
theorem cn_cons (k : Int) (x : Nat) (xs : List Nat) : cn k (x :: xs) = (if kd x = k then 1 else 0) + cn k xs := by
  unfold cn
  rw [List.filter_cons]
  by_cases h : kd x = k
  · rw [if_pos (by simpa using h), if_pos h, List.length_cons]; omega
  · rw [if_neg (by simpa using h), if_neg h]; omega
theorem cn_append (k : Int) (xs ys : List Nat) : cn k (xs ++ ys) = cn k xs + cn k ys := by unfold cn; rw [List.filter_append, List.length_append]
theorem cn_le (k : Int) (xs : List Nat) : cn k xs ≤ xs.length := List.length_filter_le _ _
theorem fin_cons (x : Nat) (xs : List Nat) : fin_ (x :: xs) = if kd x ≤ 2 then x :: fin_ xs else fin_ xs := by
  unfold fin_; rw [List.filter_cons]
  by_cases h : kd x ≤ 2
  · rw [if_pos (by simpa using h), if_pos h]
  · rw [if_neg (by simpa using h), if_neg h]
theorem fin_append (xs ys : List Nat) : fin_ (xs ++ ys) = fin_ xs ++ fin_ ys := List.filter_append ..
abbrev Ans := List Nat × Int × Int × Int × Int × Int × Int × Int
/-- What comes out, of what was counted. -/
def rs (out : List Nat) (a b c d e f p q : Int) : Ans := if a > 0 ∧ p = 2 then ([], 0, 0, 0, 0, 0, 0, 60) else if b + c > 0 ∧ q = 2 then ([], 0, 0, 0, 0, 0, 0, 61) else (out, a, b, c, d, e, f, 0)
theorem j1_eq (k : Nat) (out : List Nat) (a b c d e f p q : Int) (x : Bool) (hx : x = (decide (a > 0 ∧ p = 2))) (hb : 0 ≤ b ∧ b ≤ 1099511627776) (hc : 0 ≤ c ∧ c ≤ 1099511627776) : policy_Sift.j1 (k + 1) out x p q a b c d e f = some (rs out a b c d e f p q) := by
  rw [policy_Sift.j1, w64 (by omega) (by omega), hx]
  unfold rs
  by_cases h : a > 0 ∧ p = 2
  · rw [if_pos (by simpa using h), if_pos h]
  · rw [if_neg (by simpa using h), if_neg h]
    by_cases g : b + c > 0
    · rw [if_pos g]
      by_cases r : q = 2
      · rw [if_pos r, if_pos ⟨g, r⟩]
      · rw [if_neg r, if_neg (fun z => r z.2)]
    · rw [if_neg g, if_neg (fun z => g z.1)]
set_option maxHeartbeats 1000000 in
theorem Sift_loop (p q : Int) (xs : List Nat) (hx : ∀ x ∈ xs, x < 18446744073709551616) (hl : xs.length ≤ 65536) : ∀ (ys pre : List Nat), xs = pre ++ ys → ∀ (out : List Nat) (a b c d e : Nat) (k : Nat), out.length ≤ pre.length → a + b + c + d + e ≤ pre.length →
    policy_Sift.l0 (k + ys.length + 5) xs out (xs.length : Int) (pre.length : Int) p q a b c d e (pre.length : Int) = some (rs (out ++ fin_ ys) ((a + cn 5 ys : Nat) : Int) ((b + cn 3 ys : Nat) : Int) ((c + cn 4 ys : Nat) : Int) ((d + cn 1 ys : Nat) : Int) ((e + cn 2 ys : Nat) : Int) (xs.length : Int) p q) := by
  intro ys
  induction ys with
  | nil =>
    intro pre hp out a b c d e k ho hs
    have hlen : xs.length = pre.length := by rw [hp]; simp
    have hb : 0 ≤ (b : Int) ∧ (b : Int) ≤ 1099511627776 := by omega
    have hc : 0 ≤ (c : Int) ∧ (c : Int) ≤ 1099511627776 := by omega
    rw [show k + ([] : List Nat).length + 5 = (k + 3) + 1 + 1 from rfl, policy_Sift.l0, if_neg (by omega)]
    simp only [cn_nil, Nat.add_zero]
    rw [show out ++ fin_ [] = out by simp [fin_], ← hlen]
    by_cases h : (a : Int) > 0
    · rw [if_pos h]
      exact j1_eq (k + 3) out a b c d e _ p q _ (by rw [Bool.eq_iff_iff, beq_iff_eq, decide_eq_true_eq]; exact ⟨fun z => ⟨h, z⟩, fun z => z.2⟩) hb hc
    · rw [if_neg h]
      exact j1_eq (k + 3) out a b c d e _ p q _ (by rw [eq_comm, decide_eq_false_iff_not]; exact fun z => h z.1) hb hc
  | cons y ys ih =>
    intro pre hp out a b c d e k ho hs
    have hlen : xs.length = pre.length + (ys.length + 1) := by rw [hp]; simp
    have hy : y < 18446744073709551616 := hx y (by rw [hp]; simp)
    have hrd : rdOf (0 : Nat) xs (pre.length : Int) = y := by
      unfold rdOf; rw [Int.toNat_natCast, List.getD_eq_getElem?_getD, hp]; simp
    have na : a < 1099511627776 := by omega
    have nb : b < 1099511627776 := by omega
    have nc : c < 1099511627776 := by omega
    have nd : d < 1099511627776 := by omega
    have ne : e < 1099511627776 := by omega
    have np : pre.length < 1099511627776 := by omega
    have ep : ((pre.length + 1 : Nat) : Int) = ((pre ++ [y]).length : Int) := by simp
    have c1 : (pre.length : Int) < (xs.length : Int) := by omega
    have c2 : (0 : Int) ≤ (pre.length : Int) := by omega
    have c3 : out.length < 17592186044416 := by omega
    have hp' : xs = (pre ++ [y]) ++ ys := by rw [hp]; simp
    have hpl : (pre ++ [y]).length = pre.length + 1 := by simp
    have step := fun (out' : List Nat) (a' b' c' d' e' : Nat) (h1 : out'.length ≤ (pre ++ [y]).length) (h2 : a' + b' + c' + d' + e' ≤ (pre ++ [y]).length) => ih (pre ++ [y]) hp' out' a' b' c' d' e' k h1 h2
    have s0 : out.length ≤ (pre ++ [y]).length := by rw [hpl]; omega
    have s1 : (out ++ [y]).length ≤ (pre ++ [y]).length := by rw [hpl, List.length_append]; simp; omega
    have t0 : a + b + c + d + e ≤ (pre ++ [y]).length := by rw [hpl]; omega
    have t1 : a + b + c + d + e + 1 ≤ (pre ++ [y]).length := by rw [hpl]; omega
    have fc := fin_cons y ys
    have n5 := cn_cons 5 y ys
    have n4 := cn_cons 4 y ys
    have n3 := cn_cons 3 y ys
    have n2 := cn_cons 2 y ys
    have n1 := cn_cons 1 y ys
    have hk := kind_eq (k + (ys.length + 2)) hy
    rw [show k + (y :: ys).length + 5 = (k + ys.length + 5) + 1 by simp; omega, policy_Sift.l0, if_pos c1, if_pos c2, if_pos c1, hrd, show k + ys.length + 5 = k + (ys.length + 2) + 3 by omega, hk, Option.bind_some, show k + (ys.length + 2) + 3 = k + ys.length + 5 by omega]
    unfold policy_count.f
    rw [fc, n5, n4, n3, n2, n1]
    clear hk fc n5 n4 n3 n2 n1
    have cases6 : kd y = 5 ∨ kd y = 3 ∨ kd y = 4 ∨ kd y = 1 ∨ kd y = 2 ∨ kd y = 0 := by
      unfold kd; (repeat' split) <;> simp
    rcases cases6 with h | h | h | h | h | h <;> rw [h]
    · rw [if_pos rfl, Option.bind_some, if_neg (by decide)]
      simp only [if_true, if_neg (show ¬ (5 : Int) = 4 by decide), if_neg (show ¬ (5 : Int) = 3 by decide), if_neg (show ¬ (5 : Int) = 2 by decide), if_neg (show ¬ (5 : Int) = 1 by decide), if_neg (show ¬ (5 : Int) ≤ 2 by decide)]
      rw [wN np, ep, wN na, step out (a + 1) b c d e s0 (by omega)]
      simp only [Nat.zero_add, Nat.add_assoc]
    · rw [if_neg (by decide), if_pos rfl, Option.bind_some, if_neg (by decide)]
      simp only [if_neg (show ¬ (3 : Int) = 5 by decide), if_neg (show ¬ (3 : Int) = 4 by decide), if_true, if_neg (show ¬ (3 : Int) = 2 by decide), if_neg (show ¬ (3 : Int) = 1 by decide), if_neg (show ¬ (3 : Int) ≤ 2 by decide)]
      rw [wN np, ep, wN nb, step out a (b + 1) c d e s0 (by omega)]
      simp only [Nat.zero_add, Nat.add_assoc]
    · rw [if_neg (by decide), if_neg (by decide), if_pos rfl, Option.bind_some, if_neg (by decide)]
      simp only [if_neg (show ¬ (4 : Int) = 5 by decide), if_true, if_neg (show ¬ (4 : Int) = 3 by decide), if_neg (show ¬ (4 : Int) = 2 by decide), if_neg (show ¬ (4 : Int) = 1 by decide), if_neg (show ¬ (4 : Int) ≤ 2 by decide)]
      rw [wN np, ep, wN nc, step out a b (c + 1) d e s0 (by omega)]
      simp only [Nat.zero_add, Nat.add_assoc]
    · rw [if_neg (by decide), if_neg (by decide), if_neg (by decide), if_pos rfl, Option.bind_some, if_pos (by decide), if_pos c3]
      simp only [if_neg (show ¬ (1 : Int) = 5 by decide), if_neg (show ¬ (1 : Int) = 4 by decide), if_neg (show ¬ (1 : Int) = 3 by decide), if_neg (show ¬ (1 : Int) = 2 by decide), if_true, if_pos (show (1 : Int) ≤ 2 by decide)]
      rw [wN np, ep, wN nd, step (out ++ [y]) a b c (d + 1) e s1 (by omega)]
      simp only [Nat.zero_add, Nat.add_assoc, List.append_assoc, List.singleton_append]
    · rw [if_neg (by decide), if_neg (by decide), if_neg (by decide), if_neg (by decide), if_pos rfl, Option.bind_some, if_pos (by decide), if_pos c3]
      simp only [if_neg (show ¬ (2 : Int) = 5 by decide), if_neg (show ¬ (2 : Int) = 4 by decide), if_neg (show ¬ (2 : Int) = 3 by decide), if_true, if_neg (show ¬ (2 : Int) = 1 by decide), if_pos (show (2 : Int) ≤ 2 by decide)]
      rw [wN np, ep, wN ne, step (out ++ [y]) a b c d (e + 1) s1 (by omega)]
      simp only [Nat.zero_add, Nat.add_assoc, List.append_assoc, List.singleton_append]
    · rw [if_neg (by decide), if_neg (by decide), if_neg (by decide), if_neg (by decide), if_neg (by decide), Option.bind_some, if_pos (by decide), if_pos c3]
      simp only [if_neg (show ¬ (0 : Int) = 5 by decide), if_neg (show ¬ (0 : Int) = 4 by decide), if_neg (show ¬ (0 : Int) = 3 by decide), if_neg (show ¬ (0 : Int) = 2 by decide), if_neg (show ¬ (0 : Int) = 1 by decide), if_pos (show (0 : Int) ≤ 2 by decide)]
      rw [wN np, ep, step (out ++ [y]) a b c d e s1 t0]
      simp only [Nat.zero_add, List.append_assoc, List.singleton_append]
/-- What Sift answers. -/
def sf (xs : List Nat) (p q : Int) : Ans := if 0 ≤ p ∧ p ≤ 2 ∧ 0 ≤ q ∧ q ≤ 2 then (if xs.length > 65536 then ([], 0, 0, 0, 0, 0, 0, 2) else rs (fin_ xs) (cn 5 xs) (cn 3 xs) (cn 4 xs) (cn 1 xs) (cn 2 xs) xs.length p q) else ([], 0, 0, 0, 0, 0, 0, 1)
theorem Sift_eq (k : Nat) {xs : List Nat} (hx : ∀ x ∈ xs, x < 18446744073709551616) (p q : Int) : policy_Sift.f (k + xs.length + 5) xs p q = some (sf xs p q) := by
  unfold policy_Sift.f sf
  rw [May_eq, Option.bind_some]
  by_cases h : 0 ≤ p ∧ p ≤ 2 ∧ 0 ≤ q ∧ q ≤ 2
  · rw [if_pos (decide_eq_true h), if_pos h]
    by_cases g : xs.length > 65536
    · rw [if_pos (by omega), if_pos g]
    · rw [if_neg (by omega), if_neg g, if_pos (by omega), if_pos (by omega)]
      have := Sift_loop p q xs hx (by omega) xs [] rfl [] 0 0 0 0 0 k (by simp) (by simp)
      simpa using this
  · rw [if_neg (by rw [decide_eq_true_eq]; exact h), if_neg h]

end Go.Proofs.Ytkoonpjlpobmeaa.Pure
namespace Go.Proofs.Ytkoonpjlpobmeaa.Pure
open Go Go.RowKit Go.Proofs.Ytkoonpjlpobmeaa.Pr Go.Proofs.YtkoonpjlpobmeaaW.PrintWords Go.Proofs.YtkoonpjlpobmeaaW.PrintLast Go.Proofs.YtkoonpjlpobmeaaW.FL
theorem awake_ge (j : Nat) : l06_awake.f (40 + j) = some true := by
  induction j with
  | zero => exact awake40
  | succ j ih => exact l06_awake.mono (40 + j) _ ih
theorem Sift_ge {k : Nat} {xs : List Nat} (hk : xs.length + 5 ≤ k) (hx : ∀ x ∈ xs, x < 18446744073709551616) (p q : Int) : policy_Sift.f k xs p q = some (sf xs p q) := by
  have := Sift_eq (k - (xs.length + 5)) hx p q
  rw [show k - (xs.length + 5) + xs.length + 5 = k by omega] at this
  exact this
theorem Alike_loop (xs : List Nat) (hl : xs.length < 1099511627776) : ∀ (d i k : Nat), i + d = xs.length → r03_AlikeLists.l0 (k + d + 1) xs xs (i : Int) = some true := by
  intro d
  induction d with
  | zero =>
    intro i k hi
    rw [r03_AlikeLists.l0, if_neg (by omega)]
  | succ d ih =>
    intro i k hi
    have c1 : (i : Int) < (xs.length : Int) := by omega
    have c2 : (0 : Int) ≤ (i : Int) := by omega
    have hi2 : i < 1099511627776 := by omega
    unfold r03_AlikeLists.l0
    rw [if_pos c1, if_pos c2, if_pos c1]
    unfold r03_Alike.f
    rw [Option.bind_some, if_pos (by simp), wN hi2]
    exact ih (i + 1) k (by omega)
theorem Alike_refl {k : Nat} {xs : List Nat} (hl : xs.length < 1099511627776) (hk : xs.length + 1 ≤ k) : r03_AlikeLists.f k xs xs = some true := by
  unfold r03_AlikeLists.f
  rw [if_pos rfl]
  have := Alike_loop xs hl xs.length 0 (k - (xs.length + 1)) (by omega)
  rw [show k - (xs.length + 1) + xs.length + 1 = k by omega] at this
  exact this
theorem kd_cases (y : Nat) : kd y = 5 ∨ kd y = 3 ∨ kd y = 4 ∨ kd y = 1 ∨ kd y = 2 ∨ kd y = 0 := by
  unfold kd; (repeat' split) <;> simp
end Go.Proofs.Ytkoonpjlpobmeaa.Pure
namespace Go.Proofs.Ytkoonpjlpobmeaa.Pure
open Go Go.RowKit Go.Proofs.Ytkoonpjlpobmeaa.Pr Go.Proofs.YtkoonpjlpobmeaaW.PrintWords Go.Proofs.YtkoonpjlpobmeaaW.PrintLast Go.Proofs.YtkoonpjlpobmeaaW.FL
theorem kindR (k : Nat) {a : Nat} (h : a < 18446744073709551616) : r06_Kind.f (k + 2) a = some (kd a) := by
  have e1 : ((a : Int) % 9223372036854775808) = ((a % 9223372036854775808 : Nat) : Int) := by omega
  have e2 : ((a : Int) / 9223372036854775808) = ((a / 9223372036854775808 : Nat) : Int) := by omega
  have e3 : ((((a : Int) / 9223372036854775808)) == 1) = decide (9223372036854775808 ≤ a) := by
    rw [e2]
    by_cases h1 : 9223372036854775808 ≤ a
    · rw [decide_eq_true h1, show a / 9223372036854775808 = 1 by omega]; rfl
    · rw [decide_eq_false h1, show a / 9223372036854775808 = 0 by omega]; rfl
  unfold r06_Kind.f kd
  rw [e3, e1]
  generalize hs : a % 9223372036854775808 = s
  by_cases h1 : 9218868437227405312 < s
  · rw [if_pos (by omega), if_pos h1]
  · rw [if_neg (by omega), if_neg h1]
    by_cases h2 : s = 9218868437227405312
    · subst h2
      rw [if_pos (by rfl), if_pos rfl, r06_Kind.j0]
      by_cases h3 : 9223372036854775808 ≤ a
      · rw [if_pos (decide_eq_true h3), if_pos h3]
      · rw [if_neg (by rw [decide_eq_false h3]; decide), if_neg h3, if_pos (by rfl)]
    · rw [if_neg (by omega), if_neg h2, r06_Kind.j0, if_neg (by decide), if_neg (by omega)]
      by_cases h4 : s = 0
      · subst h4
        rw [if_pos (by rfl), if_pos rfl, r06_Kind.j1]
        by_cases h3 : 9223372036854775808 ≤ a
        · rw [if_pos (decide_eq_true h3), if_pos h3]
        · rw [if_neg (by rw [decide_eq_false h3]; decide), if_neg h3, if_pos (by rfl)]
      · rw [if_neg (by omega), if_neg h4, r06_Kind.j1, if_neg (by decide), if_neg (by omega)]
def one_ (b : Prop) [Decidable b] : Nat := if b then 1 else 0
theorem countR (k : Nat) {x : Nat} (h : x < 18446744073709551616) (a b c d e f : Nat) (hl : a ≤ 65536 ∧ b ≤ 65536 ∧ c ≤ 65536 ∧ d ≤ 65536 ∧ e ≤ 65536 ∧ f ≤ 65536) :
    r06_Count.f (k + 2) a b c d e f x = some (((a + one_ (kd x = 5) : Nat) : Int), ((b + one_ (kd x = 3) : Nat) : Int), ((c + one_ (kd x = 4) : Nat) : Int), ((d + one_ (kd x = 1) : Nat) : Int), ((e + one_ (kd x = 2) : Nat) : Int), ((f + 1 : Nat) : Int)) := by
  have w : ∀ n : Nat, n ≤ 65536 → wrap64 ((n : Int) + 1) = ((n + 1 : Nat) : Int) := fun n hn => wN (by omega)
  unfold r06_Count.f
  rw [kindR k h, Option.bind_some, w a hl.1, w b hl.2.1, w c hl.2.2.1, w d hl.2.2.2.1, w e hl.2.2.2.2.1, w f hl.2.2.2.2.2]
  unfold one_
  rcases kd_cases x with h | h | h | h | h | h <;> rw [h] <;> rfl
theorem cn_one (j : Int) (x : Nat) (xs : List Nat) : cn j (x :: xs) = one_ (kd x = j) + cn j xs := by rw [cn_cons]; rfl
theorem Of_loop (xs : List Nat) (hx : ∀ x ∈ xs, x < 18446744073709551616) (hl : xs.length ≤ 65536) : ∀ (ys pre : List Nat), xs = pre ++ ys → ∀ (a b c d e : Nat) (k : Nat), a ≤ pre.length → b ≤ pre.length → c ≤ pre.length → d ≤ pre.length → e ≤ pre.length →
    r06_Of.l0 (k + ys.length + 3) xs (pre.length : Int) a b c d e (pre.length : Int) = some (((a + cn 5 ys : Nat) : Int), ((b + cn 3 ys : Nat) : Int), ((c + cn 4 ys : Nat) : Int), ((d + cn 1 ys : Nat) : Int), ((e + cn 2 ys : Nat) : Int), (xs.length : Int))
  | [], pre, h, a, b, c, d, e, k, _, _, _, _, _ => by
    rw [List.append_nil] at h
    subst h
    rw [r06_Of.l0, if_neg (by omega)]
    simp [cn_nil]
  | y :: ys, pre, h, a, b, c, d, e, k, ha, hb, hc, hd, he => by
    have hlen : xs.length = pre.length + (ys.length + 1) := by rw [h]; simp
    have hy : rdOf (0 : Nat) xs (pre.length : Int) = y := by unfold rdOf; rw [Int.toNat_natCast, h]; simp
    rw [show k + (y :: ys).length + 3 = (k + ys.length + 3) + 1 by simp; omega, r06_Of.l0, if_pos (by omega), if_pos (by omega), hy]
    rw [show k + ys.length + 3 = (k + ys.length + 1) + 2 by omega, countR _ (hx y (by rw [h]; simp)) a b c d e pre.length (by omega), Option.bind_some]
    have o1 : ∀ p : Prop, ∀ [Decidable p], one_ p ≤ 1 := fun p _ => by unfold one_; split <;> omega
    have := Of_loop xs hx hl ys (pre ++ [y]) (by rw [h]; simp) (a + one_ (kd y = 5)) (b + one_ (kd y = 3)) (c + one_ (kd y = 4)) (d + one_ (kd y = 1)) (e + one_ (kd y = 2)) k
      (by have := o1 (kd y = 5); simp; omega) (by have := o1 (kd y = 3); simp; omega) (by have := o1 (kd y = 4); simp; omega) (by have := o1 (kd y = 1); simp; omega) (by have := o1 (kd y = 2); simp; omega)
    rw [List.length_append, List.length_singleton] at this
    rw [wN (by omega)]
    rw [show k + ys.length + 1 + 2 = k + ys.length + 3 by omega, this]
    simp only [cn_one, Nat.add_assoc]
theorem fin_len (xs : List Nat) : (fin_ xs).length ≤ xs.length := List.length_filter_le _ _
theorem SiftR_loop (xs : List Nat) (hx : ∀ x ∈ xs, x < 18446744073709551616) (hl : xs.length ≤ 65536) (a b c d e f : Int) : ∀ (ys pre : List Nat), xs = pre ++ ys → ∀ (out : List Nat) (k : Nat), out.length ≤ pre.length →
    r06_Sift.l0 (k + ys.length + 3) xs out (pre.length : Int) a b c d e f = some (out ++ fin_ ys, a, b, c, d, e, f, 0)
  | [], pre, h, out, k, _ => by
    rw [List.append_nil] at h
    subst h
    rw [r06_Sift.l0, if_neg (by omega)]
    simp [fin_]
  | y :: ys, pre, h, out, k, ho => by
    have hlen : xs.length = pre.length + (ys.length + 1) := by rw [h]; simp
    have hy : rdOf (0 : Nat) xs (pre.length : Int) = y := by unfold rdOf; rw [Int.toNat_natCast, h]; simp
    rw [show k + (y :: ys).length + 3 = (k + ys.length + 3) + 1 by simp; omega, r06_Sift.l0, if_pos (by omega), if_pos (by omega), hy]
    rw [show r06_Kind.f (k + ys.length + 3) y = some (kd y) from kindR (k + ys.length + 1) (hx y (by rw [h]; simp)), Option.bind_some, wN (by omega), fin_cons]
    by_cases hk : kd y ≤ 2
    · have := SiftR_loop xs hx hl a b c d e f ys (pre ++ [y]) (by rw [h]; simp) (out ++ [y]) k (by simp; omega)
      rw [List.length_append, List.length_singleton] at this
      rw [if_pos hk, if_pos (by omega), if_pos hk, this, List.append_assoc]; rfl
    · have := SiftR_loop xs hx hl a b c d e f ys (pre ++ [y]) (by rw [h]; simp) out k (by simp; omega)
      rw [List.length_append, List.length_singleton] at this
      rw [if_neg hk, if_neg hk, this]
theorem RefusedR (k : Nat) (a b c d e f : Nat) (hb : b ≤ 65536) (hc : c ≤ 65536) (p q : Int) : r06_Refused.f (k + 1) a b c d e f p q = some (if (a : Int) > 0 ∧ p = 2 then 60 else if (b : Int) + c > 0 ∧ q = 2 then 61 else 0) := by
  have w : wrap64 ((b : Int) + (c : Int)) = (b : Int) + c := by rw [w64 (by omega) (by omega)]
  unfold r06_Refused.f
  simp only [r06_Refused.j0, w]
  have pb : (p == 2) = decide (p = 2) := by by_cases h : p = 2 <;> simp [h]
  rw [pb]
  by_cases h1 : (a : Int) > 0 <;> by_cases h2 : p = 2 <;> by_cases h3 : (b : Int) + c > 0 <;> by_cases h4 : q = 2 <;> simp only [h1, h2, h3, h4, if_true, if_false, decide_true, decide_false, and_self, and_true, and_false, Bool.false_eq_true, ite_self]
theorem cn_small (j : Int) {xs : List Nat} (hl : xs.length ≤ 65536) : cn j xs ≤ 65536 := Nat.le_trans (cn_le j xs) hl
theorem SiftR_eq (k : Nat) {xs : List Nat} (hx : ∀ x ∈ xs, x < 18446744073709551616) (p q : Int) : r06_Sift.f (k + xs.length + 3) xs p q = some (sf xs p q) := by
  unfold r06_Sift.f sf
  rw [rMay_eq, Option.bind_some]
  by_cases h : 0 ≤ p ∧ p ≤ 2 ∧ 0 ≤ q ∧ q ≤ 2
  · rw [if_pos (decide_eq_true h), if_pos h]
    by_cases g : xs.length > 65536
    · rw [if_pos (by omega), if_pos g]
    · rw [if_neg (by omega), if_neg g]
      have h1 : r06_Of.f (k + xs.length + 3) xs = some ((cn 5 xs : Int), (cn 3 xs : Int), (cn 4 xs : Int), (cn 1 xs : Int), (cn 2 xs : Int), (xs.length : Int)) := by
        have := Of_loop xs hx (by omega) xs [] rfl 0 0 0 0 0 k (by simp) (by simp) (by simp) (by simp) (by simp)
        unfold r06_Of.f
        simpa using this
      have h2 := SiftR_loop xs hx (by omega) (cn 5 xs) (cn 3 xs) (cn 4 xs) (cn 1 xs) (cn 2 xs) xs.length xs [] rfl [] k (by simp)
      rw [h1, Option.bind_some]
      simp only []
      rw [show r06_Refused.f (k + xs.length + 3) (cn 5 xs) (cn 3 xs) (cn 4 xs) (cn 1 xs) (cn 2 xs) xs.length p q = _ from RefusedR (k + xs.length + 2) _ _ _ _ _ _ (cn_small 3 (by omega)) (cn_small 4 (by omega)) p q, Option.bind_some]
      unfold rs
      by_cases c1 : (cn 5 xs : Int) > 0 ∧ p = 2
      · rw [if_pos c1, if_pos c1, if_neg (by decide)]
      · rw [if_neg c1, if_neg c1]
        by_cases c2 : (cn 3 xs : Int) + (cn 4 xs : Int) > 0 ∧ q = 2
        · rw [if_pos c2, if_pos c2, if_neg (by decide)]
        · rw [if_neg c2, if_neg c2, if_pos rfl]
          simpa using h2
  · rw [if_neg (by rw [decide_eq_true_eq]; exact h), if_neg h]
theorem SiftR_ge {k : Nat} {xs : List Nat} (hk : xs.length + 3 ≤ k) (hx : ∀ x ∈ xs, x < 18446744073709551616) (p q : Int) : r06_Sift.f k xs p q = some (sf xs p q) := by
  have := SiftR_eq (k - (xs.length + 3)) hx p q
  rw [show k - (xs.length + 3) + xs.length + 3 = k by omega] at this
  exact this
theorem sf_len (xs : List Nat) (p q : Int) : (sf xs p q).1.length ≤ 65536 := by
  unfold sf
  split
  · split
    · simp
    · unfold rs
      split
      · simp
      · split
        · simp
        · have := fin_len xs
          show (fin_ xs).length ≤ 65536
          omega
  · simp
theorem mark_num (i : Nat) : FloatKind.f64.format.order (floatOfInt .f64 (1000 + (i : Int))) (floatOfInt .f64 (1000 + (i : Int))) = some .eq := by
  have h : floatOfInt .f64 (1000 + (i : Int)) ≤ 9218868437227405312 := by
    have e : floatOfInt .f64 (1000 + (i : Int)) = Ieee.double.nearest false (1000 + i) 0 := by
      unfold floatOfInt FloatKind.nearest FloatKind.encode
      have h1 : decide (1000 + (i : Int) < 0) = false := decide_eq_false (by omega)
      have h2 : (1000 + (i : Int)).natAbs = 1000 + i := by omega
      rw [h1, h2]
      rfl
    have hw : ∀ r, Ieee.double.word false (min r Ieee.double.infRung) ≤ 9218868437227405312 := by
      intro r
      have : Ieee.double.infRung = 9218868437227405312 := by decide
      rw [this]
      have hw : Ieee.double.word false (min r 9218868437227405312) = min r 9218868437227405312 := rfl
      rw [hw]
      omega
    rw [e]
    unfold Ieee.Format.nearest
    rw [if_neg (by omega)]
    exact hw _
  have h2 := (not_congr (D_nan_iff (floatOfInt .f64 (1000 + (i : Int))))).mpr (by omega)
  simpa using h2
/-- What the walk asks. -/
theorem PolicySifts (l m : List Nat) (p0 p1 q0 q1 : Int) (wl : ∀ x ∈ l, x < 18446744073709551616) (wm : ∀ x ∈ m, x < 18446744073709551616) :
    ∃ k, l06_awake.f k = some true ∧ policy_Sift.f k l p0 p1 = some (sf l p0 p1) ∧ policy_Sift.f k m q0 q1 = some (sf m q0 q1) ∧ r06_Sift.f k l p0 p1 = some (sf l p0 p1) ∧ r06_Sift.f k m q0 q1 = some (sf m q0 q1) ∧
      r03_AlikeLists.f k (sf l p0 p1).1 (sf l p0 p1).1 = some true ∧ r03_AlikeLists.f k (sf m q0 q1).1 (sf m q0 q1).1 = some true := by
  have h1 := sf_len l p0 p1
  have h2 := sf_len m q0 q1
  refine ⟨40 + (l.length + m.length + 70000), awake_ge _, Sift_ge (by omega) wl _ _, Sift_ge (by omega) wm _ _, SiftR_ge (by omega) wl _ _, SiftR_ge (by omega) wm _ _, Alike_refl (by omega) (by omega), Alike_refl (by omega) (by omega)⟩
end Go.Proofs.Ytkoonpjlpobmeaa.Pure
namespace Go.Proofs.Ytkoonpjlpobmeaa.Pr
open Go.RowKit Go.Proofs.YtkoonpjlpobmeaaW.PrintWords Go.Proofs.YtkoonpjlpobmeaaW.PrintLast Go.Proofs.YtkoonpjlpobmeaaW.PrintMore
theorem sifts_law (A0 A1 : Option Addr) (c0 c1 : Nat) (l m : List Nat) (p0 p1 q0 q1 : Int) (w : World)
    (hr0 : (Kd.float .f64).C w A0 l.length l) (hc0 : l.length ≤ c0) (hr1 : (Kd.float .f64).C w A1 m.length m) (hc1 : m.length ≤ c1) (hl0 : l.length ≤ 17592186044415) (hl1 : m.length ≤ 17592186044415)
    (wl : ∀ x ∈ l, x < 18446744073709551616) (wm : ∀ x ∈ m, x < 18446744073709551616) :
    Calls Try.prog 4 #[.slice A0 l.length c0, .agg #[.int .i64 p0, .int .i64 p1], .slice A1 m.length c1, .agg #[.int .i64 q0, .int .i64 q1]] w fun e w' => e = .returned (.bool true) ∧ Below w.heap.size w w' := by
  obtain ⟨k, g1, g2, g3, g4, g5, g6, g7⟩ := Pure.PolicySifts l m p0 p1 q0 q1 wl wm
  have n1 := Pure.sf_len l p0 p1
  have n2 := Pure.sf_len m q0 q1
  generalize Pure.sf l p0 p1 = s1 at *
  generalize Pure.sf m q0 q1 = s2 at *
  obtain ⟨la, a1, a2, a3, a4, a5, a6, ae⟩ := s1
  obtain ⟨lb, b1, b2, b3, b4, b5, b6, be⟩ := s2
  exact sifts_calls k A0 A1 c0 c1 l m p0 p1 q0 q1 la lb a1 a2 a3 a4 a5 a6 ae b1 b2 b3 b4 b5 b6 be w hr0 hc0 hr1 hc1 hl0 hl1 g1 g2 g3 g4 g5 g6 g7 (Nat.le_trans n1 (by decide)) (Nat.le_trans n2 (by decide)) (fun i _ => Pure.mark_num i)
end Go.Proofs.Ytkoonpjlpobmeaa.Pr
/- Arguments laid open for the rows of laws: what can be read as data of a type is one of that type's kind (numbers, floats, bools, strings, slices, structs), in the words of the print; and slices are no longer than the reach. -/
namespace Go.Proofs.YtkoonpjlpobmeaaW.PrintWords
open Go.RowKit Go.ChangeShapes Go.WideShapes
set_option linter.unusedVariables false
/-- Whatever reads as data of type t is of kind d, and well formed. -/
def Opens {α : Type} (P : Program) (t : TypeId) (d : Kd α) (wf : α → Prop) : Prop :=
  ∀ {H : Type} (enc : TypeId × Value → H) (w : World) (base : Nat) (spare : Nat → Bool) (held : Bool) (fuel : Nat) (cs : List Value) (x : DataW H × List MemPlace),
    DataW.trod enc P w base spare held fuel t cs = some x → (∀ n ∈ x.1.weights P t, n ≤ reachBytes) → ∃ a : α, d.K w a cs ∧ wf a
theorem Opens.int {P : Program} {t : TypeId} {k : IntKind} (ht : P.underlying t = some (.int k)) : Opens P t (Kd.int k) (fun n => (Lit.int k n).wf = true) := by
  intro H enc w base spare held fuel cs x h _
  obtain ⟨n, rfl, _, hw⟩ := DataW.trod_int ht h
  exact ⟨n, rfl, hw⟩
theorem Opens.bool {P : Program} {t : TypeId} (ht : P.underlying t = some .bool) : Opens P t Kd.bool (fun _ => True) := by
  intro H enc w base spare held fuel cs x h _
  obtain ⟨n, rfl, _⟩ := DataW.trod_bool ht h
  exact ⟨n, rfl, trivial⟩
theorem Opens.string {P : Program} {t : TypeId} (ht : P.underlying t = some .string) : Opens P t Kd.string (fun s => s.size ≤ 140737488351232) := by
  intro H enc w base spare held fuel cs x h hwt
  obtain ⟨n, rfl, rfl, _⟩ := DataW.trod_string ht h
  refine ⟨n, rfl, ?_⟩
  have := hwt n.data.toList.length (by simp [DataW.weights])
  rw [Array.length_toList] at this
  exact this
theorem trod_float {H : Type} {enc : TypeId × Value → H} {P : Program} {w : World} {base : Nat} {spare : Nat → Bool} {held : Bool} {fuel : Nat} {t : TypeId} {k : FloatKind} {cs : List Value} {x : DataW H × List MemPlace} (ht : P.underlying t = some (.float k)) (h : DataW.trod enc P w base spare held fuel t cs = some x) : ∃ b, cs = [.float k b] ∧ x = (.lit (.float k b), []) ∧ (Lit.float k b).wf = true := by
  cases fuel with
  | zero => simp [DataW.trod] at h
  | succ n =>
    unfold DataW.trod at h
    rw [ht] at h
    split at h <;> simp_all
theorem Opens.float {P : Program} {t : TypeId} {k : FloatKind} (ht : P.underlying t = some (.float k)) : Opens P t (Kd.float k) (fun n => (Lit.float k n).wf = true) := by
  intro H enc w base spare held fuel cs x h _
  obtain ⟨n, rfl, _, hw⟩ := trod_float ht h
  exact ⟨n, rfl, hw⟩
theorem list_choice {α β : Type} {Q : β → α → Prop} : ∀ (ys : List β), (∀ y ∈ ys, ∃ a, Q y a) → ∃ xs : List α, xs.length = ys.length ∧ ∀ (j : Nat) (y : β), ys[j]? = some y → ∃ a, xs[j]? = some a ∧ Q y a
  | [], _ => ⟨[], rfl, fun j y h => by simp at h⟩
  | y :: ys, h => by
    obtain ⟨a, ha⟩ := h y (List.mem_cons_self ..)
    obtain ⟨xs, hl, hx⟩ := list_choice ys (fun z hz => h z (List.mem_cons_of_mem _ hz))
    refine ⟨a :: xs, by simp [hl], fun j z hz => ?_⟩
    cases j with
    | zero => simp at hz; subst hz; exact ⟨a, rfl, ha⟩
    | succ j => simpa using hx j z (by simpa using hz)
theorem weights_elem {H : Type} {P : Program} {e : TypeId} : ∀ {ds : List (DataW H)} {d : DataW H}, d ∈ ds → ∀ n ∈ d.weights P e, n ∈ DataW.weightsAll P e ds
  | d0 :: ds, d, hd, n, hn => by
    simp only [DataW.weightsAll, List.mem_append]
    rcases List.mem_cons.1 hd with rfl | hd
    · exact .inl hn
    · exact .inr (weights_elem hd n hn)
theorem Opens.slice {P : Program} {t e : TypeId} {α : Type} {d : Kd α} {wf : α → Prop} {B : Nat} (ht : P.underlying t = some (.slice e)) (he : Opens P e d wf) (hc : P.cellsOf e = d.sz) (hB : P.bytesOf e = B) :
    Opens P t (Kd.slice e d) (fun xs => xs.length ≤ maxLen ∧ xs.length * B ≤ 140737488351232 ∧ ∀ x ∈ xs, wf x) := by
  intro H enc w base spare held fuel cs x h hwt
  rcases DataW.trod_slice ht h with ⟨rfl, _⟩ | ⟨a, len, cap, elems, rest, n, _, rfl, rfl, hb, hl, hm, hlen, hel, hsp, hns⟩
  · exact ⟨[], ⟨none, 0, rfl, Nat.le_refl _, rfl, Nat.zero_le _, fun h => absurd h (by simp)⟩, by simp, by simp, fun x hx => by simp at hx⟩
  · have hw0 : (elems.length + rest.length) * B ≤ 140737488351232 := by
      have := hwt ((elems.length + rest.length) * P.bytesOf e) (by simp [DataW.weights, ht])
      rw [hB] at this
      exact this
    have each : ∀ (i : Nat) (y : DataW H × List MemPlace), elems[i]? = some y → ∃ (p : α) (c : List Value), wf p ∧ c.length = d.sz ∧ d.K w p c ∧ ∀ (j : Nat) (u : Value), c[j]? = some u → w.cell? (a.add (i * d.sz + j)) = some u := by
      intro i y hy
      have hi : i < len := by rw [← hlen]; exact (List.getElem?_eq_some_iff.1 hy).1
      have hb' := (hel i hi).trans hy
      rw [Option.bind_eq_some_iff] at hb'
      obtain ⟨c, hcs, hy'⟩ := hb'
      rw [hc] at hcs
      obtain ⟨_, hcl, hat⟩ := World.cells?_some hcs
      have hmem : y ∈ elems := List.mem_of_getElem? hy
      obtain ⟨p, hp, hpw⟩ := he enc w base spare held n c y hy' (fun m hm' => hwt m (by
        simp only [DataW.weights, ht, List.mem_cons, List.mem_append]
        exact .inr (.inl (weights_elem (List.mem_map_of_mem hmem) m hm'))))
      refine ⟨p, c, hpw, hcl, hp, fun j u hu => ?_⟩
      have hj : j < d.sz := by rw [← hcl]; exact (List.getElem?_eq_some_iff.1 hu).1
      rw [← Go.Deep.add_add, hat j hj, hu]
    obtain ⟨xs, hxl, hx⟩ := list_choice (Q := fun (y : Nat × (DataW H × List MemPlace)) (p : α) => elems[y.1]? = some y.2 → ∃ c : List Value, wf p ∧ c.length = d.sz ∧ d.K w p c ∧ ∀ (j : Nat) (u : Value), c[j]? = some u → w.cell? (a.add (y.1 * d.sz + j)) = some u)
      (elems.zipIdx.map fun z => (z.2, z.1)) (by
        intro y hy
        obtain ⟨z, hz, rfl⟩ := List.mem_map.1 hy
        obtain ⟨i, hi⟩ := List.getElem?_of_mem hz
        rw [List.getElem?_zipIdx] at hi
        obtain ⟨v, hv, rfl⟩ := Option.map_eq_some_iff.1 hi
        obtain ⟨p, c, h1, h2, h3, h4⟩ := each i v hv
        exact ⟨p, fun _ => ⟨c, h1, h2, h3, by simpa using h4⟩⟩)
    have hxl' : xs.length = len := by rw [hxl]; simp [hlen]
    have get : ∀ (j : Nat) (p : α), xs[j]? = some p → ∃ c : List Value, wf p ∧ c.length = d.sz ∧ d.K w p c ∧ ∀ (i : Nat) (u : Value), c[i]? = some u → w.cell? (a.add (j * d.sz + i)) = some u := by
      intro j p hj
      have hjl : j < elems.length := by rw [hlen, ← hxl']; exact (List.getElem?_eq_some_iff.1 hj).1
      have hz : (elems.zipIdx.map fun z => (z.2, z.1))[j]? = some (j, elems[j]) := by simp [hjl]
      obtain ⟨p', hp', hq⟩ := hx j _ hz
      obtain rfl : p' = p := Option.some.inj (hp'.symm.trans hj)
      exact hq (List.getElem?_eq_getElem hjl)
    refine ⟨xs, ⟨some a, cap, by rw [hxl'], by rw [hxl']; exact hl, rfl, ?_, fun _ => ⟨a, rfl, fun j p hj => ?_⟩⟩, ?_, ?_, fun p hp => ?_⟩
    · rw [hxl']; exact Nat.le_trans hl hm
    · obtain ⟨c, _, h2, h3, h4⟩ := get j p hj
      exact ⟨c, h2, h3, h4⟩
    · rw [hxl']; exact Nat.le_trans hl hm
    · rw [hxl', ← hlen]; exact Nat.le_trans (Nat.mul_le_mul_right _ (Nat.le_add_right _ _)) hw0
    · obtain ⟨j, hj⟩ := List.getElem?_of_mem hp
      obtain ⟨_, h1, _⟩ := get j p hj
      exact h1
/-- The fields fs of a struct, the first at cell o. -/
def OpensF {α : Type} (P : Program) (fs : List Field) (o : Nat) (d : Kd α) (wf : α → Prop) : Prop :=
  ∀ {H : Type} (enc : TypeId × Value → H) (w : World) (base : Nat) (spare : Nat → Bool) (held : Bool) (n : Nat) (cs : List Value) (ys : List (DataW H × List MemPlace)),
    cs.length = o + d.sz → ys.length = fs.length → (∀ (i : Nat) (f : Field), fs[i]? = some f → DataW.trod enc P w base spare held n f.type ((cs.drop f.offset).take (P.cellsOf f.type)) = ys[i]?) →
    (∀ m ∈ DataW.weightsEach P (fs.map (·.type)) (ys.map (·.1)), m ≤ reachBytes) → ∃ a : α, d.K w a (cs.drop o) ∧ wf a
theorem OpensF.one {P : Program} {f : Field} {o : Nat} {α : Type} {d : Kd α} {wf : α → Prop} (h : Opens P f.type d wf) (ho : f.offset = o) (hc : P.cellsOf f.type = d.sz) : OpensF P [f] o d wf := by
  intro H enc w base spare held n cs ys hcl hyl hf hwt
  match ys, hyl with
  | [y], _ =>
    have h0 := hf 0 f rfl
    rw [ho, hc, List.take_of_length_le (by rw [List.length_drop]; omega)] at h0
    exact h enc w base spare held n _ y h0 (fun m hm => hwt m (by simp only [List.map_cons, List.map_nil, DataW.weightsEach, List.mem_append]; exact .inl hm))
theorem OpensF.cons {P : Program} {f : Field} {fs : List Field} {o : Nat} {α β : Type} {d : Kd α} {d' : Kd β} {wf : α → Prop} {wf' : β → Prop} (h : Opens P f.type d wf) (ho : f.offset = o) (hc : P.cellsOf f.type = d.sz) (h' : OpensF P fs (o + d.sz) d' wf') :
    OpensF P (f :: fs) o (Kd.pair d d') (fun x => wf x.1 ∧ wf' x.2) := by
  intro H enc w base spare held n cs ys hcl hyl hf hwt
  match ys, hyl with
  | y :: ys, hyl =>
    have hcl : cs.length = o + (d.sz + d'.sz) := hcl
    have h0 := hf 0 f rfl
    rw [ho, hc] at h0
    obtain ⟨a, ha, hwa⟩ := h enc w base spare held n _ y h0 (fun m hm => hwt m (by simp only [List.map_cons, DataW.weightsEach, List.mem_append]; exact .inl hm))
    obtain ⟨b, hb, hwb⟩ := h' enc w base spare held n cs ys (by omega) (by simpa using hyl) (fun i g hg => by simpa using hf (i + 1) g (by simpa using hg)) (fun m hm => hwt m (by simp only [List.map_cons, DataW.weightsEach, List.mem_append]; exact .inr hm))
    refine ⟨(a, b), ⟨_, _, ?_, ha, hb⟩, hwa, hwb⟩
    rw [← List.drop_drop]
    exact (List.take_append_drop _ _).symm
theorem Opens.struct {P : Program} {t : TypeId} {fs : Array Field} {α β : Type} {d : Kd α} {wf : α → Prop} (ht : P.underlying t = some (.struct fs)) (h : OpensF P fs.toList 0 d wf) (hc : P.cellsOf t = d.sz) (f : β → α) (g : α → β) (hfg : ∀ x, f (g x) = x) :
    Opens P t (Kd.iso d f) (fun s => wf (f s)) := by
  intro H enc w base spare held fuel cs x hx hwt
  obtain ⟨ys, n, _, rfl, hcl, hyl, hf⟩ := DataW.trod_struct ht hx
  obtain ⟨a, ha, hwa⟩ := h enc w base spare held n cs ys (by rw [hcl, hc]; omega) (by simpa using hyl) (fun i g hg => hf i g (by simpa using hg)) (fun m hm => hwt m (by simpa [DataW.weights, ht] using hm))
  refine ⟨g a, ?_, ?_⟩
  · show d.K w (f (g a)) cs
    rw [hfg]
    simpa using ha
  · show wf (f (g a))
    rw [hfg]
    exact hwa
/-- An argument, laid open. -/
theorem Opens.arg {P : Program} {t : TypeId} {α : Type} {d : Kd α} {wf : α → Prop} (ho : Opens P t d wf) {H : Type} {enc : TypeId × Value → H} {w : World} {base : Nat} {spare : Nat → Bool} {held : Bool} {v : Value} {x : DataW H} {ps : List MemPlace}
    (h : DataW.Trod enc P w base spare held t v x ps) {ts : List TypeId} {ds : List (DataW H)} (hsz : (DataW.weightsEach P ts ds).all (· ≤ reachBytes) = true) {j : Nat} (hj : ts[j]? = some t) (hd : ds[j]? = some x) : ∃ a : α, d.K w a v.cells.toList ∧ wf a := by
  obtain ⟨fuel, hf⟩ := h
  exact ho enc w base spare held fuel _ _ hf (fun n hn => by have := List.all_eq_true.1 hsz n (DataW.weights_mem_each hj hd n hn); simpa using this)
end Go.Proofs.YtkoonpjlpobmeaaW.PrintWords
