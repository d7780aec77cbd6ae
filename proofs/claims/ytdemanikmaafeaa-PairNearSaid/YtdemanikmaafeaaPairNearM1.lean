import Derived.Test.YtdemanikmaafeaaPairNearM0
-- written by this session's own program (wip/fprint.py), which widens the kit's print by floats
namespace Go.Proofs.Ytdemanikmaafeaa.Pr
open Go.RowKit Go.Proofs.YtdemanikmaafeaaW.PrintWords Go.Proofs.YtdemanikmaafeaaW.PrintLast Go.Proofs.YtdemanikmaafeaaW.PrintMore
attribute [local go_sem] max2_int min2_int max_two min_two max_three min_three max_four min_four   -- for this text's walks alone
set_option linter.unusedVariables false
set_option linter.unusedSimpArgs false

def r02_Moved.j0 : Nat → List Int → Int → Int → Bool → Option (List Int)
 | 0, _, _, _, _ => none
 | k + 1, x0, x1, x5, x21 => if x21 = true then (some ([] : List Int)) else (if 0 ≤ x5 then (if x5 ≤ (x0.length : Int) then ((r02_Norm.f k (x0.drop (x5 : Int).toNat)).bind fun t301 => (if 0 ≤ (Int.tmod (wrap64 (-x1)) 32) then ((r02_Parts.f k t301 (([shl .u32 1 (Int.tmod (wrap64 (-x1)) 32)] : List Int))).bind fun bt307 => (some bt307.1)) else (none))) else (none)) else (none))
def r02_Moved.f (k : Nat) (l0 : List Int) (a1 : Int) : Option (List Int) := if a1 < 0 then (if (wrap64 (Int.tdiv (wrap64 (-a1)) 32)) ≥ (l0.length : Int) then (r02_Moved.j0 k l0 a1 (wrap64 (Int.tdiv (wrap64 (-a1)) 32)) true) else (r02_Moved.j0 k l0 a1 (wrap64 (Int.tdiv (wrap64 (-a1)) 32)) (decide (a1 < (-1099511627776))))) else (if 0 ≤ (wrap64 (Int.tdiv a1 32)) then (if (wrap64 (Int.tdiv a1 32) : Int).toNat ≤ 70368744177664 then ((some (List.replicate (wrap64 (Int.tdiv a1 32) : Int).toNat 0 : List Int)).bind fun y313 => (if y313.length + l0.length < 35184372088832 then (if 0 ≤ (Int.tmod a1 32) then ((r02_Times.f k (y313 ++ l0) (([shl .u32 1 (Int.tmod a1 32)] : List Int))).bind fun t322 => (some t322)) else (none)) else (none))) else (none)) else (none))
theorem r02_Moved.mono_l : ∀ k, (∀ y0 y1 y2 y3, LeO (r02_Moved.j0 k y0 y1 y2 y3) (r02_Moved.j0 (k + 1) y0 y1 y2 y3))
 | 0 => fun _ _ _ _ r h => by simp [r02_Moved.j0] at h
 | k + 1 => by
  have ih0:=r02_Moved.mono_l k
  ·intro y0 y1 y2 y3
   unfold r02_Moved.j0
   repeat' first
   | (with_reducible exact ih0 _ _ _ _)
   | (with_reducible exact r02_Norm.mono _ _)
   | (with_reducible exact r02_Parts.mono _ _ _)
   | (with_reducible exact r02_Times.mono _ _ _)
   | (with_reducible exact LeO.refl _)
   | (with_reducible exact LeO.none _)
   | (with_reducible refine LeO.ite ?_ ?_)
   | (with_reducible refine LeO.bind ?_ (fun _ => ?_))
   | exact ih0 _ _ _ _
   | exact r02_Norm.mono _ _
   | exact r02_Parts.mono _ _ _
   | exact r02_Times.mono _ _ _
   | exact LeO.none _
   | refine LeO.ite ?_ ?_
   | refine LeO.bind ?_ (fun _ => ?_)
theorem r02_Moved.mono : ∀ a0 a1 k, LeO (r02_Moved.f k a0 a1) (r02_Moved.f (k + 1) a0 a1) := by
 intro a0 a1 k
 have ih0:=r02_Moved.mono_l k
 unfold r02_Moved.f
 repeat' first
   | (with_reducible exact ih0 _ _ _ _)
   | (with_reducible exact r02_Norm.mono _ _)
   | (with_reducible exact r02_Parts.mono _ _ _)
   | (with_reducible exact r02_Times.mono _ _ _)
   | (with_reducible exact LeO.refl _)
   | (with_reducible exact LeO.none _)
   | (with_reducible refine LeO.ite ?_ ?_)
   | (with_reducible refine LeO.bind ?_ (fun _ => ?_))
   | exact ih0 _ _ _ _
   | exact r02_Norm.mono _ _
   | exact r02_Parts.mono _ _ _
   | exact r02_Times.mono _ _ _
   | exact LeO.none _
   | refine LeO.ite ?_ ?_
   | refine LeO.bind ?_ (fun _ => ?_)
def r02_Moved.T5 : Bool × List (List Nat × List Nat) := (true, [([], []), ([], []), ([0, 1], [0, 1]), ([2], [2]), ([], []), ([4], [4]), ([5], [5]), ([6], [6]), ([7], [7]), ([3, 8, 3], [3, 8]), ([9], [9]), ([10], [10]), ([10], [10]), ([11, 9, 0, 1, 2, 3, 4, 5, 6, 7, 8, 9, 10, 11], [11]), ([12, 13, 0, 1, 2, 3, 4, 5, 6, 7, 8, 9, 10, 11, 12, 13], [12])])
def r02_Moved.B5 : List Nat := [0, 0, 3, 7, 0, 16, 48, 112, 240, 511, 1023, 2047, 2047, 4095, 16383]
theorem r02_Moved.tab5 : rtab .any (opsOf Try.f58 5) = r02_Moved.T5 := by kernel_rfl
theorem r02_Moved.bits5 : waitsOk r02_Moved.T5.2 r02_Moved.B5 = true := by kernel_rfl
set_option maxHeartbeats 3000000 in
set_option maxRecDepth 100000 in
theorem r02_Moved.calls (k : Nat) (A0 : Option Addr) (c0 : Nat) (l0 : List Int) (a1 : Int) (r : List Int) (w : World) (hr0 : Kd.C (Kd.int .u32) w A0 l0.length l0) (hc0 : l0.length ≤ c0) (h : r02_Moved.f k l0 a1 = some r) :
  Calls Try.prog 58 #[.slice A0 l0.length c0,.int .i64 a1] w fun e w'=>∃ v0_ : Value,e = .returned (v0_) ∧ Kd.R (Kd.int .u32) 72 w' w.heap.size (fun _=>True) v0_ r ∧ Below w.heap.size w w':=by
 have HR0:=Aside0.mk hr0
 have HC0:=Aside0.mk hc0
 clear hr0 hc0
 have HB:=Aside0.mk (Below.refl w.heap.size w)
 have H : (if a1 < 0 then (if (wrap64 (Int.tdiv (wrap64 (-a1)) 32)) ≥ (l0.length : Int) then (r02_Moved.j0 k l0 a1 (wrap64 (Int.tdiv (wrap64 (-a1)) 32)) true) else (r02_Moved.j0 k l0 a1 (wrap64 (Int.tdiv (wrap64 (-a1)) 32)) (decide (a1 < (-1099511627776))))) else (if 0 ≤ (wrap64 (Int.tdiv a1 32)) then (if (wrap64 (Int.tdiv a1 32) : Int).toNat ≤ 70368744177664 then ((some (List.replicate (wrap64 (Int.tdiv a1 32) : Int).toNat 0 : List Int)).bind fun y313=>(if y313.length + l0.length < 35184372088832 then (if 0 ≤ (Int.tmod a1 32) then ((r02_Times.f k (y313 ++ l0) (([shl .u32 1 (Int.tmod a1 32)] : List Int))).bind fun t322=>(some t322)) else (none)) else (none))) else (none)) else (none))) = some r:=h
 clear h
 by_cases c3 : a1 < 0
 ·rw [if_pos c3] at H
  have c3b0 : decide (a1 < 0) = true:=decide_eq_true c3
  clear c3
  have HC4:=Aside0.mk H
  clear H
  go_enter Try.func58,Try.ntmps58
  go_upto_region 3 with (fail)
  obtain ⟨bz5,hbz5⟩ : ∃ b_ : Bool,decide (a1 < 0) = b_:=⟨_,rfl⟩
  (try rw [hbz5])
  go_cut [21] (fun v21 wc=>∃ (kq : Nat) (x21_3 : Bool),v21 = .bool x21_3 ∧ Aside0 (r02_Moved.j0 kq l0 a1 (wrap64 (Int.tdiv (wrap64 (-a1)) 32)) x21_3 = some r) ∧ Aside0 (kq ≤ k) ∧ Aside0 (Below w.heap.size w wc))
  case first =>
   have H:=HC4.out
   clear HC4
   by_cases c6 : (wrap64 (Int.tdiv (wrap64 (-a1)) 32)) ≥ (l0.length : Int)
   ·rw [if_pos c6] at H
    have c6b0 : decide ((l0.length : Int) ≤ (wrap64 (Int.tdiv (wrap64 (-a1)) 32))) = true:=decide_eq_true c6
    clear c6
    (first|rw [c6b0]|(simp only [i64_w,i32_w];rw [c6b0])|skip)
    have H':=Aside0.mk H
    clear H
    go_wp2
    go_meet
    case rel=>exact ⟨_,(true),(by first|rfl|(simp;done)|(simp [*];done)),H',⟨by first|omega|exact Nat.le_refl _⟩,⟨bl_ HB⟩⟩
   ·rw [if_neg c6] at H
    have c6b0 : decide ((l0.length : Int) ≤ (wrap64 (Int.tdiv (wrap64 (-a1)) 32))) = false:=decide_eq_false c6
    clear c6
    (first|rw [c6b0]|(simp only [i64_w,i32_w];rw [c6b0])|skip)
    have H':=Aside0.mk H
    clear H
    go_wp2
    go_meet
    case rel=>exact ⟨_,(decide (a1 < (-1099511627776))),(by first|rfl|(simp;done)|(simp [*];done)),H',⟨by first|omega|exact Nat.le_refl _⟩,⟨bl_ HB⟩⟩
  case rest =>
   clear HC4
   try clear p2
   try clear c3
   try clear c3b0
   try clear c5
   try clear c6
   try clear c6b0
   try clear p6
   obtain ⟨kq,x21_3,rfl,HA,HJ3,HB⟩:=hcut
   cases kq with
   | zero => exact absurd HA.out (by simp [r02_Moved.j0])
   | succ kj3 =>
    have H:=HA.out
    clear HA
    simp only [r02_Moved.j0] at H
    by_cases c7 : x21_3 = true
    ·subst c7
     have H1 : (some ([] : List Int)) = some r:=by rw [if_pos rfl] at H;exact H
     clear H
     have H:=H1
     clear H1
     obtain rfl:=Option.some.inj H
     go_wp2
     go_ret
     exact ⟨_,rf_,by first|exact Kd.R_nil _ _ _ _ _|exact Kd.N_nil _ _ _ _ _|exact Kd.V_nil _ _ _ _ _|exact Kd.Q_nil _ _ _ _ _|exact Kd.S_nil _ _ _ _ _,bl_ HB⟩
    ·replace c7:=Bool.eq_false_iff.mpr c7
     subst c7
     have H1 : (if 0 ≤ (wrap64 (Int.tdiv (wrap64 (-a1)) 32)) then (if (wrap64 (Int.tdiv (wrap64 (-a1)) 32)) ≤ (l0.length : Int) then ((r02_Norm.f kj3 (l0.drop ((wrap64 (Int.tdiv (wrap64 (-a1)) 32)) : Int).toNat)).bind fun t301=>(if 0 ≤ (Int.tmod (wrap64 (-a1)) 32) then ((r02_Parts.f kj3 t301 (([shl .u32 1 (Int.tmod (wrap64 (-a1)) 32)] : List Int))).bind fun bt307=>(some bt307.1)) else (none))) else (none)) else (none)) = some r:=by rw [if_neg (show ¬ (false = true) by decide)] at H;exact H
     clear H
     have H:=H1
     clear H1
     obtain ⟨ji8,hji8⟩ : ∃ j_ : Int,(wrap64 (Int.tdiv (wrap64 (-a1)) 32)) = j_:=⟨_,rfl⟩
     replace H : (if 0 ≤ (ji8) then (if (ji8) ≤ (l0.length : Int) then ((r02_Norm.f kj3 (l0.drop ((ji8) : Int).toNat)).bind fun t301=>(if 0 ≤ (Int.tmod (wrap64 (-a1)) 32) then ((r02_Parts.f kj3 t301 (([shl .u32 1 (Int.tmod (wrap64 (-a1)) 32)] : List Int))).bind fun bt307=>(some bt307.1)) else (none))) else (none)) else (none)) = some r:=by first|(rw [hji8] at H;exact H)|(simp only [hji8] at H ⊢;exact H)
     have hji8w : (IntKind.i64.wrap (Int.tdiv (wrap64 (-a1)) 32)) = ji8:=(i64_w _).trans hji8
     by_cases c9 : 0 ≤ (ji8)
     ·rw [if_pos c9] at H
      have c9b0:=eq_true c9
      have c9b1 : decide (0 ≤ (ji8)) = true:=decide_eq_true c9
      clear c9
      by_cases c10 : (ji8) ≤ (l0.length : Int)
      ·rw [if_pos c10] at H
       have c10b0:=eq_true c10
       have c10b1 : decide ((ji8) ≤ (l0.length : Int)) = true:=decide_eq_true c10
       clear c10
       obtain ⟨t301,A11,H⟩:=ob_ H
       try dsimp only at H
       obtain ⟨ji12,hji12⟩ : ∃ j_ : Int,(Int.tmod (wrap64 (-a1)) 32) = j_:=⟨_,rfl⟩
       replace H : (if 0 ≤ (ji12) then ((r02_Parts.f kj3 t301 (([shl .u32 1 (ji12)] : List Int))).bind fun bt307=>(some bt307.1)) else (none)) = some r:=by first|(rw [hji12] at H;exact H)|(simp only [hji12] at H ⊢;exact H)
       (try rw [hji12] at A11)
       by_cases c13 : 0 ≤ (ji12)
       ·rw [if_pos c13] at H
        have c13b0:=eq_true c13
        have c13b1 : decide (0 ≤ (ji12)) = true:=decide_eq_true c13
        clear c13
        obtain ⟨ji14,hji14⟩ : ∃ j_ : Int,(shl .u32 1 (ji12)) = j_:=⟨_,rfl⟩
        replace H : ((r02_Parts.f kj3 t301 (([ji14] : List Int))).bind fun bt307=>(some bt307.1)) = some r:=by first|(rw [hji14] at H;exact H)|(simp only [hji14] at H ⊢;exact H)
        (try rw [hji14] at A11)
        have hji14_ : (IntKind.u32.wrap (1 * 2 ^ min (ji12).toNat 32)) = ji14:=hji14
        have hji14z : (ji12) ≤ 32 → (IntKind.u32.wrap (1 * 2 ^ (ji12).toNat)) = ji14:=shl_small hji14
        have hji14u : (IntKind.u32.wrap (2 ^ min (ji12).toNat 32)) = ji14:=by have h_:=hji14_;rw [Int.one_mul] at h_;exact h_
        have hji14v : (ji12) ≤ 32 → (IntKind.u32.wrap (2 ^ (ji12).toNat)) = ji14:=fun hle_=>by have h_:=hji14z hle_;rw [Int.one_mul] at h_;exact h_
        obtain ⟨y304,hy304⟩ : ∃ y_ : List Int,y_ = (([ji14] : List Int)):=⟨_,rfl⟩
        replace H : ((r02_Parts.f kj3 t301 y304).bind fun bt307=>(some bt307.1)) = some r:=by first|(rw [hy304];with_reducible exact H)|(have H2_:=(Option.bind_some _ _).symm.trans H;rw [hy304];with_reducible exact H2_)|(have H2_:=(Option.bind_some _ _).symm.trans H;with_reducible exact H2_)|with_reducible exact H|(rw [hy304];exact H)|exact H
        have Ny304:=Aside0.mk hy304
        clear hy304
        obtain ⟨⟨t307,t308⟩,A15,H⟩:=ob_ H
        try dsimp only at H
        obtain rfl:=Option.some.inj H
        try go_wp2
        have n0_:=Aside0.mk (below_drew1 HB.out)
        clear HB
        have HB:=n0_
        clear n0_
        obtain ⟨i017,hi017,_,hsz17,_⟩:=info_parts info72
        obtain ⟨A17,hcut17,hA17,hC17⟩:=print_drop_of (P:=Try.prog) (Value.int .u32) 0 41 72 .i64 Try.underlying41 hi017 hsz17 A0 c0 l0 (ji8) (of_decide_eq_true (by first|(with_reducible assumption)|assumption)) (of_decide_eq_true (by first|(with_reducible assumption)|assumption)) HC0.out
        have HR300:=Aside0.mk (Kd.C_of_reads (h1:=fun _=>rfl) (hA17 _ (Kd.reads_of_C HR0.out)))
        have HC300:=Aside0.mk hC17
        clear hA17 hC17 hi017 hsz17
        refine start_ (n:=15) (S:=fun w'=>True) (ds:=[]) #[false,false,false,false,false,false,false,false,false,false,false,false,false,false,false] (by kernel_rfl) rfl rfl trivial (fun hHeld=>?_);refine with_tabW r02_Moved.tab5 r02_Moved.bits5 (fun HT_ HW_=>?_)
        generalize wc.drew = w16 at HB HR300 hHeld ⊢
        refine pure_ (i:=0) (N:=some 23) (v:=?_) (a':=?_) #[true,false,false,false,false,false,false,false,false,false,false,false,false,false,false] rfl rfl (any_of HT_.out (by kernel_rfl)) (fun _ _ _ h=>h) (Or.inl ⟨by rfl,?_⟩) ?_ ?_
        rotate_left
        ·intro w'
         go_simp
         with_reducible rfl
        rotate_left
        ·exact nf_
        refine pure_ (i:=1) (N:=some 24) (v:=?_) (a':=?_) #[true,true,false,false,false,false,false,false,false,false,false,false,false,false,false] rfl rfl (any_of HT_.out (by kernel_rfl)) (fun _ _ _ h=>h) (Or.inl ⟨by rfl,?_⟩) ?_ ?_
        rotate_left
        ·intro w'
         go_simp
         with_reducible rfl
        rotate_left
        ·exact nf_
        refine pure_ (i:=2) (N:=some 25) (v:=?_) (a':=?_) #[true,true,true,false,false,false,false,false,false,false,false,false,false,false,false] rfl rfl (any_of HT_.out (by kernel_rfl)) (fun _ _ _ h=>h) (Or.inl ⟨by rfl,?_⟩) ?_ ?_
        rotate_left
        ·intro w'
         go_simp
         with_reducible rfl
        rotate_left
        ·exact nf_
        refine pure_ (i:=4) (N:=some 27) (v:=?_) (a':=?_) #[true,true,true,false,true,false,false,false,false,false,false,false,false,false,false] rfl rfl (any_of HT_.out (by kernel_rfl)) (fun _ _ _ h=>h) (Or.inl ⟨by rfl,?_⟩) ?_ ?_
        rotate_left
        ·intro w'
         go_simp
         with_reducible rfl
        rotate_left
        ·exact nf_
        refine pure_ (i:=5) (N:=some 28) (v:=?_) (a':=?_) #[true,true,true,false,true,true,false,false,false,false,false,false,false,false,false] rfl rfl (any_of HT_.out (by kernel_rfl)) (fun _ _ _ h=>h) (Or.inl ⟨by rfl,?_⟩) ?_ ?_
        rotate_left
        ·intro w'
         go_simp
         with_reducible rfl
        rotate_left
        ·exact nf_
        refine pure_ (i:=6) (N:=some 29) (v:=?_) (a':=?_) #[true,true,true,false,true,true,true,false,false,false,false,false,false,false,false] rfl rfl (any_of HT_.out (by kernel_rfl)) (fun _ _ _ h=>h) (Or.inl ⟨by rfl,?_⟩) ?_ ?_
        rotate_left
        ·intro w'
         go_simp
         with_reducible rfl
        rotate_left
        ·exact nf_
        refine pure_ (i:=7) (N:=some 30) (v:=?_) (a':=?_) #[true,true,true,false,true,true,true,true,false,false,false,false,false,false,false] rfl rfl (any_of HT_.out (by kernel_rfl)) (fun _ _ _ h=>h) (Or.inl ⟨by rfl,?_⟩) ?_ ?_
        rotate_left
        ·intro w'
         go_simp
         with_reducible rfl
        rotate_left
        ·exact nf_
        refine join_ (σ:=Value × Value) 6 #[true,true,true,true,true,true,true,true,true,false,false,false,false,false,false] (fun s_=>[(26,s_.1),(31,s_.2)]) (fun s_ w'=>(Kd.R (Kd.int .u32) 72 w' w.heap.size (fun k_=>some k_ ≠ (s_.2 : Value).ownBlock) s_.1 t301) ∧ (Kd.R (Kd.int .u32) 72 w' w.heap.size (fun k_=>some k_ ≠ (s_.1 : Value).ownBlock) s_.2 y304) ∧ (Below w.heap.size w w')) ?_ ?_
        rotate_left
        ·intro hCont
         refine two_ (i:=3) (j:=8) (Ni:=some 26) (Nj:=some 31) #[true,true,true,true,true,true,true,true,false,false,false,false,false,false,false] #[true,true,true,false,true,true,true,true,true,false,false,false,false,false,false] rfl rfl rfl rfl (two_of HT_.out (by kernel_rfl)) (by decide) (by decide) (fun K hK=>?_) (fun K hK=>?_)
         ·skip
          refine goes_ Try.func78 (by kernel_rfl) rfl #[.slice A17 (l0.drop ((ji8) : Int).toNat).length (c0 - (ji8).toNat)] (by rfl) rfl rfl (by (try simp only [List.map_toArray,List.map_cons,List.map_nil]);first|done|(rw [show (l0.drop ((ji8) : Int).toNat).length = (l0.length - (ji8).toNat) from List.length_drop] <;> rfl)|(simp only [hji8];rfl)|rfl|(simp only [List.length_drop,List.length_take];rfl)) ?_
          with_reducible refine (r02_Norm.calls kj3 _ _ (l0.drop ((ji8) : Int).toNat) t301 _ ?side1 ?side2 A11.out).mono ?_
          (case side1=>repeat (first|exact (Kd.C_below HR300.out HB.out)|(with_reducible first|apply cA|apply cN|apply cD)))
          (case side2=>exact HC300.out)
          rintro e w18 ⟨v302,rfl,ho0,hb⟩
          refine ⟨_,rfl,?_⟩
          have n0_:=Aside0.mk (Kd.R_lower ho0 (below_size (bl_ HB)))
          have n1_:=bs_ HB hb
          clear HB
          have HO303:=n0_
          have HB:=n1_
          clear n0_ n1_
          (try clear hb)
          (try clear hb2)
          (try clear hk)
          (try clear hi)
          (try clear ho0)
          refine hK.out _ _ trivial (fun hHeld=>?_)
          clear hK K
          refine norm_ (a':=?_) ?_ ?_
          rotate_left
          ·show Act.put _ (some 26) _ = _
           simp only [Act.put,List.setIfInBounds_toArray,List.set_cons_zero,List.set_cons_succ,i64_w,i32_w]
           rfl
          refine one_ (i:=8) (N:=some 31) #[true,true,true,true,true,true,true,true,true,false,false,false,false,false,false] rfl rfl (one_of HT_.out (by kernel_rfl)) (by decide) (fun K hK=>?_)
          refine Kd.R_lit_step (Kd.int .u32) _ 72 ?hg (N:=31) ?hd (xs:=([ji14] : List Int)) (inner:=[.int .u32 ji14]) (ok:=fun _=>True) (okp:=fun _=>True) ?hr ?hp (fun _ hk=>hk) trivial (Below.refl _ _) (Nat.le_refl _) (by simp) ?_;(case hd=>rfl);(case hg=>rfl);(case hr=>first|(go_simp;done)|(go_simp;rfl));(case hp=>exact (Reps.one (show Kd.M (Kd.int .u32) _ _ _ ji14 [.int .u32 ji14] from rfl) (Reps.none _ _)))
          intro v305 w19 ho20 hb hg_ hnew_
          clear hg_ hnew_
          (first|rw [← Ny304.out] at ho20|(simp only [Int.reduceToNat] at ho20;rw [← Ny304.out] at ho20))
          have n0_:=Aside0.mk (Kd.R_elder' (rr_ HO303) (Kd.R_base ho20) hb)
          have n1_:=Aside0.mk (Kd.R_lower (Kd.R_new' ho20 (Kd.R_lt (rr_ HO303))) (below_size (bl_ HB)))
          have n2_:=bs_ HB hb
          clear HO303
          clear HB
          have HO303:=n0_
          have HO306:=n1_
          have HB:=n2_
          clear n0_ n1_ n2_
          clear hb ho20
          refine hK.out _ _ trivial (fun hHeld=>?_)
          clear hK K
          refine norm_ (a':=?_) ?_ ?_
          rotate_left
          ·show Act.put _ (some 31) _ = _
           simp only [Act.put,List.setIfInBounds_toArray,List.set_cons_zero,List.set_cons_succ,i64_w,i32_w]
           rfl
          exact norm_ (by simp only [putAll,Act.put,List.setIfInBounds_toArray,List.set_cons_zero,List.set_cons_succ]) (hCont (v302,v305) _ ⟨(by (with_reducible repeat (first|apply rA|apply rN|apply rD));exact Kd.R_mono HO303.out (fun _ hk=>hk.2)),(by (with_reducible repeat (first|apply rA|apply rN|apply rD));exact Kd.R_mono HO306.out (fun _ hk=>hk.2)),(bl_ HB)⟩)
         ·skip
          refine Kd.R_lit_step (Kd.int .u32) _ 72 ?hg (N:=31) ?hd (xs:=([ji14] : List Int)) (inner:=[.int .u32 ji14]) (ok:=fun _=>True) (okp:=fun _=>True) ?hr ?hp (fun _ hk=>hk) trivial (Below.refl _ _) (Nat.le_refl _) (by simp) ?_;(case hd=>rfl);(case hg=>rfl);(case hr=>first|(go_simp;done)|(go_simp;rfl));(case hp=>exact (Reps.one (show Kd.M (Kd.int .u32) _ _ _ ji14 [.int .u32 ji14] from rfl) (Reps.none _ _)))
          intro v305 w18 ho19 hb hg_ hnew_
          clear hg_ hnew_
          (first|rw [← Ny304.out] at ho19|(simp only [Int.reduceToNat] at ho19;rw [← Ny304.out] at ho19))
          have n0_:=Aside0.mk (Kd.R_lower ho19 (below_size (bl_ HB)))
          have n1_:=bs_ HB hb
          clear HB
          have HO306:=n0_
          have HB:=n1_
          clear n0_ n1_
          clear hb ho19
          refine hK.out _ _ trivial (fun hHeld=>?_)
          clear hK K
          refine norm_ (a':=?_) ?_ ?_
          rotate_left
          ·show Act.put _ (some 31) _ = _
           simp only [Act.put,List.setIfInBounds_toArray,List.set_cons_zero,List.set_cons_succ,i64_w,i32_w]
           rfl
          refine one_ (i:=3) (N:=some 26) #[true,true,true,true,true,true,true,true,true,false,false,false,false,false,false] rfl rfl (one_of HT_.out (by kernel_rfl)) (by decide) (fun K hK=>?_)
          refine goes_ Try.func78 (by kernel_rfl) rfl #[.slice A17 (l0.drop ((ji8) : Int).toNat).length (c0 - (ji8).toNat)] (by rfl) rfl rfl (by (try simp only [List.map_toArray,List.map_cons,List.map_nil]);first|done|(rw [show (l0.drop ((ji8) : Int).toNat).length = (l0.length - (ji8).toNat) from List.length_drop] <;> rfl)|(simp only [hji8];rfl)|rfl|(simp only [List.length_drop,List.length_take];rfl)) ?_
          with_reducible refine (r02_Norm.calls kj3 _ _ (l0.drop ((ji8) : Int).toNat) t301 _ ?side1 ?side2 A11.out).mono ?_
          (case side1=>repeat (first|exact (Kd.C_below HR300.out HB.out)|(with_reducible first|apply cA|apply cN|apply cD)))
          (case side2=>exact HC300.out)
          rintro e w20 ⟨v302,rfl,ho0,hb⟩
          refine ⟨_,rfl,?_⟩
          have n0_:=Aside0.mk (Kd.R_elder' (rr_ HO306) (Kd.R_base ho0) hb)
          have n1_:=Aside0.mk (Kd.R_lower (Kd.R_new' ho0 (Kd.R_lt (rr_ HO306))) (below_size (bl_ HB)))
          have n2_:=bs_ HB hb
          clear HO306
          clear HB
          have HO306:=n0_
          have HO303:=n1_
          have HB:=n2_
          clear n0_ n1_ n2_
          (try clear hb)
          (try clear hb2)
          (try clear hk)
          (try clear hi)
          (try clear ho0)
          refine hK.out _ _ trivial (fun hHeld=>?_)
          clear hK K
          refine norm_ (a':=?_) ?_ ?_
          rotate_left
          ·show Act.put _ (some 26) _ = _
           simp only [Act.put,List.setIfInBounds_toArray,List.set_cons_zero,List.set_cons_succ,i64_w,i32_w]
           rfl
          exact norm_ (by simp only [putAll,Act.put,List.setIfInBounds_toArray,List.set_cons_zero,List.set_cons_succ]) (hCont (v302,v305) _ ⟨(by (with_reducible repeat (first|apply rA|apply rN|apply rD));exact Kd.R_mono HO303.out (fun _ hk=>hk.2)),(by (with_reducible repeat (first|apply rA|apply rN|apply rD));exact Kd.R_mono HO306.out (fun _ hk=>hk.2)),(bl_ HB)⟩)
        rintro ⟨v302,v305⟩ w21 ⟨h0_,h1_,h2_⟩
        have n0_ : Aside0 (Kd.R (Kd.int .u32) 72 w21 w.heap.size (fun k_=>some k_ ≠ (v305 : Value).ownBlock) v302 t301):=⟨h0_⟩
        have n1_ : Aside0 (Kd.R (Kd.int .u32) 72 w21 w.heap.size (fun k_=>some k_ ≠ (v302 : Value).ownBlock) v305 y304):=⟨h1_⟩
        have n2_ : Aside0 (Below w.heap.size w w21):=⟨h2_⟩
        clear HB
        clear h0_ h1_ h2_
        have HO303:=n0_
        have HO306:=n1_
        have HB:=n2_
        clear n0_ n1_ n2_
        have hHeld:=trivial
        obtain ⟨Ao22,co22,eo22⟩:=Kd.R_slice HO303.out
        (first|subst eo22|(injection eo22 with f1_ f2_ f3_;have f4_:=f1_.symm;have f5_:=f3_.symm;clear f1_ f2_ f3_;subst f4_;subst f5_))
        obtain ⟨Ao23,co23,eo23⟩:=Kd.R_slice HO306.out
        (first|subst eo23|(injection eo23 with f1_ f2_ f3_;have f4_:=f1_.symm;have f5_:=f3_.symm;clear f1_ f2_ f3_;subst f4_;subst f5_))
        refine norm_ (a':=?_) ?_ ?_
        rotate_left
        ·simp only [putAll,Act.put,List.setIfInBounds_toArray,List.set_cons_zero,List.set_cons_succ]
         rfl
        refine one_ (i:=9) (N:=some 32) #[true,true,true,true,true,true,true,true,true,true,false,false,false,false,false] rfl rfl (one_of HT_.out (by kernel_rfl)) (by decide) (fun K hK=>?_)
        refine goes_ Try.func77 (by kernel_rfl) rfl #[.slice Ao22 t301.length co22,.slice Ao23 y304.length co23] (by rfl) rfl rfl (by (try simp only [List.map_toArray,List.map_cons,List.map_nil]);first|done|rfl|(simp only [List.length_drop,List.length_take];rfl)) ?_
        with_reducible refine (r02_Parts.calls kj3 _ _ t301 _ _ y304 t307 t308 _ ?side1 ?side2 ?side3 ?side4 A15.out).mono ?_
        (case side1=>repeat (first|exact (Kd.R_reads' HO303.out).2.2|(with_reducible first|apply cA|apply cN|apply cD)))
        (case side2=>exact (Kd.R_reads' HO303.out).2.1)
        (case side3=>repeat (first|exact (Kd.R_reads' HO306.out).2.2|(with_reducible first|apply cA|apply cN|apply cD)))
        (case side4=>exact (Kd.R_reads' HO306.out).2.1)
        rintro e w24 ⟨v309,v311,rfl,ho0,ho1,hb⟩
        refine ⟨_,rfl,?_⟩
        have n0_:=Aside0.mk (Kd.R_mono (Kd.R_told (Kd.R_told (Kd.R_old (rr_ HO303) hb) (Kd.R_base ho0)) (Kd.R_base ho1)) (fun _ h_=>h_.1))
        have n1_:=Aside0.mk (Kd.R_mono (Kd.R_told (Kd.R_told (Kd.R_old (rr_ HO306) hb) (Kd.R_base ho0)) (Kd.R_base ho1)) (fun _ h_=>h_.1))
        have n2_:=Aside0.mk (Kd.R_lower (Kd.R_new' (Kd.R_new' ho0 (Kd.R_lt (rr_ HO303))) (Kd.R_lt (rr_ HO306))) (below_size (bl_ HB)))
        have n3_:=Aside0.mk (Kd.R_lower (Kd.R_new' (Kd.R_new' ho1 (Kd.R_lt (rr_ HO303))) (Kd.R_lt (rr_ HO306))) (below_size (bl_ HB)))
        have n4_:=bs_ HB hb
        clear HO303
        clear HO306
        clear HB
        have HO303:=n0_
        have HO306:=n1_
        have HO310:=n2_
        have HO312:=n3_
        have HB:=n4_
        clear n0_ n1_ n2_ n3_ n4_
        (try clear hb)
        (try clear hb2)
        (try clear hk)
        (try clear hi)
        (try clear ho0)
        (try clear ho1)
        refine hK.out _ _ trivial (fun hHeld=>?_)
        clear hK K
        refine norm_ (a':=?_) ?_ ?_
        rotate_left
        ·show Act.put _ (some 32) _ = _
         simp only [Act.put,List.setIfInBounds_toArray,List.set_cons_zero,List.set_cons_succ,i64_w,i32_w]
         rfl
        refine pure_ (i:=10) (N:=some 22) (v:=?_) (a':=?_) #[true,true,true,true,true,true,true,true,true,true,true,false,false,false,false] rfl rfl (any_of HT_.out (by kernel_rfl)) (fun _ _ _ h=>h) (Or.inl ⟨by rfl,?_⟩) ?_ ?_
        rotate_left
        ·intro w'
         go_simp
         with_reducible rfl
        rotate_left
        ·exact nf_
        refine pure_ (i:=11) (N:=some 33) (v:=?_) (a':=?_) #[true,true,true,true,true,true,true,true,true,true,true,true,false,false,false] rfl rfl (any_of HT_.out (by kernel_rfl)) (fun _ _ _ h=>h) (Or.inl ⟨by rfl,?_⟩) ?_ ?_
        rotate_left
        ·intro w'
         go_simp
         with_reducible rfl
        rotate_left
        ·exact nf_
        refine pure_ (i:=12) (N:=some 34) (v:=?_) (a':=?_) #[true,true,true,true,true,true,true,true,true,true,true,true,true,false,false] rfl rfl (any_of HT_.out (by kernel_rfl)) (fun _ _ _ h=>h) (Or.inl ⟨by rfl,?_⟩) ?_ ?_
        rotate_left
        ·intro w'
         go_simp
         with_reducible rfl
        rotate_left
        ·exact nf_
        refine pure_ (i:=13) (N:=some 6) (v:=?_) (a':=?_) #[true,true,true,true,true,true,true,true,true,true,true,true,true,true,false] rfl rfl (any_of HT_.out (by kernel_rfl)) (fun _ _ _ h=>h) (Or.inl ⟨by rfl,?_⟩) ?_ ?_
        rotate_left
        ·intro w'
         go_simp
         with_reducible rfl
        rotate_left
        ·exact nf_
        refine pure_ (i:=14) (N:=some 7) (v:=?_) (a':=?_) #[true,true,true,true,true,true,true,true,true,true,true,true,true,true,true] rfl rfl (any_of HT_.out (by kernel_rfl)) (fun _ _ _ h=>h) (Or.inl ⟨by rfl,?_⟩) ?_ ?_
        rotate_left
        ·intro w'
         go_simp
         with_reducible rfl
        rotate_left
        ·exact nf_
        refine done_ (done_of HT_.out (by kernel_rfl)) ?_
        try go_wp2
        go_ret
        exact ⟨_,by first|rfl|(simp [errW_none,errW_some] <;> rfl)|(simp only [← hji8,← hji12,← hji14];first|rfl|(simp [errW_none,errW_some] <;> rfl))|(simp [*,errW_none,errW_some] <;> rfl),by (with_reducible repeat (first|apply rA|apply rN|apply rD));exact Kd.R_mono HO310.out (fun _ hk=>trivial),bl_ HB⟩
       ·rw [if_neg c13] at H
        exact absurd H (by simp)
      ·rw [if_neg c10] at H
       exact absurd H (by simp)
     ·rw [if_neg c9] at H
      exact absurd H (by simp)
 ·rw [if_neg c3] at H
  have c3b0 : decide (a1 < 0) = false:=decide_eq_false c3
  (try obtain rfl : bz5 = false:=hbz5.symm.trans c3b0)
  clear c3
  obtain ⟨ji25,hji25⟩ : ∃ j_ : Int,(wrap64 (Int.tdiv a1 32)) = j_:=⟨_,rfl⟩
  replace H : (if 0 ≤ (ji25) then (if (ji25 : Int).toNat ≤ 70368744177664 then ((some (List.replicate (ji25 : Int).toNat 0 : List Int)).bind fun y313=>(if y313.length + l0.length < 35184372088832 then (if 0 ≤ (Int.tmod a1 32) then ((r02_Times.f k (y313 ++ l0) (([shl .u32 1 (Int.tmod a1 32)] : List Int))).bind fun t322=>(some t322)) else (none)) else (none))) else (none)) else (none)) = some r:=by first|(rw [hji25] at H;exact H)|(simp only [hji25] at H ⊢;exact H)
  have hji25w : (IntKind.i64.wrap (Int.tdiv a1 32)) = ji25:=(i64_w _).trans hji25
  by_cases c26 : 0 ≤ (ji25)
  ·rw [if_pos c26] at H
   have c26b0:=eq_true c26
   have c26b1 : decide (0 ≤ (ji25)) = true:=decide_eq_true c26
   clear c26
   by_cases c27 : (ji25 : Int).toNat ≤ 70368744177664
   ·rw [if_pos c27] at H
    have c27b0:=eq_true c27
    have c27b1 : decide ((ji25 : Int).toNat ≤ 70368744177664) = true:=decide_eq_true c27
    clear c27
    obtain ⟨y313,hy313⟩ : ∃ y_ : List Int,y_ = (List.replicate (ji25 : Int).toNat 0):=⟨_,rfl⟩
    replace H : (if y313.length + l0.length < 35184372088832 then (if 0 ≤ (Int.tmod a1 32) then ((r02_Times.f k (y313 ++ l0) (([shl .u32 1 (Int.tmod a1 32)] : List Int))).bind fun t322=>(some t322)) else (none)) else (none)) = some r:=by first|(rw [hy313];with_reducible exact H)|(have H2_:=(Option.bind_some _ _).symm.trans H;rw [hy313];with_reducible exact H2_)|(have H2_:=(Option.bind_some _ _).symm.trans H;with_reducible exact H2_)|with_reducible exact H|(rw [hy313];exact H)|exact H
    have Ny313:=Aside0.mk hy313
    clear hy313
    by_cases c28 : y313.length + l0.length < 35184372088832
    ·rw [if_pos c28] at H
     have LMc28:=Aside0.mk c28
     clear c28
     obtain ⟨y316,hy316⟩ : ∃ y_ : List Int,y_ = (y313 ++ l0):=⟨_,rfl⟩
     replace H : (if 0 ≤ (Int.tmod a1 32) then ((r02_Times.f k y316 (([shl .u32 1 (Int.tmod a1 32)] : List Int))).bind fun t322=>(some t322)) else (none)) = some r:=by first|(rw [hy316];with_reducible exact H)|(have H2_:=(Option.bind_some _ _).symm.trans H;rw [hy316];with_reducible exact H2_)|(have H2_:=(Option.bind_some _ _).symm.trans H;with_reducible exact H2_)|with_reducible exact H|(rw [hy316];exact H)|exact H
     have Ny316:=Aside0.mk hy316
     clear hy316
     obtain ⟨ji29,hji29⟩ : ∃ j_ : Int,(Int.tmod a1 32) = j_:=⟨_,rfl⟩
     replace H : (if 0 ≤ (ji29) then ((r02_Times.f k y316 (([shl .u32 1 (ji29)] : List Int))).bind fun t322=>(some t322)) else (none)) = some r:=by first|(rw [hji29] at H;exact H)|(simp only [hji29] at H ⊢;exact H)
     by_cases c30 : 0 ≤ (ji29)
     ·rw [if_pos c30] at H
      have c30b0:=eq_true c30
      have c30b1 : decide (0 ≤ (ji29)) = true:=decide_eq_true c30
      clear c30
      obtain ⟨ji31,hji31⟩ : ∃ j_ : Int,(shl .u32 1 (ji29)) = j_:=⟨_,rfl⟩
      replace H : ((r02_Times.f k y316 (([ji31] : List Int))).bind fun t322=>(some t322)) = some r:=by first|(rw [hji31] at H;exact H)|(simp only [hji31] at H ⊢;exact H)
      have hji31_ : (IntKind.u32.wrap (1 * 2 ^ min (ji29).toNat 32)) = ji31:=hji31
      have hji31z : (ji29) ≤ 32 → (IntKind.u32.wrap (1 * 2 ^ (ji29).toNat)) = ji31:=shl_small hji31
      have hji31u : (IntKind.u32.wrap (2 ^ min (ji29).toNat 32)) = ji31:=by have h_:=hji31_;rw [Int.one_mul] at h_;exact h_
      have hji31v : (ji29) ≤ 32 → (IntKind.u32.wrap (2 ^ (ji29).toNat)) = ji31:=fun hle_=>by have h_:=hji31z hle_;rw [Int.one_mul] at h_;exact h_
      obtain ⟨y319,hy319⟩ : ∃ y_ : List Int,y_ = (([ji31] : List Int)):=⟨_,rfl⟩
      replace H : ((r02_Times.f k y316 y319).bind fun t322=>(some t322)) = some r:=by first|(rw [hy319];with_reducible exact H)|(have H2_:=(Option.bind_some _ _).symm.trans H;rw [hy319];with_reducible exact H2_)|(have H2_:=(Option.bind_some _ _).symm.trans H;with_reducible exact H2_)|with_reducible exact H|(rw [hy319];exact H)|exact H
      have Ny319:=Aside0.mk hy319
      clear hy319
      obtain ⟨t322,A32,H⟩:=ob_ H
      try dsimp only at H
      obtain rfl:=Option.some.inj H
      go_enter Try.func58,Try.ntmps58
      go_wp2_with (first|((with_reducible refine gate_dst (N:=38) rfl ?_);refine Kd.R_make (Kd.int .u32) _ 72 rfl (N:=38) rfl 41 _ _ rfl ji25 rfl rfl Try.underlying41 (.int .u32 0) 4 info72 rfl (by decide) (by omega) 0 (ok:=fun _=>True) (okp:=fun _=>True) rfl (fun _ hk=>hk) trivial (of_decide_eq_true (by first|(with_reducible assumption)|assumption)) (Nat.le_trans (Nat.mul_le_mul_right _ (of_decide_eq_true (by first|(with_reducible assumption)|assumption) : ji25.toNat ≤ 70368744177664)) (by omega)) (Below.refl _ _) (Nat.le_refl _) ?_;intro v314 w33 ho34 hb hg_ hnew_;clear hg_ hnew_;(first|rw [← Ny313.out] at ho34|(simp only [Int.reduceToNat] at ho34;rw [← Ny313.out] at ho34));have HO315:=Aside0.mk (Kd.R_lower ho34 (below_size (bl_ HB)));replace HB:=bs_ HB hb;clear hb ho34)|((with_reducible refine gate_builtin (b:=.append) (xs:=#[.tmp 39,.tmp 40]) rfl ?_);at_builtin;refine Kd.R_append_rows (Kd.int .u32) (w0:=w) w.heap.size rfl (.tmp 39) (.tmp 40) 41 72 (.int .u32 0) 4 rfl Try.underlying41 info72 rfl (by decide) (by omega) v314 y313 l0 _ _ _ (fun _=>True) (fun _=>False) rfl rfl ?aO ?aR (fun _ _ h=>h) (fun _ h=>h.elim) ?aF ?aB ?aS ?aL ?_;(case aR=>repeat (first|exact (Kd.C_below HR0.out HB.out)|(with_reducible first|apply cA|apply cN|apply cD)));(case aB=>exact (bl_ HB));(case aF=>exact (fun _ _=>trivial));(case aO=>exact (rr_ HO315));(case aS=>exact (below_size (bl_ HB)));(case aL=>have:=LMc28.out;omega);intro v317 w35 ho hb hg hat;rw [← Ny316.out] at ho;replace HB:=Aside0.mk (hb);have HO318:=Aside0.mk (ho);clear ho hb hg hat)|((with_reducible refine gate_dst (N:=46) rfl ?_);refine Kd.R_lit (Kd.int .u32) _ 72 ?hg (N:=46) ?hd (xs:=([ji31] : List Int)) (inner:=[.int .u32 ji31]) (ok:=fun _=>True) (okp:=fun _=>True) ?hr ?hp (fun _ hk=>hk) trivial (Below.refl _ _) (Nat.le_refl _) (by simp) ?_;(case hd=>rfl);(case hg=>rfl);(case hr=>first|(go_simp;done)|(go_simp;rfl));(case hp=>exact (Reps.one (show Kd.M (Kd.int .u32) _ _ _ ji31 [.int .u32 ji31] from rfl) (Reps.none _ _)));intro v320 w36 ho37 hb hg_ hnew_;clear hg_ hnew_;(first|rw [← Ny319.out] at ho37|(simp only [Int.reduceToNat] at ho37;rw [← Ny319.out] at ho37));have HO321:=Aside0.mk (Kd.R_lower (Kd.R_new' ho37 (Kd.R_lt (rr_ HO318))) (below_size (bl_ HB)));replace HO318:=Aside0.mk (Kd.R_elder' (rr_ HO318) (Kd.R_base ho37) hb);replace HB:=bs_ HB hb;clear hb ho37;obtain ⟨Ao38,co38,eo38⟩:=Kd.R_slice HO318.out;subst eo38;obtain ⟨Ao39,co39,eo39⟩:=Kd.R_slice HO321.out;subst eo39)|((with_reducible refine gate_callee (f:=63) rfl ?_);refine goesM (some 47) Try.func63 #[.slice Ao38 y316.length co38,.slice Ao39 y319.length co39] ?_;(with_reducible refine (r02_Times.calls k _ _ y316 _ _ y319 t322 _ ?side1 ?side2 ?side3 ?side4 A32.out).mono ?_);(case side1=>repeat (first|exact (Kd.R_reads' HO318.out).2.2|(with_reducible first|apply cA|apply cN|apply cD)));(case side2=>exact (Kd.R_reads' HO318.out).2.1);(case side3=>repeat (first|exact (Kd.R_reads' HO321.out).2.2|(with_reducible first|apply cA|apply cN|apply cD)));(case side4=>exact (Kd.R_reads' HO321.out).2.1);rintro e w40 ⟨v323,rfl,ho0,hb⟩;refine ⟨_,rfl,?_⟩;have HO324:=Aside0.mk (Kd.R_lower (Kd.R_new' (Kd.R_new' ho0 (Kd.R_lt (rr_ HO318))) (Kd.R_lt (rr_ HO321))) (below_size (bl_ HB)));replace HO318:=Aside0.mk (Kd.R_elder' (rr_ HO318) (Kd.R_base ho0) hb);replace HO321:=Aside0.mk (Kd.R_elder' (rr_ HO321) (Kd.R_base ho0) hb);replace HB:=bs_ HB hb;(try clear hb);(try clear hb2);(try clear hk);(try clear hi);(try clear ho0)))
      go_ret
      exact ⟨_,by first|rfl|(simp [errW_none,errW_some] <;> rfl)|(simp only [← hji25,← hji29,← hji31];first|rfl|(simp [errW_none,errW_some] <;> rfl))|(simp [*,errW_none,errW_some] <;> rfl),by (with_reducible repeat (first|apply rA|apply rN|apply rD));exact Kd.R_mono HO324.out (fun _ hk=>trivial),bl_ HB⟩
     ·rw [if_neg c30] at H
      exact absurd H (by simp)
    ·rw [if_neg c28] at H
     exact absurd H (by simp)
   ·rw [if_neg c27] at H
    exact absurd H (by simp)
  ·rw [if_neg c26] at H
   exact absurd H (by simp)

end Go.Proofs.Ytdemanikmaafeaa.Pr
-- written by this session's own program (wip/fprint.py), which widens the kit's print by floats
namespace Go.Proofs.Ytdemanikmaafeaa.Pr
open Go.RowKit Go.Proofs.YtdemanikmaafeaaW.PrintWords Go.Proofs.YtdemanikmaafeaaW.PrintLast Go.Proofs.YtdemanikmaafeaaW.PrintMore
attribute [local go_sem] max2_int min2_int max_two min_two max_three min_three max_four min_four   -- for this text's walks alone
set_option linter.unusedVariables false
set_option linter.unusedSimpArgs false

def r02_Bit.f (l0 : List Int) (a1 : Int) : Option (Bool) := if a1 < 0 then (some false) else (if (wrap64 (Int.tdiv a1 32)) ≥ (l0.length : Int) then (some false) else (if 0 ≤ (wrap64 (Int.tdiv a1 32)) then (if (wrap64 (Int.tdiv a1 32)) < (l0.length : Int) then (if 0 ≤ (Int.tmod a1 32) then (some ((Go.bits .and .u32 (shr .u32 (rd l0 (wrap64 (Int.tdiv a1 32))) (Int.tmod a1 32)) 1) == 1)) else (none)) else (none)) else (none)))
set_option maxHeartbeats 3000000 in
set_option maxRecDepth 100000 in
theorem r02_Bit.calls (A0 : Option Addr) (c0 : Nat) (l0 : List Int) (a1 : Int) (r : Bool) (w : World) (hr0 : Kd.C (Kd.int .u32) w A0 l0.length l0) (hc0 : l0.length ≤ c0) (h : r02_Bit.f l0 a1 = some r) :
  Calls Try.prog 88 #[.slice A0 l0.length c0,.int .i64 a1] w fun e w'=>e = .returned (.bool r) ∧ Drawn0 w w':=by
 have HR0:=Aside0.mk hr0
 have HC0:=Aside0.mk hc0
 clear hr0 hc0
 have H : (if a1 < 0 then (some false) else (if (wrap64 (Int.tdiv a1 32)) ≥ (l0.length : Int) then (some false) else (if 0 ≤ (wrap64 (Int.tdiv a1 32)) then (if (wrap64 (Int.tdiv a1 32)) < (l0.length : Int) then (if 0 ≤ (Int.tmod a1 32) then (some ((Go.bits .and .u32 (shr .u32 (rd l0 (wrap64 (Int.tdiv a1 32))) (Int.tmod a1 32)) 1) == 1)) else (none)) else (none)) else (none)))) = some r:=h
 clear h
 by_cases c3 : a1 < 0
 ·rw [if_pos c3] at H
  have c3b0 : decide (a1 < 0) = true:=decide_eq_true c3
  clear c3
  obtain rfl:=Option.some.inj H
  go_enter Try.func88,Try.ntmps88
  go_wp2
  go_ret
  exact ⟨by first|rfl|(simp;done)|(simp [*];done),by repeat (first|exact Drawn0.refl _|apply Drawn0.step)⟩
 ·rw [if_neg c3] at H
  have c3b0 : decide (a1 < 0) = false:=decide_eq_false c3
  clear c3
  by_cases c4 : (wrap64 (Int.tdiv a1 32)) ≥ (l0.length : Int)
  ·rw [if_pos c4] at H
   have c4b0 : decide ((l0.length : Int) ≤ (wrap64 (Int.tdiv a1 32))) = true:=decide_eq_true c4
   clear c4
   obtain rfl:=Option.some.inj H
   go_enter Try.func88,Try.ntmps88
   go_wp2
   go_ret
   exact ⟨by first|rfl|(simp;done)|(simp [*];done),by repeat (first|exact Drawn0.refl _|apply Drawn0.step)⟩
  ·rw [if_neg c4] at H
   have c4b0 : decide ((l0.length : Int) ≤ (wrap64 (Int.tdiv a1 32))) = false:=decide_eq_false c4
   clear c4
   obtain ⟨ji5,hji5⟩ : ∃ j_ : Int,(wrap64 (Int.tdiv a1 32)) = j_:=⟨_,rfl⟩
   replace H : (if 0 ≤ (ji5) then (if (ji5) < (l0.length : Int) then (if 0 ≤ (Int.tmod a1 32) then (some ((Go.bits .and .u32 (shr .u32 (rd l0 (ji5)) (Int.tmod a1 32)) 1) == 1)) else (none)) else (none)) else (none)) = some r:=by first|(rw [hji5] at H;exact H)|(simp only [hji5] at H ⊢;exact H)
   (try rw [hji5] at c4b0)
   have hji5w : (IntKind.i64.wrap (Int.tdiv a1 32)) = ji5:=(i64_w _).trans hji5
   by_cases c6 : 0 ≤ (ji5)
   ·rw [if_pos c6] at H
    have c6b0 : decide (0 ≤ (ji5)) = true:=decide_eq_true c6
    clear c6
    by_cases c7 : (ji5) < (l0.length : Int)
    ·rw [if_pos c7] at H
     have c7b0 : decide ((ji5) < (l0.length : Int)) = true:=decide_eq_true c7
     clear c7
     obtain ⟨ji8,hji8⟩ : ∃ j_ : Int,(Int.tmod a1 32) = j_:=⟨_,rfl⟩
     replace H : (if 0 ≤ (ji8) then (some ((Go.bits .and .u32 (shr .u32 (rd l0 (ji5)) (ji8)) 1) == 1)) else (none)) = some r:=by first|(rw [hji8] at H;exact H)|(simp only [hji8] at H ⊢;exact H)
     by_cases c9 : 0 ≤ (ji8)
     ·rw [if_pos c9] at H
      have c9b0:=eq_true c9
      have c9b1 : decide (0 ≤ (ji8)) = true:=decide_eq_true c9
      clear c9
      obtain ⟨ji10,hji10⟩ : ∃ j_ : Int,(shr .u32 (rd l0 (ji5)) (ji8)) = j_:=⟨_,rfl⟩
      replace H : (some ((Go.bits .and .u32 (ji10) 1) == 1)) = some r:=by first|(rw [hji10] at H;exact H)|(simp only [hji10] at H ⊢;exact H)
      have hji10_ : ((rd l0 (ji5)) / 2 ^ min (ji8).toNat 32) = ji10:=hji10
      have hji10z : (ji8) ≤ 32 → ((rd l0 (ji5)) / 2 ^ (ji8).toNat) = ji10:=shr_small hji10
      obtain rfl:=Option.some.inj H
      have p325 : 0 ≤ ((ji5) : Int):=of_decide_eq_true (by first|(with_reducible assumption)|assumption)
      have q325 : (ji5) < (l0.length : Int):=of_decide_eq_true (by first|(with_reducible assumption)|assumption)
      obtain ⟨ad325,e325,hx325_0⟩:=Kd.at_int HR0.out (ji5) p325 q325
      cases e325
      replace p325:=eq_true p325
      replace q325:=eq_true q325
      go_enter Try.func88,Try.ntmps88
      go_wp2
      go_ret
      exact ⟨by first|rfl|(simp;done)|(simp only [← hji5,← hji8,← hji10] <;> (first|rfl|simp))|(simp [*];done),by repeat (first|exact Drawn0.refl _|apply Drawn0.step)⟩
     ·rw [if_neg c9] at H
      exact absurd H (by simp)
    ·rw [if_neg c7] at H
     exact absurd H (by simp)
   ·rw [if_neg c6] at H
    exact absurd H (by simp)

def r02_Low.l0 : Nat → List Int → Int → Option (Int)
 | 0, _, _ => none
 | k + 1, x0, x3 => (r02_Bit.f x0 x3).bind fun t327 => (if t327 = true then (some x3) else (r02_Low.l0 k x0 (wrap64 (x3 + 1))))
def r02_Low.f (k : Nat) (l0 : List Int) : Option (Int) := (r02_size.f k l0).bind fun t326 => (if t326 = 0 then (some 0) else (r02_Low.l0 k l0 0))
theorem r02_Low.mono_l : ∀ k, (∀ y0 y1, LeO (r02_Low.l0 k y0 y1) (r02_Low.l0 (k + 1) y0 y1))
 | 0 => fun _ _ r h => by simp [r02_Low.l0] at h
 | k + 1 => by
  have ih0:=r02_Low.mono_l k
  ·intro y0 y1
   unfold r02_Low.l0
   repeat' first
   | (with_reducible exact ih0 _ _)
   | (with_reducible exact r02_size.mono _ _)
   | (with_reducible exact LeO.refl _)
   | (with_reducible exact LeO.none _)
   | (with_reducible refine LeO.ite ?_ ?_)
   | (with_reducible refine LeO.bind ?_ (fun _ => ?_))
   | exact ih0 _ _
   | exact r02_size.mono _ _
   | exact LeO.none _
   | refine LeO.ite ?_ ?_
   | refine LeO.bind ?_ (fun _ => ?_)
theorem r02_Low.mono : ∀ a0 k, LeO (r02_Low.f k a0) (r02_Low.f (k + 1) a0) := by
 intro a0 k
 have ih0:=r02_Low.mono_l k
 unfold r02_Low.f
 repeat' first
   | (with_reducible exact ih0 _ _)
   | (with_reducible exact r02_size.mono _ _)
   | (with_reducible exact LeO.refl _)
   | (with_reducible exact LeO.none _)
   | (with_reducible refine LeO.ite ?_ ?_)
   | (with_reducible refine LeO.bind ?_ (fun _ => ?_))
   | exact ih0 _ _
   | exact r02_size.mono _ _
   | exact LeO.none _
   | refine LeO.ite ?_ ?_
   | refine LeO.bind ?_ (fun _ => ?_)
set_option maxHeartbeats 3000000 in
set_option maxRecDepth 100000 in
theorem r02_Low.calls (k : Nat) (A0 : Option Addr) (c0 : Nat) (l0 : List Int) (r : Int) (w : World) (hr0 : Kd.C (Kd.int .u32) w A0 l0.length l0) (hc0 : l0.length ≤ c0) (h : r02_Low.f k l0 = some r) :
  Calls Try.prog 83 #[.slice A0 l0.length c0] w fun e w'=>e = .returned (.int .i64 r) ∧ Drawn0 w w':=by
 have HR0:=Aside0.mk hr0
 have HC0:=Aside0.mk hc0
 clear hr0 hc0
 have H : ((r02_size.f k l0).bind fun t326=>(if t326 = 0 then (some 0) else (r02_Low.l0 k l0 0))) = some r:=h
 clear h
 obtain ⟨t326,A2,H⟩:=ob_ H
 try dsimp only at H
 by_cases c3 : t326 = 0
 ·rw [if_pos c3] at H
  have c3b0 : (t326 == 0) = true:=beq_iff_eq.mpr c3
  have c3b1 : (t326 != 0) = false:=bne_eq_false_iff_eq.mpr c3
  clear c3
  obtain rfl:=Option.some.inj H
  go_enter Try.func83,Try.ntmps83
  go_wp2_with (first|((with_reducible refine gate_callee (f:=75) rfl ?_);refine goesM (some 5) Try.func75 #[.slice A0 l0.length c0] ?_;(with_reducible refine (r02_size.calls k _ _ l0 t326 _ ?side1 ?side2 A2.out).mono ?_);(case side1=>repeat (first|exact HR0.out|(with_reducible first|apply cA|apply cN|apply cD)));(case side2=>exact HC0.out);rintro e w' ⟨rfl,⟨nd,rfl⟩⟩;refine ⟨_,rfl,?_⟩))
  go_ret
  exact ⟨by first|rfl|(simp;done)|(simp [*];done),by repeat (first|exact Drawn0.refl _|apply Drawn0.step)⟩
 ·rw [if_neg c3] at H
  have c3b0 : (t326 == 0) = false:=beq_eq_false_iff_ne.mpr c3
  have c3b1 : (t326 != 0) = true:=bne_iff_ne.mpr c3
  have H':=Aside0.mk H
  clear H
  go_enter Try.func83,Try.ntmps83
  go_wp2_with (first|((with_reducible refine gate_callee (f:=75) rfl ?_);refine goesM (some 5) Try.func75 #[.slice A0 l0.length c0] ?_;(with_reducible refine (r02_size.calls k _ _ l0 t326 _ ?side1 ?side2 A2.out).mono ?_);(case side1=>repeat (first|exact HR0.out|(with_reducible first|apply cA|apply cN|apply cD)));(case side2=>exact HC0.out);rintro e w' ⟨rfl,⟨nd,rfl⟩⟩;refine ⟨_,rfl,?_⟩))
  go_loopg [3] k (fun kq v3 w'=>∃ (x3_1 : Int),v3 = .int .i64 x3_1 ∧ Aside0 (r02_Low.l0 kq l0 x3_1 = some r) ∧ Aside0 (kq ≤ k) ∧ Drawn0 w w')
  case atStart=>exact ⟨(0),(by first|rfl|(simp;done)|(simp [*];done)),H',⟨Nat.le_refl _⟩,by repeat (first|exact Drawn0.refl _|apply Drawn0.step)⟩
  case round =>
   clear H'
   try clear p2
   try clear c3
   try clear c3b0
   try clear c3b1
   obtain ⟨x3_1,rfl,HA,HK1,⟨m1,rfl⟩⟩:=hrel
   cases gk with
   | zero => exact absurd HA.out (by simp [r02_Low.l0])
   | succ k1 =>
    have H:=HA.out
    clear HA
    simp only [r02_Low.l0] at H
    obtain ⟨t327,A4,H⟩:=ob_ H
    try dsimp only at H
    by_cases c5 : t327 = true
    ·subst c5
     have H1 : (some x3_1) = some r:=by rw [if_pos rfl] at H;exact H
     clear H
     have H:=H1
     clear H1
     obtain rfl:=Option.some.inj H
     go_wp2_with (first|((with_reducible refine gate_callee (f:=88) rfl ?_);refine goesM (some 9) Try.func88 #[.slice A0 l0.length c0,.int .i64 x3_1] ?_;(with_reducible refine (r02_Bit.calls _ _ l0 x3_1 true _ ?side1 ?side2 A4.out).mono ?_);(case side1=>repeat (first|exact HR0.out|(with_reducible first|apply cA|apply cN|apply cD)));(case side2=>exact HC0.out);rintro e w' ⟨rfl,⟨nd,rfl⟩⟩;refine ⟨_,rfl,?_⟩))
     go_ret
     exact ⟨by first|rfl|(simp;done)|(simp [*];done),by repeat (first|exact Drawn0.refl _|apply Drawn0.step)⟩
    ·replace c5:=Bool.eq_false_iff.mpr c5
     subst c5
     have H1 : (r02_Low.l0 k1 l0 (wrap64 (x3_1 + 1))) = some r:=by rw [if_neg (show ¬ (false = true) by decide)] at H;exact H
     clear H
     have H:=H1
     clear H1
     have H':=Aside0.mk H
     clear H
     go_wp2_with (first|((with_reducible refine gate_callee (f:=88) rfl ?_);refine goesM (some 9) Try.func88 #[.slice A0 l0.length c0,.int .i64 x3_1] ?_;(with_reducible refine (r02_Bit.calls _ _ l0 x3_1 false _ ?side1 ?side2 A4.out).mono ?_);(case side1=>repeat (first|exact HR0.out|(with_reducible first|apply cA|apply cN|apply cD)));(case side2=>exact HC0.out);rintro e w' ⟨rfl,⟨nd,rfl⟩⟩;refine ⟨_,rfl,?_⟩))
     go_roundg k1
     case measure=>have:=HK1.out;omega
     case rel=>exact ⟨(wrap64 (x3_1 + 1)),(by first|rfl|(simp;done)|(simp [*];done)),H',⟨by have:=HK1.out;omega⟩,by repeat (first|exact Drawn0.refl _|apply Drawn0.step)⟩

end Go.Proofs.Ytdemanikmaafeaa.Pr
-- written by this session's own program (wip/fprint.py), which widens the kit's print by floats
namespace Go.Proofs.Ytdemanikmaafeaa.Pr
open Go.RowKit Go.Proofs.YtdemanikmaafeaaW.PrintWords Go.Proofs.YtdemanikmaafeaaW.PrintLast Go.Proofs.YtdemanikmaafeaaW.PrintMore
attribute [local go_sem] max2_int min2_int max_two min_two max_three min_three max_four min_four   -- for this text's walks alone
set_option linter.unusedVariables false
set_option linter.unusedSimpArgs false

def r03_Form.j0 : Nat → Bool → Int → List Int → Int → Bool → Option (Bool × List Int × Int × Bool)
 | 0, _, _, _, _, _ => none
 | k + 1, x0, x2, x8, x9, x31 => if x31 = true then (some (false, ([] : List Int), 0, false)) else ((r02_Moved.f k x8 (wrap64 (-x9))).bind fun t333 => (if (t333.length : Int) > 8192 then (some (false, ([] : List Int), 0, false)) else (some (x0, t333, wrap64 (x2 + x9), true))))
def r03_Form.f (k : Nat) (a0 : Bool) (l1 : List Int) (a2 : Int) : Option (Bool × List Int × Int × Bool) := (r02_Norm.f k l1).bind fun t329 => (if (t329.length : Int) = 0 then (some (false, ([] : List Int), 0, true)) else ((r02_Low.f k t329).bind fun t332 => (if a2 > 1048576 then (r03_Form.j0 k a0 a2 t329 t332 true) else (if (wrap64 (a2 + t332)) > 1048576 then (r03_Form.j0 k a0 a2 t329 t332 true) else (r03_Form.j0 k a0 a2 t329 t332 (decide ((wrap64 (a2 + t332)) < (-1048576))))))))
theorem r03_Form.mono_l : ∀ k, (∀ y0 y1 y2 y3 y4, LeO (r03_Form.j0 k y0 y1 y2 y3 y4) (r03_Form.j0 (k + 1) y0 y1 y2 y3 y4))
 | 0 => fun _ _ _ _ _ r h => by simp [r03_Form.j0] at h
 | k + 1 => by
  have ih0:=r03_Form.mono_l k
  ·intro y0 y1 y2 y3 y4
   unfold r03_Form.j0
   repeat' first
   | (with_reducible exact ih0 _ _ _ _ _)
   | (with_reducible exact r02_Low.mono _ _)
   | (with_reducible exact r02_Moved.mono _ _ _)
   | (with_reducible exact r02_Norm.mono _ _)
   | (with_reducible exact LeO.refl _)
   | (with_reducible exact LeO.none _)
   | (with_reducible refine LeO.ite ?_ ?_)
   | (with_reducible refine LeO.bind ?_ (fun _ => ?_))
   | exact ih0 _ _ _ _ _
   | exact r02_Low.mono _ _
   | exact r02_Moved.mono _ _ _
   | exact r02_Norm.mono _ _
   | exact LeO.none _
   | refine LeO.ite ?_ ?_
   | refine LeO.bind ?_ (fun _ => ?_)
theorem r03_Form.mono : ∀ a0 a1 a2 k, LeO (r03_Form.f k a0 a1 a2) (r03_Form.f (k + 1) a0 a1 a2) := by
 intro a0 a1 a2 k
 have ih0:=r03_Form.mono_l k
 unfold r03_Form.f
 repeat' first
   | (with_reducible exact ih0 _ _ _ _ _)
   | (with_reducible exact r02_Low.mono _ _)
   | (with_reducible exact r02_Moved.mono _ _ _)
   | (with_reducible exact r02_Norm.mono _ _)
   | (with_reducible exact LeO.refl _)
   | (with_reducible exact LeO.none _)
   | (with_reducible refine LeO.ite ?_ ?_)
   | (with_reducible refine LeO.bind ?_ (fun _ => ?_))
   | exact ih0 _ _ _ _ _
   | exact r02_Low.mono _ _
   | exact r02_Moved.mono _ _ _
   | exact r02_Norm.mono _ _
   | exact LeO.none _
   | refine LeO.ite ?_ ?_
   | refine LeO.bind ?_ (fun _ => ?_)
set_option maxHeartbeats 3000000 in
set_option maxRecDepth 100000 in
theorem r03_Form.calls (k : Nat) (a0 : Bool) (A1 : Option Addr) (c1 : Nat) (l1 : List Int) (a2 : Int) (r1 : Bool) (r2 : List Int) (r3 : Int) (r4 : Bool) (w : World) (hr1 : Kd.C (Kd.int .u32) w A1 l1.length l1) (hc1 : l1.length ≤ c1) (h : r03_Form.f k a0 l1 a2 = some (r1, r2, r3, r4)) :
  Calls Try.prog 76 #[.bool a0,.slice A1 l1.length c1,.int .i64 a2] w fun e w'=>∃ v1_ : Value,e = .returned (.tuple #[.agg #[.bool r1,v1_,.int .i64 r3],.bool r4]) ∧ Kd.R (Kd.int .u32) 72 w' w.heap.size (fun _=>True) v1_ r2 ∧ Below w.heap.size w w':=by
 have hu43:=Try.underlying43
 have HR1:=Aside0.mk hr1
 have HC1:=Aside0.mk hc1
 clear hr1 hc1
 have HB:=Aside0.mk (Below.refl w.heap.size w)
 have H : ((r02_Norm.f k l1).bind fun t329=>(if (t329.length : Int) = 0 then (some (false,([] : List Int),0,true)) else ((r02_Low.f k t329).bind fun t332=>(if a2 > 1048576 then (r03_Form.j0 k a0 a2 t329 t332 true) else (if (wrap64 (a2 + t332)) > 1048576 then (r03_Form.j0 k a0 a2 t329 t332 true) else (r03_Form.j0 k a0 a2 t329 t332 (decide ((wrap64 (a2 + t332)) < (-1048576))))))))) = some (r1,r2,r3,r4):=h
 clear h
 obtain ⟨t329,A4,H⟩:=ob_ H
 try dsimp only at H
 by_cases c5 : (t329.length : Int) = 0
 ·rw [if_pos c5] at H
  have c5b0 : ((t329.length : Int) == 0) = true:=beq_iff_eq.mpr c5
  have c5b1 : ((t329.length : Int) != 0) = false:=bne_eq_false_iff_eq.mpr c5
  clear c5
  simp only [Option.some.injEq,Prod.mk.injEq] at H
  obtain ⟨rfl,rfl,rfl,rfl⟩:=H
  go_enter Try.func76,Try.ntmps76
  go_wp2_with (first|((with_reducible refine gate_dst (N:=6) rfl ?_);refine box_ev (N:=6) (cs:=#[.bool false,.slice none 0 0,.int .i64 0]) (t:=43) ?_;intro gb328 hg w6 hbox hb;have BK328:=Aside0.mk (hbox);have GW328:=ge_ HB hg;have GE328:=ge_ HB hg;replace HB:=bs_ HB hb;clear hb hbox hg)|((with_reducible refine gate_callee (f:=78) rfl ?_);refine goesM (some 11) Try.func78 #[.slice A1 l1.length c1] ?_;(with_reducible refine (r02_Norm.calls k _ _ l1 t329 _ ?side1 ?side2 A4.out).mono ?_);(case side1=>repeat (first|exact (Kd.C_below HR1.out HB.out)|(with_reducible first|apply cA|apply cN|apply cD)));(case side2=>exact HC1.out);rintro e w7 ⟨v330,rfl,ho0,hb⟩;refine ⟨_,rfl,?_⟩;have HO331:=Aside0.mk (Kd.R_lower ho0 (below_size (bl_ HB)));replace BK328:=kb_ BK328 hb;replace HB:=bs_ HB hb;(try clear hb);(try clear hb2);(try clear hk);(try clear hi);(try clear ho0);obtain ⟨Ao8,co8,eo8⟩:=Kd.R_slice HO331.out;subst eo8;have hcz9_0:=bc_ BK328 0;have hcz9_1:=bc_ BK328 1;have hcz9_2:=bc_ BK328 2;have hfz9_0:=bz_ BK328 0;have hfz9_1:=bz_ BK328 1;have hfz9_2:=bz_ BK328 2))
  refine bodyPost_ret (results_ct rfl _ _ gb328 43 #[.bool false,.slice none 0 0,.int .i64 0] (0,0) _ rfl (by (with_reducible repeat (first|apply bN|apply bD|apply bA));refine blk_put (cs:=#[.bool false,.slice none 0 0,.int .i64 0]) ?_ 2 _ rfl;(with_reducible repeat (first|apply bN|apply bD|apply bA));refine blk_put (cs:=#[.bool false,.slice none 0 0,.int .i64 0]) ?_ 1 _ rfl;(with_reducible repeat (first|apply bN|apply bD|apply bA));refine blk_put (cs:=#[.bool false,.slice none 0 0,.int .i64 0]) ?_ 0 _ rfl;exact bk_ BK328) Try.underlying43 rfl (by kernel_rfl)) rfl ?_
  exact ⟨_,rf_,by first|exact Kd.R_nil _ _ _ _ _|exact Kd.N_nil _ _ _ _ _|exact Kd.V_nil _ _ _ _ _|exact Kd.Q_nil _ _ _ _ _|exact Kd.S_nil _ _ _ _ _,bl_ HB⟩
 ·rw [if_neg c5] at H
  have c5b0 : ((t329.length : Int) == 0) = false:=beq_eq_false_iff_ne.mpr c5
  have c5b1 : ((t329.length : Int) != 0) = true:=bne_iff_ne.mpr c5
  have c5b2 : ¬ (t329 = []):=fun h_=>c5 (by rw [h_];rfl)
  obtain ⟨t332,A10,H⟩:=ob_ H
  try dsimp only at H
  have HC11:=Aside0.mk H
  clear H
  go_enter Try.func76,Try.ntmps76
  go_upto_region 5 with (first|((with_reducible refine gate_dst (N:=6) rfl ?_);refine box_ev (N:=6) (cs:=#[.bool false,.slice none 0 0,.int .i64 0]) (t:=43) ?_;intro gb328 hg w12 hbox hb;have BK328:=Aside0.mk (hbox);have GW328:=ge_ HB hg;have GE328:=ge_ HB hg;replace HB:=bs_ HB hb;clear hb hbox hg)|((with_reducible refine gate_callee (f:=78) rfl ?_);refine goesM (some 11) Try.func78 #[.slice A1 l1.length c1] ?_;(with_reducible refine (r02_Norm.calls k _ _ l1 t329 _ ?side1 ?side2 A4.out).mono ?_);(case side1=>repeat (first|exact (Kd.C_below HR1.out HB.out)|(with_reducible first|apply cA|apply cN|apply cD)));(case side2=>exact HC1.out);rintro e w13 ⟨v330,rfl,ho0,hb⟩;refine ⟨_,rfl,?_⟩;have HO331:=Aside0.mk (Kd.R_lower ho0 (below_size (bl_ HB)));replace BK328:=kb_ BK328 hb;replace HB:=bs_ HB hb;(try clear hb);(try clear hb2);(try clear hk);(try clear hi);(try clear ho0);obtain ⟨Ao14,co14,eo14⟩:=Kd.R_slice HO331.out;subst eo14)|((with_reducible refine gate_callee (f:=83) rfl ?_);refine goesM (some 17) Try.func83 #[.slice Ao14 t329.length co14] ?_;(with_reducible refine (r02_Low.calls k _ _ t329 t332 _ ?side1 ?side2 A10.out).mono ?_);(case side1=>repeat (first|exact (Kd.R_reads' HO331.out).2.2|(with_reducible first|apply cA|apply cN|apply cD)));(case side2=>exact (Kd.R_reads' HO331.out).2.1);rintro e w' ⟨rfl,⟨nd,rfl⟩⟩;refine ⟨_,rfl,?_⟩))
  (try simp only [Act.put,List.setIfInBounds_toArray,List.set_cons_zero,List.set_cons_succ])
  go_cut [31] (fun v31 wc=>∃ (kq : Nat) (x31_10 : Bool),v31 = .bool x31_10 ∧ Aside0 (r03_Form.j0 kq a0 a2 t329 t332 x31_10 = some (r1,r2,r3,r4)) ∧ Aside0 (kq ≤ k) ∧ Aside0 (Kd.R (Kd.int .u32) 72 wc w.heap.size (fun _=>True) (.slice Ao14 t329.length co14) t329) ∧ Aside0 (wc.heap[gb328]? = some (.cells #[.bool false,(.slice none 0 0),.int .i64 0] 43 (0,0))) ∧ Aside0 (Below w.heap.size w wc))
  case first =>
   have H:=HC11.out
   clear HC11
   by_cases c15 : a2 > 1048576
   ·rw [if_pos c15] at H
    have c15b0 : decide (1048576 < a2) = true:=decide_eq_true c15
    clear c15
    (first|rw [c15b0]|(simp only [i64_w,i32_w];rw [c15b0])|skip)
    have H':=Aside0.mk H
    clear H
    go_wp2
    go_meet
    case rel=>exact ⟨_,(true),(by first|rfl|(simp;done)|(simp [*];done)),H',⟨by first|omega|exact Nat.le_refl _⟩,⟨rr_ HO331⟩,⟨bk_ BK328⟩,⟨bl_ HB⟩⟩
   ·rw [if_neg c15] at H
    have c15b0 : decide (1048576 < a2) = false:=decide_eq_false c15
    clear c15
    (first|rw [c15b0]|(simp only [i64_w,i32_w];rw [c15b0])|skip)
    by_cases c16 : (wrap64 (a2 + t332)) > 1048576
    ·rw [if_pos c16] at H
     have c16b0 : decide (1048576 < (wrap64 (a2 + t332))) = true:=decide_eq_true c16
     clear c16
     have H':=Aside0.mk H
     clear H
     go_wp2
     go_meet
     case rel=>exact ⟨_,(true),(by first|rfl|(simp;done)|(simp [*];done)),H',⟨by first|omega|exact Nat.le_refl _⟩,⟨rr_ HO331⟩,⟨bk_ BK328⟩,⟨bl_ HB⟩⟩
    ·rw [if_neg c16] at H
     have c16b0 : decide (1048576 < (wrap64 (a2 + t332))) = false:=decide_eq_false c16
     clear c16
     have H':=Aside0.mk H
     clear H
     go_wp2
     go_meet
     case rel=>exact ⟨_,(decide ((wrap64 (a2 + t332)) < (-1048576))),(by first|rfl|(simp;done)|(simp [*];done)),H',⟨by first|omega|exact Nat.le_refl _⟩,⟨rr_ HO331⟩,⟨bk_ BK328⟩,⟨bl_ HB⟩⟩
  case rest =>
   clear HC11
   try clear c1
   try clear p2
   try clear c5
   try clear c5b0
   try clear c5b1
   try clear c5b2
   try clear p6
   try clear c7
   try clear c8
   try clear c15
   try clear c15b0
   try clear c16
   try clear c16b0
   try clear hcz9_0
   try clear hcz9_1
   try clear hcz9_2
   try clear hfz9_0
   try clear hfz9_1
   try clear hfz9_2
   obtain ⟨kq,x31_10,rfl,HA,HJ10,HO_8,BK328,HB⟩:=hcut
   cases kq with
   | zero => exact absurd HA.out (by simp [r03_Form.j0])
   | succ kj10 =>
    have H:=HA.out
    clear HA
    simp only [r03_Form.j0] at H
    by_cases c17 : x31_10 = true
    ·subst c17
     have H1 : (some (false,([] : List Int),0,false)) = some (r1,r2,r3,r4):=by rw [if_pos rfl] at H;exact H
     clear H
     have H:=H1
     clear H1
     simp only [Option.some.injEq,Prod.mk.injEq] at H
     obtain ⟨rfl,rfl,rfl,rfl⟩:=H
     have hcz18_0:=bc_ BK328 0
     have hcz18_1:=bc_ BK328 1
     have hcz18_2:=bc_ BK328 2
     have hfz18_0:=bz_ BK328 0
     have hfz18_1:=bz_ BK328 1
     have hfz18_2:=bz_ BK328 2
     go_wp2
     refine bodyPost_ret (results_ct rfl _ _ gb328 43 #[.bool false,.slice none 0 0,.int .i64 0] (0,0) _ rfl (by (with_reducible repeat (first|apply bN|apply bD|apply bA));refine blk_put (cs:=#[.bool false,.slice none 0 0,.int .i64 0]) ?_ 2 _ rfl;(with_reducible repeat (first|apply bN|apply bD|apply bA));refine blk_put (cs:=#[.bool false,.slice none 0 0,.int .i64 0]) ?_ 1 _ rfl;(with_reducible repeat (first|apply bN|apply bD|apply bA));refine blk_put (cs:=#[.bool false,.slice none 0 0,.int .i64 0]) ?_ 0 _ rfl;exact bk_ BK328) Try.underlying43 rfl (by kernel_rfl)) rfl ?_
     exact ⟨_,rf_,by first|exact Kd.R_nil _ _ _ _ _|exact Kd.N_nil _ _ _ _ _|exact Kd.V_nil _ _ _ _ _|exact Kd.Q_nil _ _ _ _ _|exact Kd.S_nil _ _ _ _ _,bl_ HB⟩
    ·replace c17:=Bool.eq_false_iff.mpr c17
     subst c17
     have H1 : ((r02_Moved.f kj10 t329 (wrap64 (-t332))).bind fun t333=>(if (t333.length : Int) > 8192 then (some (false,([] : List Int),0,false)) else (some (a0,t333,wrap64 (a2 + t332),true)))) = some (r1,r2,r3,r4):=by rw [if_neg (show ¬ (false = true) by decide)] at H;exact H
     clear H
     have H:=H1
     clear H1
     obtain ⟨t333,A19,H⟩:=ob_ H
     try dsimp only at H
     by_cases c20 : (t333.length : Int) > 8192
     ·rw [if_pos c20] at H
      have c20b0 : decide (8192 < (t333.length : Int)) = true:=decide_eq_true c20
      have c20b1 : decide (8192 < t333.length) = true:=decide_eq_true (by omega)
      clear c20
      simp only [Option.some.injEq,Prod.mk.injEq] at H
      obtain ⟨rfl,rfl,rfl,rfl⟩:=H
      go_wp2_with (first|((with_reducible refine gate_callee (f:=58) rfl ?_);refine goesM (some 36) Try.func58 #[.slice Ao14 t329.length co14,.int .i64 (wrap64 (-t332))] ?_;(with_reducible refine (r02_Moved.calls kj10 _ _ t329 (wrap64 (-t332)) t333 _ ?side1 ?side2 A19.out).mono ?_);(case side1=>repeat (first|exact (Kd.R_reads' HO_8.out).2.2|(with_reducible first|apply cA|apply cN|apply cD)));(case side2=>exact (Kd.R_reads' HO_8.out).2.1);rintro e w21 ⟨v334,rfl,ho0,hb⟩;refine ⟨_,rfl,?_⟩;have HO335:=Aside0.mk (Kd.R_lower (Kd.R_new' ho0 (Kd.R_lt (rr_ HO_8))) (below_size (bl_ HB)));replace HO_8:=Aside0.mk (Kd.R_elder' (rr_ HO_8) (Kd.R_base ho0) hb);replace BK328:=kb_ BK328 hb;replace HB:=bs_ HB hb;(try clear hb);(try clear hb2);(try clear hk);(try clear hi);(try clear ho0);obtain ⟨Ao22,co22,eo22⟩:=Kd.R_slice HO335.out;subst eo22;have hcz23_0:=bc_ BK328 0;have hcz23_1:=bc_ BK328 1;have hcz23_2:=bc_ BK328 2;have hfz23_0:=bz_ BK328 0;have hfz23_1:=bz_ BK328 1;have hfz23_2:=bz_ BK328 2))
      refine bodyPost_ret (results_ct rfl _ _ gb328 43 #[.bool false,.slice none 0 0,.int .i64 0] (0,0) _ rfl (by (with_reducible repeat (first|apply bN|apply bD|apply bA));refine blk_put (cs:=#[.bool false,.slice none 0 0,.int .i64 0]) ?_ 2 _ rfl;(with_reducible repeat (first|apply bN|apply bD|apply bA));refine blk_put (cs:=#[.bool false,.slice none 0 0,.int .i64 0]) ?_ 1 _ rfl;(with_reducible repeat (first|apply bN|apply bD|apply bA));refine blk_put (cs:=#[.bool false,.slice none 0 0,.int .i64 0]) ?_ 0 _ rfl;exact bk_ BK328) Try.underlying43 rfl (by kernel_rfl)) rfl ?_
      exact ⟨_,rf_,by first|exact Kd.R_nil _ _ _ _ _|exact Kd.N_nil _ _ _ _ _|exact Kd.V_nil _ _ _ _ _|exact Kd.Q_nil _ _ _ _ _|exact Kd.S_nil _ _ _ _ _,bl_ HB⟩
     ·rw [if_neg c20] at H
      have c20b0 : decide (8192 < (t333.length : Int)) = false:=decide_eq_false c20
      have c20b1 : decide (8192 < t333.length) = false:=decide_eq_false (by omega)
      clear c20
      simp only [Option.some.injEq,Prod.mk.injEq] at H
      obtain ⟨rfl,rfl,rfl,rfl⟩:=H
      go_wp2_with (first|((with_reducible refine gate_callee (f:=58) rfl ?_);refine goesM (some 36) Try.func58 #[.slice Ao14 t329.length co14,.int .i64 (wrap64 (-t332))] ?_;(with_reducible refine (r02_Moved.calls kj10 _ _ t329 (wrap64 (-t332)) t333 _ ?side1 ?side2 A19.out).mono ?_);(case side1=>repeat (first|exact (Kd.R_reads' HO_8.out).2.2|(with_reducible first|apply cA|apply cN|apply cD)));(case side2=>exact (Kd.R_reads' HO_8.out).2.1);rintro e w24 ⟨v334,rfl,ho0,hb⟩;refine ⟨_,rfl,?_⟩;have HO335:=Aside0.mk (Kd.R_lower (Kd.R_new' ho0 (Kd.R_lt (rr_ HO_8))) (below_size (bl_ HB)));replace HO_8:=Aside0.mk (Kd.R_elder' (rr_ HO_8) (Kd.R_base ho0) hb);replace BK328:=kb_ BK328 hb;replace HB:=bs_ HB hb;(try clear hb);(try clear hb2);(try clear hk);(try clear hi);(try clear ho0);obtain ⟨Ao25,co25,eo25⟩:=Kd.R_slice HO335.out;subst eo25;have hcz26_0:=bc_ BK328 0;have hcz26_1:=bc_ BK328 1;have hcz26_2:=bc_ BK328 2;have hfz26_0:=bz_ BK328 0;have hfz26_1:=bz_ BK328 1;have hfz26_2:=bz_ BK328 2))
      refine bodyPost_ret (results_ct rfl _ _ gb328 43 #[.bool a0,.slice Ao25 t333.length co25,.int .i64 (wrap64 (a2 + t332))] (0,0) _ rfl (by (with_reducible repeat (first|apply bN|apply bD|apply bA));refine blk_put (cs:=#[.bool a0,.slice Ao25 t333.length co25,.int .i64 0]) ?_ 2 _ rfl;(with_reducible repeat (first|apply bN|apply bD|apply bA));refine blk_put (cs:=#[.bool a0,.slice none 0 0,.int .i64 0]) ?_ 1 _ rfl;(with_reducible repeat (first|apply bN|apply bD|apply bA));refine blk_put (cs:=#[.bool false,.slice none 0 0,.int .i64 0]) ?_ 0 _ rfl;exact bk_ BK328) Try.underlying43 rfl (by kernel_rfl)) rfl ?_
      exact ⟨_,rf_,by (with_reducible repeat (first|apply rA|apply rN|apply rD));exact Kd.R_mono (Kd.R_far (p:=⟨gb328,2,none⟩) (Kd.R_far (p:=⟨gb328,1,none⟩) (Kd.R_far (p:=⟨gb328,0,none⟩) (Kd.R_types HO335.out BK328.out (by decide)) (fun _ hk=>hk.2) (.bool a0)) (fun _ hk=>hk.2) (.slice Ao25 t333.length co25)) (fun _ hk=>hk.2) (.int .i64 (wrap64 (a2 + t332)))) (fun _ hk=>trivial),bl_ HB⟩

def r03_Made.f (k : Nat) (a0_0 : Bool) (l0_1 : List Int) (a0_2 : Int) : Option (Bool × List Int × Int × Bool) := (r03_Form.f k a0_0 l0_1 a0_2).bind fun bt338 => (some (bt338.1, bt338.2.1, bt338.2.2.1, bt338.2.2.2))
theorem r03_Made.mono : ∀ a0 a1 a2 k, LeO (r03_Made.f k a0 a1 a2) (r03_Made.f (k + 1) a0 a1 a2) := by
 intro a0 a1 a2 k
 unfold r03_Made.f
 repeat' first
   | (with_reducible exact r03_Form.mono _ _ _ _)
   | (with_reducible exact LeO.refl _)
   | (with_reducible exact LeO.none _)
   | (with_reducible refine LeO.ite ?_ ?_)
   | (with_reducible refine LeO.bind ?_ (fun _ => ?_))
   | exact r03_Form.mono _ _ _ _
   | exact LeO.none _
   | refine LeO.ite ?_ ?_
   | refine LeO.bind ?_ (fun _ => ?_)
set_option maxHeartbeats 3000000 in
set_option maxRecDepth 100000 in
theorem r03_Made.calls (k : Nat) (a0_0 : Bool) (A0_1 : Option Addr) (c0_1 : Nat) (l0_1 : List Int) (a0_2 : Int) (r1 : Bool) (r2 : List Int) (r3 : Int) (r4 : Bool) (w : World) (hr0_1 : Kd.C (Kd.int .u32) w A0_1 l0_1.length l0_1) (hc0_1 : l0_1.length ≤ c0_1) (h : r03_Made.f k a0_0 l0_1 a0_2 = some (r1, r2, r3, r4)) :
  Calls Try.prog 57 #[.agg #[.bool a0_0,.slice A0_1 l0_1.length c0_1,.int .i64 a0_2]] w fun e w'=>∃ v1_ : Value,e = .returned (.tuple #[.agg #[.bool r1,v1_,.int .i64 r3],.bool r4]) ∧ Kd.R (Kd.int .u32) 72 w' w.heap.size (fun _=>True) v1_ r2 ∧ Below w.heap.size w w':=by
 have hu43:=Try.underlying43
 have HR0_1:=Aside0.mk hr0_1
 have HC0_1:=Aside0.mk hc0_1
 clear hr0_1 hc0_1
 have HB:=Aside0.mk (Below.refl w.heap.size w)
 have H : ((r03_Form.f k a0_0 l0_1 a0_2).bind fun bt338=>(some (bt338.1,bt338.2.1,bt338.2.2.1,bt338.2.2.2))) = some (r1,r2,r3,r4):=h
 clear h
 obtain ⟨⟨t338,t339,t342,t343⟩,A2,H⟩:=ob_ H
 try dsimp only at H
 simp only [Option.some.injEq,Prod.mk.injEq] at H
 obtain ⟨rfl,rfl,rfl,rfl⟩:=H
 go_enter Try.func57,Try.ntmps57
 go_wp2_with (first|((with_reducible refine gate_dst (N:=1) rfl ?_);refine box_ev (N:=1) (cs:=#[.bool a0_0,.slice A0_1 l0_1.length c0_1,.int .i64 a0_2]) (t:=43) ?_;intro gb336 hg w3 hbox hb;have BK336:=Aside0.mk (hbox);have GW336:=ge_ HB hg;have GE336:=ge_ HB hg;replace HB:=bs_ HB hb;clear hb hbox hg)|((with_reducible refine gate_dst (N:=2) rfl ?_);refine box_ev (N:=2) (cs:=#[.bool false,.slice none 0 0,.int .i64 0]) (t:=43) ?_;intro gb337 hg w4 hbox hb;have BK337:=Aside0.mk (hbox);have GW337:=ge_ HB hg;have GE337:=ge_ HB hg;replace HB:=bs_ HB hb;have NB336_337:=nlt_ BK336 hg;have NB337_336:=ngt_ BK336 hg;replace BK336:=kb_ BK336 hb;clear hb hbox hg;have hnb5:=NB336_337.out;have hnc5:=NB337_336.out;have hcz6_0:=bc_ BK336 0;have hcz6_1:=bc_ BK336 1;have hcz6_2:=bc_ BK336 2;have hfz6_0:=bz_ BK336 0;have hfz6_1:=bz_ BK336 1;have hfz6_2:=bz_ BK336 2)|((with_reducible refine gate_callee (f:=76) rfl ?_);refine goesM (some 10) Try.func76 #[.bool a0_0,.slice A0_1 l0_1.length c0_1,.int .i64 a0_2] ?_;(with_reducible refine (r03_Form.calls k a0_0 _ _ l0_1 a0_2 t338 t339 t342 t343 _ ?side1 ?side2 A2.out).mono ?_);(case side1=>repeat (first|exact (Kd.C_below HR0_1.out HB.out)|(with_reducible first|apply cA|apply cN|apply cD)));(case side2=>exact HC0_1.out);rintro e w7 ⟨v340,rfl,ho0,hb⟩;refine ⟨_,rfl,?_⟩;have HO341:=Aside0.mk (Kd.R_lower ho0 (below_size (bl_ HB)));replace BK336:=kb_ BK336 hb;replace BK337:=kb_ BK337 hb;replace HB:=bs_ HB hb;(try clear hb);(try clear hb2);(try clear hk);(try clear hi);(try clear ho0);have hcz8_0:=bc_ BK337 0;have hcz8_1:=bc_ BK337 1;have hcz8_2:=bc_ BK337 2;have hfz8_0:=bz_ BK337 0;have hfz8_1:=bz_ BK337 1;have hfz8_2:=bz_ BK337 2;obtain ⟨Ao9,co9,eo9⟩:=Kd.R_slice HO341.out;subst eo9))
 refine bodyPost_ret (results_ct rfl _ _ gb337 43 #[.bool t338,.slice Ao9 t339.length co9,.int .i64 t342] (0,0) _ rfl (by (with_reducible repeat (first|apply bN|apply bD|apply bA));refine blk_put (cs:=#[.bool t338,.slice Ao9 t339.length co9,.int .i64 0]) ?_ 2 _ rfl;(with_reducible repeat (first|apply bN|apply bD|apply bA));refine blk_put (cs:=#[.bool t338,.slice none 0 0,.int .i64 0]) ?_ 1 _ rfl;(with_reducible repeat (first|apply bN|apply bD|apply bA));refine blk_put (cs:=#[.bool false,.slice none 0 0,.int .i64 0]) ?_ 0 _ rfl;exact bk_ BK337) Try.underlying43 rfl (by kernel_rfl)) rfl ?_
 exact ⟨_,rf_,by (with_reducible repeat (first|apply rA|apply rN|apply rD));exact Kd.R_mono (Kd.R_far (p:=⟨gb337,2,none⟩) (Kd.R_far (p:=⟨gb337,1,none⟩) (Kd.R_far (p:=⟨gb337,0,none⟩) (Kd.R_types HO341.out BK337.out (by decide)) (fun _ hk=>hk.2) (.bool t338)) (fun _ hk=>hk.2) (.slice Ao9 t339.length co9)) (fun _ hk=>hk.2) (.int .i64 t342)) (fun _ hk=>trivial),bl_ HB⟩

def r03_told.f (k : Nat) (a0 : Bool) (l1 : List Int) (a2 : Int) : Option (Bool × List Int × Int × Int) := (r03_Form.f k a0 l1 a2).bind fun bt345 => (if bt345.2.2.2 = true then (some (bt345.1, bt345.2.1, bt345.2.2.1, 0)) else (some (false, ([] : List Int), 0, 2)))
theorem r03_told.mono : ∀ a0 a1 a2 k, LeO (r03_told.f k a0 a1 a2) (r03_told.f (k + 1) a0 a1 a2) := by
 intro a0 a1 a2 k
 unfold r03_told.f
 repeat' first
   | (with_reducible exact r03_Form.mono _ _ _ _)
   | (with_reducible exact LeO.refl _)
   | (with_reducible exact LeO.none _)
   | (with_reducible refine LeO.ite ?_ ?_)
   | (with_reducible refine LeO.bind ?_ (fun _ => ?_))
   | exact r03_Form.mono _ _ _ _
   | exact LeO.none _
   | refine LeO.ite ?_ ?_
   | refine LeO.bind ?_ (fun _ => ?_)
set_option maxHeartbeats 3000000 in
set_option maxRecDepth 100000 in
theorem r03_told.calls (k : Nat) (a0 : Bool) (A1 : Option Addr) (c1 : Nat) (l1 : List Int) (a2 : Int) (r1 : Bool) (r2 : List Int) (r3 : Int) (r4 : Int) (w : World) (hr1 : Kd.C (Kd.int .u32) w A1 l1.length l1) (hc1 : l1.length ≤ c1) (h : r03_told.f k a0 l1 a2 = some (r1, r2, r3, r4)) :
  Calls Try.prog 59 #[.bool a0,.slice A1 l1.length c1,.int .i64 a2] w fun e w'=>∃ v1_ : Value,e = .returned (.tuple #[.agg #[.bool r1,v1_,.int .i64 r3],.int .i64 r4]) ∧ Kd.R (Kd.int .u32) 72 w' w.heap.size (fun _=>True) v1_ r2 ∧ Below w.heap.size w w':=by
 have hu43:=Try.underlying43
 have HR1:=Aside0.mk hr1
 have HC1:=Aside0.mk hc1
 clear hr1 hc1
 have HB:=Aside0.mk (Below.refl w.heap.size w)
 have H : ((r03_Form.f k a0 l1 a2).bind fun bt345=>(if bt345.2.2.2 = true then (some (bt345.1,bt345.2.1,bt345.2.2.1,0)) else (some (false,([] : List Int),0,2)))) = some (r1,r2,r3,r4):=h
 clear h
 obtain ⟨⟨t345,t346,t349,t350⟩,A4,H⟩:=ob_ H
 try dsimp only at H
 by_cases c5 : t350 = true
 ·subst c5
  have H1 : (some (t345,t346,t349,0)) = some (r1,r2,r3,r4):=by rw [if_pos rfl] at H;exact H
  clear H
  have H:=H1
  clear H1
  simp only [Option.some.injEq,Prod.mk.injEq] at H
  obtain ⟨rfl,rfl,rfl,rfl⟩:=H
  go_enter Try.func59,Try.ntmps59
  go_wp2_with (first|((with_reducible refine gate_dst (N:=6) rfl ?_);refine box_ev (N:=6) (cs:=#[.bool false,.slice none 0 0,.int .i64 0]) (t:=43) ?_;intro gb344 hg w6 hbox hb;have BK344:=Aside0.mk (hbox);have GW344:=ge_ HB hg;have GE344:=ge_ HB hg;replace HB:=bs_ HB hb;clear hb hbox hg)|((with_reducible refine gate_callee (f:=76) rfl ?_);refine goesM (some 14) Try.func76 #[.bool a0,.slice A1 l1.length c1,.int .i64 a2] ?_;(with_reducible refine (r03_Form.calls k a0 _ _ l1 a2 t345 t346 t349 true _ ?side1 ?side2 A4.out).mono ?_);(case side1=>repeat (first|exact (Kd.C_below HR1.out HB.out)|(with_reducible first|apply cA|apply cN|apply cD)));(case side2=>exact HC1.out);rintro e w7 ⟨v347,rfl,ho0,hb⟩;refine ⟨_,rfl,?_⟩;have HO348:=Aside0.mk (Kd.R_lower ho0 (below_size (bl_ HB)));replace BK344:=kb_ BK344 hb;replace HB:=bs_ HB hb;(try clear hb);(try clear hb2);(try clear hk);(try clear hi);(try clear ho0))|((with_reducible refine gate_dst (N:=8) rfl ?_);refine box_ev (N:=8) (cs:=#[.bool false,.slice none 0 0,.int .i64 0]) (t:=43) ?_;intro gb351 hg w8 hbox hb;replace HO348:=Aside0.mk (Kd.R_below (rr_ HO348) hb);have BK351:=Aside0.mk (hbox);have GW351:=ge_ HB hg;have GE351:=ge_ HB hg;replace HB:=bs_ HB hb;have NB344_351:=nlt_ BK344 hg;have NB351_344:=ngt_ BK344 hg;replace BK344:=kb_ BK344 hb;clear hb hbox hg;have hnb9:=NB351_344.out;have hnc9:=NB344_351.out;have hcz10_0:=bc_ BK351 0;have hcz10_1:=bc_ BK351 1;have hcz10_2:=bc_ BK351 2;have hfz10_0:=bz_ BK351 0;have hfz10_1:=bz_ BK351 1;have hfz10_2:=bz_ BK351 2;obtain ⟨Ao11,co11,eo11⟩:=Kd.R_slice HO348.out;subst eo11;have hcz12_0:=bc_ BK344 0;have hcz12_1:=bc_ BK344 1;have hcz12_2:=bc_ BK344 2;have hfz12_0:=bz_ BK344 0;have hfz12_1:=bz_ BK344 1;have hfz12_2:=bz_ BK344 2))
  refine bodyPost_ret (results_ct rfl _ _ gb344 43 #[.bool t345,.slice Ao11 t346.length co11,.int .i64 t349] (0,0) _ rfl (by (with_reducible repeat (first|apply bN|apply bD|apply bA));refine blk_put (cs:=#[.bool t345,.slice Ao11 t346.length co11,.int .i64 0]) ?_ 2 _ rfl;(with_reducible repeat (first|apply bN|apply bD|apply bA));refine blk_put (cs:=#[.bool t345,.slice none 0 0,.int .i64 0]) ?_ 1 _ rfl;(with_reducible repeat (first|apply bN|apply bD|apply bA));refine blk_put (cs:=#[.bool false,.slice none 0 0,.int .i64 0]) ?_ 0 _ rfl;(with_reducible repeat (first|apply bN|apply bD|apply bA));refine blk_far ?_ NB344_351.out _;(with_reducible repeat (first|apply bN|apply bD|apply bA));refine blk_far ?_ NB344_351.out _;(with_reducible repeat (first|apply bN|apply bD|apply bA));refine blk_far ?_ NB344_351.out _;exact bk_ BK344) Try.underlying43 rfl (by kernel_rfl)) rfl ?_
  exact ⟨_,rf_,by (with_reducible repeat (first|apply rA|apply rN|apply rD));exact Kd.R_mono (Kd.R_far (p:=⟨gb344,2,none⟩) (Kd.R_far (p:=⟨gb344,1,none⟩) (Kd.R_far (p:=⟨gb344,0,none⟩) (Kd.R_far (p:=⟨gb351,2,none⟩) (Kd.R_far (p:=⟨gb351,1,none⟩) (Kd.R_far (p:=⟨gb351,0,none⟩) (Kd.R_types (Kd.R_types HO348.out BK351.out (by decide)) BK344.out (by decide)) (fun _ hk=>hk.1.2) (.bool t345)) (fun _ hk=>hk.1.2) (.slice Ao11 t346.length co11)) (fun _ hk=>hk.1.2) (.int .i64 t349)) (fun _ hk=>hk.2) (.bool t345)) (fun _ hk=>hk.2) (.slice Ao11 t346.length co11)) (fun _ hk=>hk.2) (.int .i64 t349)) (fun _ hk=>trivial),bl_ HB⟩
 ·replace c5:=Bool.eq_false_iff.mpr c5
  subst c5
  have H1 : (some (false,([] : List Int),0,2)) = some (r1,r2,r3,r4):=by rw [if_neg (show ¬ (false = true) by decide)] at H;exact H
  clear H
  have H:=H1
  clear H1
  simp only [Option.some.injEq,Prod.mk.injEq] at H
  obtain ⟨rfl,rfl,rfl,rfl⟩:=H
  go_enter Try.func59,Try.ntmps59
  go_wp2_with (first|((with_reducible refine gate_dst (N:=6) rfl ?_);refine box_ev (N:=6) (cs:=#[.bool false,.slice none 0 0,.int .i64 0]) (t:=43) ?_;intro gb344 hg w13 hbox hb;have BK344:=Aside0.mk (hbox);have GW344:=ge_ HB hg;have GE344:=ge_ HB hg;replace HB:=bs_ HB hb;clear hb hbox hg)|((with_reducible refine gate_callee (f:=76) rfl ?_);refine goesM (some 14) Try.func76 #[.bool a0,.slice A1 l1.length c1,.int .i64 a2] ?_;(with_reducible refine (r03_Form.calls k a0 _ _ l1 a2 t345 t346 t349 false _ ?side1 ?side2 A4.out).mono ?_);(case side1=>repeat (first|exact (Kd.C_below HR1.out HB.out)|(with_reducible first|apply cA|apply cN|apply cD)));(case side2=>exact HC1.out);rintro e w14 ⟨v347,rfl,ho0,hb⟩;refine ⟨_,rfl,?_⟩;have HO348:=Aside0.mk (Kd.R_lower ho0 (below_size (bl_ HB)));replace BK344:=kb_ BK344 hb;replace HB:=bs_ HB hb;(try clear hb);(try clear hb2);(try clear hk);(try clear hi);(try clear ho0))|((with_reducible refine gate_dst (N:=8) rfl ?_);refine box_ev (N:=8) (cs:=#[.bool false,.slice none 0 0,.int .i64 0]) (t:=43) ?_;intro gb351 hg w15 hbox hb;replace HO348:=Aside0.mk (Kd.R_below (rr_ HO348) hb);have BK351:=Aside0.mk (hbox);have GW351:=ge_ HB hg;have GE351:=ge_ HB hg;replace HB:=bs_ HB hb;have NB344_351:=nlt_ BK344 hg;have NB351_344:=ngt_ BK344 hg;replace BK344:=kb_ BK344 hb;clear hb hbox hg;have hnb16:=NB351_344.out;have hnc16:=NB344_351.out;have hcz17_0:=bc_ BK351 0;have hcz17_1:=bc_ BK351 1;have hcz17_2:=bc_ BK351 2;have hfz17_0:=bz_ BK351 0;have hfz17_1:=bz_ BK351 1;have hfz17_2:=bz_ BK351 2;obtain ⟨Ao18,co18,eo18⟩:=Kd.R_slice HO348.out;subst eo18;have hcz19_0:=bc_ BK344 0;have hcz19_1:=bc_ BK344 1;have hcz19_2:=bc_ BK344 2;have hfz19_0:=bz_ BK344 0;have hfz19_1:=bz_ BK344 1;have hfz19_2:=bz_ BK344 2))
  refine bodyPost_ret (results_ct rfl _ _ gb344 43 #[.bool false,.slice none 0 0,.int .i64 0] (0,0) _ rfl (by (with_reducible repeat (first|apply bN|apply bD|apply bA));refine blk_put (cs:=#[.bool false,.slice none 0 0,.int .i64 0]) ?_ 2 _ rfl;(with_reducible repeat (first|apply bN|apply bD|apply bA));refine blk_put (cs:=#[.bool false,.slice none 0 0,.int .i64 0]) ?_ 1 _ rfl;(with_reducible repeat (first|apply bN|apply bD|apply bA));refine blk_put (cs:=#[.bool false,.slice none 0 0,.int .i64 0]) ?_ 0 _ rfl;(with_reducible repeat (first|apply bN|apply bD|apply bA));refine blk_far ?_ NB344_351.out _;(with_reducible repeat (first|apply bN|apply bD|apply bA));refine blk_far ?_ NB344_351.out _;(with_reducible repeat (first|apply bN|apply bD|apply bA));refine blk_far ?_ NB344_351.out _;exact bk_ BK344) Try.underlying43 rfl (by kernel_rfl)) rfl ?_
  exact ⟨_,rf_,by first|exact Kd.R_nil _ _ _ _ _|exact Kd.N_nil _ _ _ _ _|exact Kd.V_nil _ _ _ _ _|exact Kd.Q_nil _ _ _ _ _|exact Kd.S_nil _ _ _ _ _,bl_ HB⟩

end Go.Proofs.Ytdemanikmaafeaa.Pr
-- written by this session's own program (wip/fprint.py), which widens the kit's print by floats
namespace Go.Proofs.Ytdemanikmaafeaa.Pr
open Go.RowKit Go.Proofs.YtdemanikmaafeaaW.PrintWords Go.Proofs.YtdemanikmaafeaaW.PrintLast Go.Proofs.YtdemanikmaafeaaW.PrintMore
attribute [local go_sem] max2_int min2_int max_two min_two max_three min_three max_four min_four   -- for this text's walks alone
set_option linter.unusedVariables false
set_option linter.unusedSimpArgs false

mutual
def r02_Plus.l0 : Nat → List Int → List Int → List Int → Int → Int → Option (List Int)
 | 0, _, _, _, _, _ => none
 | k + 1, x0, x1, x5, x6, x7 => if x7 < (x0.length : Int) then (r02_Plus.j1 k x0 x1 x5 x6 x7 true) else (if x7 < (x1.length : Int) then (r02_Plus.j1 k x0 x1 x5 x6 x7 true) else (r02_Plus.j1 k x0 x1 x5 x6 x7 (decide (x6 > 0))))
def r02_Plus.j1 : Nat → List Int → List Int → List Int → Int → Int → Bool → Option (List Int)
 | 0, _, _, _, _, _, _ => none
 | k + 1, x0, x1, x5, x6, x7, x22 => if x22 = true then ((r02_at.f x0 x7).bind fun t352 => ((r02_at.f x1 x7).bind fun t353 => (if x5.length < 35184372088832 then (r02_Plus.l0 k x0 x1 (x5 ++ [(IntKind.u64.wrap ((IntKind.u64.wrap (t352 + t353)) + x6)) % 4294967296]) ((IntKind.u64.wrap ((IntKind.u64.wrap (t352 + t353)) + x6)) / 4294967296) (wrap64 (x7 + 1))) else (none)))) else ((r02_Norm.f k x5).bind fun t357 => (some t357))
end
def r02_Plus.f (k : Nat) (l0 : List Int) (l1 : List Int) : Option (List Int) := r02_Plus.l0 k l0 l1 ([] : List Int) 0 0
theorem r02_Plus.mono_l : ∀ k, (∀ y0 y1 y2 y3 y4, LeO (r02_Plus.l0 k y0 y1 y2 y3 y4) (r02_Plus.l0 (k + 1) y0 y1 y2 y3 y4)) ∧ (∀ y0 y1 y2 y3 y4 y5, LeO (r02_Plus.j1 k y0 y1 y2 y3 y4 y5) (r02_Plus.j1 (k + 1) y0 y1 y2 y3 y4 y5))
 | 0 => ⟨fun _ _ _ _ _ r h => by simp [r02_Plus.l0] at h, fun _ _ _ _ _ _ r h => by simp [r02_Plus.j1] at h⟩
 | k + 1 => by
  obtain ⟨ih0,ih1⟩:=r02_Plus.mono_l k
  refine ⟨?_,?_⟩
  ·intro y0 y1 y2 y3 y4
   unfold r02_Plus.l0
   repeat' first
   | (with_reducible exact ih0 _ _ _ _ _)
   | (with_reducible exact ih1 _ _ _ _ _ _)
   | (with_reducible exact r02_Norm.mono _ _)
   | (with_reducible exact LeO.refl _)
   | (with_reducible exact LeO.none _)
   | (with_reducible refine LeO.ite ?_ ?_)
   | (with_reducible refine LeO.bind ?_ (fun _ => ?_))
   | exact ih0 _ _ _ _ _
   | exact ih1 _ _ _ _ _ _
   | exact r02_Norm.mono _ _
   | exact LeO.none _
   | refine LeO.ite ?_ ?_
   | refine LeO.bind ?_ (fun _ => ?_)
  ·intro y0 y1 y2 y3 y4 y5
   unfold r02_Plus.j1
   repeat' first
   | (with_reducible exact ih0 _ _ _ _ _)
   | (with_reducible exact ih1 _ _ _ _ _ _)
   | (with_reducible exact r02_Norm.mono _ _)
   | (with_reducible exact LeO.refl _)
   | (with_reducible exact LeO.none _)
   | (with_reducible refine LeO.ite ?_ ?_)
   | (with_reducible refine LeO.bind ?_ (fun _ => ?_))
   | exact ih0 _ _ _ _ _
   | exact ih1 _ _ _ _ _ _
   | exact r02_Norm.mono _ _
   | exact LeO.none _
   | refine LeO.ite ?_ ?_
   | refine LeO.bind ?_ (fun _ => ?_)
theorem r02_Plus.mono : ∀ a0 a1 k, LeO (r02_Plus.f k a0 a1) (r02_Plus.f (k + 1) a0 a1) := by
 intro a0 a1 k
 obtain ⟨ih0,ih1⟩:=r02_Plus.mono_l k
 unfold r02_Plus.f
 repeat' first
   | (with_reducible exact ih0 _ _ _ _ _)
   | (with_reducible exact ih1 _ _ _ _ _ _)
   | (with_reducible exact r02_Norm.mono _ _)
   | (with_reducible exact LeO.refl _)
   | (with_reducible exact LeO.none _)
   | (with_reducible refine LeO.ite ?_ ?_)
   | (with_reducible refine LeO.bind ?_ (fun _ => ?_))
   | exact ih0 _ _ _ _ _
   | exact ih1 _ _ _ _ _ _
   | exact r02_Norm.mono _ _
   | exact LeO.none _
   | refine LeO.ite ?_ ?_
   | refine LeO.bind ?_ (fun _ => ?_)
set_option maxHeartbeats 3000000 in
set_option maxRecDepth 100000 in
theorem r02_Plus.calls (k : Nat) (A0 : Option Addr) (c0 : Nat) (l0 : List Int) (A1 : Option Addr) (c1 : Nat) (l1 : List Int) (r : List Int) (w : World) (hr0 : Kd.C (Kd.int .u32) w A0 l0.length l0) (hc0 : l0.length ≤ c0) (hr1 : Kd.C (Kd.int .u32) w A1 l1.length l1) (hc1 : l1.length ≤ c1) (h : r02_Plus.f k l0 l1 = some r) :
  Calls Try.prog 60 #[.slice A0 l0.length c0,.slice A1 l1.length c1] w fun e w'=>∃ v0_ : Value,e = .returned (v0_) ∧ Kd.R (Kd.int .u32) 72 w' w.heap.size (fun _=>True) v0_ r ∧ Below w.heap.size w w':=by
 have HR0:=Aside0.mk hr0
 have HC0:=Aside0.mk hc0
 clear hr0 hc0
 have HR1:=Aside0.mk hr1
 have HC1:=Aside0.mk hc1
 clear hr1 hc1
 have HB:=Aside0.mk (Below.refl w.heap.size w)
 have H : (r02_Plus.l0 k l0 l1 ([] : List Int) 0 0) = some r:=h
 clear h
 have H':=Aside0.mk H
 clear H
 go_enter Try.func60,Try.ntmps60
 go_wp2
 go_loopg [5,6,7] k (fun kq v5 v6 v7 w'=>∃ (x5_1 : List Int) (x6_1 : Int) (x7_1 : Int),v6 = .int .u64 x6_1 ∧ v7 = .int .i64 x7_1 ∧ Aside0 (r02_Plus.l0 kq l0 l1 x5_1 x6_1 x7_1 = some r) ∧ Aside0 (kq ≤ k) ∧ Aside0 (Kd.R (Kd.int .u32) 72 w' w.heap.size (fun _=>True) v5 x5_1) ∧ Aside0 (Below w.heap.size w w'))
 case atStart=>exact ⟨(([] : List Int)),(0),(0),(by first|rfl|(simp;done)|(simp [*];done)),(by first|rfl|(simp;done)|(simp [*];done)),H',⟨Nat.le_refl _⟩,⟨by first|exact Kd.R_nil _ _ _ _ _|exact Kd.N_nil _ _ _ _ _|exact Kd.V_nil _ _ _ _ _|exact Kd.Q_nil _ _ _ _ _|exact Kd.S_nil _ _ _ _ _⟩,⟨bl_ HB⟩⟩
 case round =>
  clear H'
  try clear c1
  try clear p2
  obtain ⟨x5_1,x6_1,x7_1,rfl,rfl,HA,HK1,HO_5,HB⟩:=hrel
  cases gk with
  | zero => exact absurd HA.out (by simp [r02_Plus.l0])
  | succ k1 =>
   have H:=HA.out
   clear HA
   simp only [r02_Plus.l0] at H
   have HC3:=Aside0.mk H
   clear H
   go_upto_region 4 with (fail)
   go_cut [22] (fun v22 wc=>∃ (kq : Nat) (x22_2 : Bool),v22 = .bool x22_2 ∧ Aside0 (r02_Plus.j1 kq l0 l1 x5_1 x6_1 x7_1 x22_2 = some r) ∧ Aside0 (kq ≤ k1) ∧ Aside0 (Kd.R (Kd.int .u32) 72 wc w.heap.size (fun _=>True) u5 x5_1) ∧ Aside0 (Below w.heap.size w wc))
   case first =>
    have H:=HC3.out
    clear HC3
    by_cases c4 : x7_1 < (l0.length : Int)
    ·rw [if_pos c4] at H
     have c4b0 : decide (x7_1 < (l0.length : Int)) = true:=decide_eq_true c4
     clear c4
     (first|rw [c4b0]|(simp only [i64_w,i32_w];rw [c4b0])|skip)
     have H':=Aside0.mk H
     clear H
     go_wp2
     go_meet
     case rel=>exact ⟨_,(true),(by first|rfl|(simp;done)|(simp [*];done)),H',⟨by have:=HK1.out;first|omega|exact Nat.le_refl _⟩,⟨rr_ HO_5⟩,⟨bl_ HB⟩⟩
    ·rw [if_neg c4] at H
     have c4b0 : decide (x7_1 < (l0.length : Int)) = false:=decide_eq_false c4
     clear c4
     (first|rw [c4b0]|(simp only [i64_w,i32_w];rw [c4b0])|skip)
     by_cases c5 : x7_1 < (l1.length : Int)
     ·rw [if_pos c5] at H
      have c5b0 : decide (x7_1 < (l1.length : Int)) = true:=decide_eq_true c5
      clear c5
      have H':=Aside0.mk H
      clear H
      go_wp2
      go_meet
      case rel=>exact ⟨_,(true),(by first|rfl|(simp;done)|(simp [*];done)),H',⟨by have:=HK1.out;first|omega|exact Nat.le_refl _⟩,⟨rr_ HO_5⟩,⟨bl_ HB⟩⟩
     ·rw [if_neg c5] at H
      have c5b0 : decide (x7_1 < (l1.length : Int)) = false:=decide_eq_false c5
      clear c5
      have H':=Aside0.mk H
      clear H
      go_wp2
      go_meet
      case rel=>exact ⟨_,(decide (x6_1 > 0)),(by first|rfl|(simp;done)|(simp [*];done)),H',⟨by have:=HK1.out;first|omega|exact Nat.le_refl _⟩,⟨rr_ HO_5⟩,⟨bl_ HB⟩⟩
   case rest =>
    clear HC3
    try clear c1
    try clear p2
    try clear c4
    try clear c4b0
    try clear c5
    try clear c5b0
    try clear p2
    obtain ⟨kq,x22_2,rfl,HA,HJ2,HO_5,HB⟩:=hcut
    cases kq with
    | zero => exact absurd HA.out (by simp [r02_Plus.j1])
    | succ kj2 =>
     have H:=HA.out
     clear HA
     simp only [r02_Plus.j1] at H
     by_cases c6 : x22_2 = true
     ·subst c6
      have H1 : ((r02_at.f l0 x7_1).bind fun t352=>((r02_at.f l1 x7_1).bind fun t353=>(if x5_1.length < 35184372088832 then (r02_Plus.l0 kj2 l0 l1 (x5_1 ++ [(IntKind.u64.wrap ((IntKind.u64.wrap (t352 + t353)) + x6_1)) % 4294967296]) ((IntKind.u64.wrap ((IntKind.u64.wrap (t352 + t353)) + x6_1)) / 4294967296) (wrap64 (x7_1 + 1))) else (none)))) = some r:=by rw [if_pos rfl] at H;exact H
      clear H
      have H:=H1
      clear H1
      obtain ⟨t352,A7,H⟩:=ob_ H
      try dsimp only at H
      obtain ⟨t353,A8,H⟩:=ob_ H
      try dsimp only at H
      by_cases c9 : x5_1.length < 35184372088832
      ·rw [if_pos c9] at H
       have LMc9:=Aside0.mk c9
       clear c9
       obtain ⟨y354,hy354⟩ : ∃ y_ : List Int,y_ = (x5_1 ++ [(IntKind.u64.wrap ((IntKind.u64.wrap (t352 + t353)) + x6_1)) % 4294967296]):=⟨_,rfl⟩
       replace H : (r02_Plus.l0 kj2 l0 l1 y354 ((IntKind.u64.wrap ((IntKind.u64.wrap (t352 + t353)) + x6_1)) / 4294967296) (wrap64 (x7_1 + 1))) = some r:=by first|(rw [hy354];with_reducible exact H)|(have H2_:=(Option.bind_some _ _).symm.trans H;rw [hy354];with_reducible exact H2_)|(have H2_:=(Option.bind_some _ _).symm.trans H;with_reducible exact H2_)|with_reducible exact H|(rw [hy354];exact H)|exact H
       have Ny354:=Aside0.mk hy354
       clear hy354
       have H':=Aside0.mk H
       clear H
       go_wp2_with (first|((with_reducible refine gate_callee (f:=79) rfl ?_);refine goesM (some 27) Try.func79 #[.slice A0 l0.length c0,.int .i64 x7_1] ?_;(with_reducible refine (r02_at.calls _ _ l0 x7_1 t352 _ ?side1 ?side2 A7.out).mono ?_);(case side1=>repeat (first|exact (Kd.C_below HR0.out HB.out)|(with_reducible first|apply cA|apply cN|apply cD)));(case side2=>exact HC0.out);rintro e w' ⟨rfl,⟨nd,rfl⟩⟩;refine ⟨_,rfl,?_⟩)|((with_reducible refine gate_callee (f:=79) rfl ?_);refine goesM (some 30) Try.func79 #[.slice A1 l1.length c1,.int .i64 x7_1] ?_;(with_reducible refine (r02_at.calls _ _ l1 x7_1 t353 _ ?side1 ?side2 A8.out).mono ?_);(case side1=>repeat (first|exact (Kd.C_below HR1.out (bl_ HB))|(with_reducible first|apply cA|apply cN|apply cD)));(case side2=>exact HC1.out);rintro e w' ⟨rfl,⟨nd,rfl⟩⟩;refine ⟨_,rfl,?_⟩)|((with_reducible refine gate_builtin (b:=.append) (xs:=#[.tmp 34,.tmp 37]) rfl ?_);(try (refine gate_guard (by rfl) ?_;dsimp only));at_builtin;refine Kd.R_append (Kd.int .u32) (w0:=w) w.heap.size rfl (.tmp 34) (.tmp 37) 41 72 (.int .u32 0) 4 rfl Try.underlying41 info72 rfl (by decide) (by omega) u5 x5_1 ((IntKind.u64.wrap ((IntKind.u64.wrap (t352 + t353)) + x6_1)) % 4294967296) [.int .u32 ((IntKind.u64.wrap ((IntKind.u64.wrap (t352 + t353)) + x6_1)) % 4294967296)] (fun _=>True) (fun _=>False) rfl rfl ?aP (fun _ hk=>hk.elim) ?aF ?aO ?aB ?aS ?aL ?_;(case aP=>exact rfl);(case aB=>exact (bl_ HB));(case aF=>exact (fun _ _=>trivial));(case aO=>exact (rr_ HO_5));(case aS=>exact (below_size (bl_ HB)));(case aL=>have:=LMc9.out;omega);intro v355 w10 ho hb hg hat;rw [← Ny354.out] at ho;replace HB:=Aside0.mk (hb);have HO356:=Aside0.mk (ho);clear ho hb hg hat))
       go_roundg kj2
       case measure=>have:=HK1.out;have:=HJ2.out;omega
       case rel=>exact ⟨(y354),((IntKind.u64.wrap ((IntKind.u64.wrap (t352 + t353)) + x6_1)) / 4294967296),(wrap64 (x7_1 + 1)),(by first|rfl|(simp;done)|(simp [*];done)),(by first|rfl|(simp;done)|(simp [*];done)),H',⟨by have:=HK1.out;have:=HJ2.out;omega⟩,⟨rr_ HO356⟩,⟨bl_ HB⟩⟩
      ·rw [if_neg c9] at H
       exact absurd H (by simp)
     ·replace c6:=Bool.eq_false_iff.mpr c6
      subst c6
      have H1 : ((r02_Norm.f kj2 x5_1).bind fun t357=>(some t357)) = some r:=by rw [if_neg (show ¬ (false = true) by decide)] at H;exact H
      clear H
      have H:=H1
      clear H1
      obtain ⟨t357,A11,H⟩:=ob_ H
      try dsimp only at H
      obtain rfl:=Option.some.inj H
      obtain ⟨Ao12,co12,eo12⟩:=Kd.R_slice HO_5.out
      subst eo12
      go_wp2_with (first|((with_reducible refine gate_callee (f:=78) rfl ?_);refine goesM (some 42) Try.func78 #[.slice Ao12 x5_1.length co12] ?_;(with_reducible refine (r02_Norm.calls kj2 _ _ x5_1 t357 _ ?side1 ?side2 A11.out).mono ?_);(case side1=>repeat (first|exact (Kd.R_reads' HO_5.out).2.2|(with_reducible first|apply cA|apply cN|apply cD)));(case side2=>exact (Kd.R_reads' HO_5.out).2.1);rintro e w13 ⟨v358,rfl,ho0,hb⟩;refine ⟨_,rfl,?_⟩;have HO359:=Aside0.mk (Kd.R_lower (Kd.R_new' ho0 (Kd.R_lt (rr_ HO_5))) (below_size (bl_ HB)));replace HO_5:=Aside0.mk (Kd.R_elder' (rr_ HO_5) (Kd.R_base ho0) hb);replace HB:=bs_ HB hb;(try clear hb);(try clear hb2);(try clear hk);(try clear hi);(try clear ho0)))
      go_ret
      exact ⟨_,rf_,by (with_reducible repeat (first|apply rA|apply rN|apply rD));exact Kd.R_mono HO359.out (fun _ hk=>trivial),bl_ HB⟩

end Go.Proofs.Ytdemanikmaafeaa.Pr
-- written by this session's own program (wip/fprint.py), which widens the kit's print by floats
namespace Go.Proofs.Ytdemanikmaafeaa.Pr
open Go.RowKit Go.Proofs.YtdemanikmaafeaaW.PrintWords Go.Proofs.YtdemanikmaafeaaW.PrintLast Go.Proofs.YtdemanikmaafeaaW.PrintMore
attribute [local go_sem] max2_int min2_int max_two min_two max_three min_three max_four min_four   -- for this text's walks alone
set_option linter.unusedVariables false
set_option linter.unusedSimpArgs false

mutual
def r03_Add.j0 : Nat → Bool → Bool → List Int → Int → Bool → List Int → Int → Option (Bool × List Int × Int × Int)
 | 0, _, _, _, _, _, _, _ => none
 | k + 1, x28, x370000, x370001, x370002, x377000, x377001, x377002 => if x28 = true then (some (false, ([] : List Int), 0, 2)) else (if (x370001.length : Int) = 0 then (some (x377000, x377001, x377002, 0)) else (if (x377001.length : Int) = 0 then (some (x370000, x370001, x370002, 0)) else ((r02_Moved.f k x370001 (wrap64 (x370002 - (mn x370002 x377002)))).bind fun t377 => ((r02_Moved.f k x377001 (wrap64 (x377002 - (mn x370002 x377002)))).bind fun t380 => (if (t377.length : Int) > 8192 then (r03_Add.j1 k (mn x370002 x377002) t377 t380 true x370000 x370001 x370002 x377000 x377001 x377002) else (r03_Add.j1 k (mn x370002 x377002) t377 t380 (decide ((t380.length : Int) > 8192)) x370000 x370001 x370002 x377000 x377001 x377002))))))
def r03_Add.j1 : Nat → Int → List Int → List Int → Bool → Bool → List Int → Int → Bool → List Int → Int → Option (Bool × List Int × Int × Int)
 | 0, _, _, _, _, _, _, _, _, _, _ => none
 | k + 1, x10, x11, x12, x66, x370000, x370001, x370002, x377000, x377001, x377002 => if x66 = true then (some (false, ([] : List Int), 0, 2)) else (if (x370000 == x377000) = true then ((r02_Plus.f k x11 x12).bind fun t383 => ((r03_told.f k x370000 t383 x10).bind fun bt386 => (some (bt386.1, bt386.2.1, bt386.2.2.1, bt386.2.2.2)))) else ((r02_Cmp.f k x11 x12).bind fun t392 => (if t392 ≥ 0 then ((r02_Minus.f k x11 x12).bind fun t393 => ((r03_told.f k x370000 t393 x10).bind fun bt396 => (some (bt396.1, bt396.2.1, bt396.2.2.1, bt396.2.2.2)))) else ((r02_Minus.f k x12 x11).bind fun t402 => ((r03_told.f k x377000 t402 x10).bind fun bt405 => (some (bt405.1, bt405.2.1, bt405.2.2.1, bt405.2.2.2)))))))
end
def r03_Add.f (k : Nat) (a0_0 : Bool) (l0_1 : List Int) (a0_2 : Int) (a1_0 : Bool) (l1_1 : List Int) (a1_2 : Int) : Option (Bool × List Int × Int × Int) := (r03_Made.f k a0_0 l0_1 a0_2).bind fun bt363 => ((r03_Made.f k a1_0 l1_1 a1_2).bind fun bt370 => (if bt363.2.2.2 = true then (r03_Add.j0 k (!bt370.2.2.2) bt363.1 bt363.2.1 bt363.2.2.1 bt370.1 bt370.2.1 bt370.2.2.1) else (r03_Add.j0 k true bt363.1 bt363.2.1 bt363.2.2.1 bt370.1 bt370.2.1 bt370.2.2.1)))
theorem r03_Add.mono_l : ∀ k, (∀ y0 y1 y2 y3 y4 y5 y6, LeO (r03_Add.j0 k y0 y1 y2 y3 y4 y5 y6) (r03_Add.j0 (k + 1) y0 y1 y2 y3 y4 y5 y6)) ∧ (∀ y0 y1 y2 y3 y4 y5 y6 y7 y8 y9, LeO (r03_Add.j1 k y0 y1 y2 y3 y4 y5 y6 y7 y8 y9) (r03_Add.j1 (k + 1) y0 y1 y2 y3 y4 y5 y6 y7 y8 y9))
 | 0 => ⟨fun _ _ _ _ _ _ _ r h => by simp [r03_Add.j0] at h, fun _ _ _ _ _ _ _ _ _ _ r h => by simp [r03_Add.j1] at h⟩
 | k + 1 => by
  obtain ⟨ih0,ih1⟩:=r03_Add.mono_l k
  refine ⟨?_,?_⟩
  ·intro y0 y1 y2 y3 y4 y5 y6
   unfold r03_Add.j0
   repeat' first
   | (with_reducible exact ih0 _ _ _ _ _ _ _)
   | (with_reducible exact ih1 _ _ _ _ _ _ _ _ _ _)
   | (with_reducible exact r02_Cmp.mono _ _ _)
   | (with_reducible exact r02_Minus.mono _ _ _)
   | (with_reducible exact r02_Moved.mono _ _ _)
   | (with_reducible exact r02_Plus.mono _ _ _)
   | (with_reducible exact r03_Made.mono _ _ _ _)
   | (with_reducible exact r03_told.mono _ _ _ _)
   | (with_reducible exact LeO.refl _)
   | (with_reducible exact LeO.none _)
   | (with_reducible refine LeO.ite ?_ ?_)
   | (with_reducible refine LeO.bind ?_ (fun _ => ?_))
   | exact ih0 _ _ _ _ _ _ _
   | exact ih1 _ _ _ _ _ _ _ _ _ _
   | exact r02_Cmp.mono _ _ _
   | exact r02_Minus.mono _ _ _
   | exact r02_Moved.mono _ _ _
   | exact r02_Plus.mono _ _ _
   | exact r03_Made.mono _ _ _ _
   | exact r03_told.mono _ _ _ _
   | exact LeO.none _
   | refine LeO.ite ?_ ?_
   | refine LeO.bind ?_ (fun _ => ?_)
  ·intro y0 y1 y2 y3 y4 y5 y6 y7 y8 y9
   unfold r03_Add.j1
   repeat' first
   | (with_reducible exact ih0 _ _ _ _ _ _ _)
   | (with_reducible exact ih1 _ _ _ _ _ _ _ _ _ _)
   | (with_reducible exact r02_Cmp.mono _ _ _)
   | (with_reducible exact r02_Minus.mono _ _ _)
   | (with_reducible exact r02_Moved.mono _ _ _)
   | (with_reducible exact r02_Plus.mono _ _ _)
   | (with_reducible exact r03_Made.mono _ _ _ _)
   | (with_reducible exact r03_told.mono _ _ _ _)
   | (with_reducible exact LeO.refl _)
   | (with_reducible exact LeO.none _)
   | (with_reducible refine LeO.ite ?_ ?_)
   | (with_reducible refine LeO.bind ?_ (fun _ => ?_))
   | exact ih0 _ _ _ _ _ _ _
   | exact ih1 _ _ _ _ _ _ _ _ _ _
   | exact r02_Cmp.mono _ _ _
   | exact r02_Minus.mono _ _ _
   | exact r02_Moved.mono _ _ _
   | exact r02_Plus.mono _ _ _
   | exact r03_Made.mono _ _ _ _
   | exact r03_told.mono _ _ _ _
   | exact LeO.none _
   | refine LeO.ite ?_ ?_
   | refine LeO.bind ?_ (fun _ => ?_)
theorem r03_Add.mono : ∀ a0 a1 a2 a3 a4 a5 k, LeO (r03_Add.f k a0 a1 a2 a3 a4 a5) (r03_Add.f (k + 1) a0 a1 a2 a3 a4 a5) := by
 intro a0 a1 a2 a3 a4 a5 k
 obtain ⟨ih0,ih1⟩:=r03_Add.mono_l k
 unfold r03_Add.f
 repeat' first
   | (with_reducible exact ih0 _ _ _ _ _ _ _)
   | (with_reducible exact ih1 _ _ _ _ _ _ _ _ _ _)
   | (with_reducible exact r02_Cmp.mono _ _ _)
   | (with_reducible exact r02_Minus.mono _ _ _)
   | (with_reducible exact r02_Moved.mono _ _ _)
   | (with_reducible exact r02_Plus.mono _ _ _)
   | (with_reducible exact r03_Made.mono _ _ _ _)
   | (with_reducible exact r03_told.mono _ _ _ _)
   | (with_reducible exact LeO.refl _)
   | (with_reducible exact LeO.none _)
   | (with_reducible refine LeO.ite ?_ ?_)
   | (with_reducible refine LeO.bind ?_ (fun _ => ?_))
   | exact ih0 _ _ _ _ _ _ _
   | exact ih1 _ _ _ _ _ _ _ _ _ _
   | exact r02_Cmp.mono _ _ _
   | exact r02_Minus.mono _ _ _
   | exact r02_Moved.mono _ _ _
   | exact r02_Plus.mono _ _ _
   | exact r03_Made.mono _ _ _ _
   | exact r03_told.mono _ _ _ _
   | exact LeO.none _
   | refine LeO.ite ?_ ?_
   | refine LeO.bind ?_ (fun _ => ?_)
def r03_Add.T15 : Bool × List (List Nat × List Nat) := (true, [([], []), ([0], [0]), ([], []), ([], []), ([2, 3], [2, 3]), ([], []), ([1, 4, 5, 4], [1, 4, 5]), ([6], [6]), ([6], [6]), ([7, 6, 0, 1, 2, 3, 4, 5, 6, 7, 8], [7]), ([8, 9, 0, 1, 2, 3, 4, 5, 6, 7, 8, 9], [8])])
def r03_Add.B15 : List Nat := [0, 1, 0, 0, 12, 0, 63, 127, 127, 511, 1023]
theorem r03_Add.tab15 : rtab .any (opsOf Try.f35 15) = r03_Add.T15 := by kernel_rfl
theorem r03_Add.bits15 : waitsOk r03_Add.T15.2 r03_Add.B15 = true := by kernel_rfl
def r03_Add.T17 : Bool × List (List Nat × List Nat) := (true, [([], []), ([0], [0]), ([], []), ([], []), ([2, 3], [2, 3]), ([], []), ([1, 4, 5, 4], [1, 4, 5]), ([6], [6]), ([6], [6]), ([7, 6, 0, 1, 2, 3, 4, 5, 6, 7, 8], [7]), ([8, 9, 0, 1, 2, 3, 4, 5, 6, 7, 8, 9], [8])])
def r03_Add.B17 : List Nat := [0, 1, 0, 0, 12, 0, 63, 127, 127, 511, 1023]
theorem r03_Add.tab17 : rtab .any (opsOf Try.f35 17) = r03_Add.T17 := by kernel_rfl
theorem r03_Add.bits17 : waitsOk r03_Add.T17.2 r03_Add.B17 = true := by kernel_rfl
def r03_Add.T18 : Bool × List (List Nat × List Nat) := (true, [([], []), ([0], [0]), ([], []), ([], []), ([2, 3], [2, 3]), ([], []), ([1, 4, 5, 4], [1, 4, 5]), ([6], [6]), ([6], [6]), ([7, 6, 0, 1, 2, 3, 4, 5, 6, 7, 8], [7]), ([8, 9, 0, 1, 2, 3, 4, 5, 6, 7, 8, 9], [8])])
def r03_Add.B18 : List Nat := [0, 1, 0, 0, 12, 0, 63, 127, 127, 511, 1023]
theorem r03_Add.tab18 : rtab .any (opsOf Try.f35 18) = r03_Add.T18 := by kernel_rfl
theorem r03_Add.bits18 : waitsOk r03_Add.T18.2 r03_Add.B18 = true := by kernel_rfl
set_option maxHeartbeats 3000000 in
set_option maxRecDepth 100000 in
theorem r03_Add.calls (k : Nat) (a0_0 : Bool) (A0_1 : Option Addr) (c0_1 : Nat) (l0_1 : List Int) (a0_2 : Int) (a1_0 : Bool) (A1_1 : Option Addr) (c1_1 : Nat) (l1_1 : List Int) (a1_2 : Int) (r1 : Bool) (r2 : List Int) (r3 : Int) (r4 : Int) (w : World) (hr0_1 : Kd.C (Kd.int .u32) w A0_1 l0_1.length l0_1) (hc0_1 : l0_1.length ≤ c0_1) (hr1_1 : Kd.C (Kd.int .u32) w A1_1 l1_1.length l1_1) (hc1_1 : l1_1.length ≤ c1_1) (h : r03_Add.f k a0_0 l0_1 a0_2 a1_0 l1_1 a1_2 = some (r1, r2, r3, r4)) :
  Calls Try.prog 35 #[.agg #[.bool a0_0,.slice A0_1 l0_1.length c0_1,.int .i64 a0_2],.agg #[.bool a1_0,.slice A1_1 l1_1.length c1_1,.int .i64 a1_2]] w fun e w'=>∃ v1_ : Value,e = .returned (.tuple #[.agg #[.bool r1,v1_,.int .i64 r3],.int .i64 r4]) ∧ Kd.R (Kd.int .u32) 72 w' w.heap.size (fun _=>True) v1_ r2 ∧ Below w.heap.size w w':=by
 have hu43:=Try.underlying43
 have HR0_1:=Aside0.mk hr0_1
 have HC0_1:=Aside0.mk hc0_1
 clear hr0_1 hc0_1
 have HR1_1:=Aside0.mk hr1_1
 have HC1_1:=Aside0.mk hc1_1
 clear hr1_1 hc1_1
 have HB:=Aside0.mk (Below.refl w.heap.size w)
 have H : ((r03_Made.f k a0_0 l0_1 a0_2).bind fun bt363=>((r03_Made.f k a1_0 l1_1 a1_2).bind fun bt370=>(if bt363.2.2.2 = true then (r03_Add.j0 k (!bt370.2.2.2) bt363.1 bt363.2.1 bt363.2.2.1 bt370.1 bt370.2.1 bt370.2.2.1) else (r03_Add.j0 k true bt363.1 bt363.2.1 bt363.2.2.1 bt370.1 bt370.2.1 bt370.2.2.1)))) = some (r1,r2,r3,r4):=h
 clear h
 obtain ⟨⟨t363,t364,t367,t368⟩,A3,H⟩:=ob_ H
 try dsimp only at H
 obtain ⟨⟨t370,t371,t374,t375⟩,A4,H⟩:=ob_ H
 try dsimp only at H
 have HC5:=Aside0.mk H
 clear H
 go_enter Try.func35,Try.ntmps35
 go_upto_region 3 with (first|((with_reducible refine gate_dst (N:=2) rfl ?_);(try (refine gate_guard (by rfl) ?_;dsimp only));refine box_ev (N:=2) (cs:=#[.bool a0_0,.slice A0_1 l0_1.length c0_1,.int .i64 a0_2]) (t:=43) ?_;intro gb360 hg w6 hbox hb;have BK360:=Aside0.mk (hbox);have GW360:=ge_ HB hg;have GE360:=ge_ HB hg;replace HB:=bs_ HB hb;clear hb hbox hg)|((with_reducible refine gate_dst (N:=3) rfl ?_);(try (refine gate_guard (by rfl) ?_;dsimp only));refine box_ev (N:=3) (cs:=#[.bool a1_0,.slice A1_1 l1_1.length c1_1,.int .i64 a1_2]) (t:=43) ?_;intro gb361 hg w7 hbox hb;have BK361:=Aside0.mk (hbox);have GW361:=ge_ HB hg;have GE361:=ge_ HB hg;replace HB:=bs_ HB hb;have NB360_361:=nlt_ BK360 hg;have NB361_360:=ngt_ BK360 hg;replace BK360:=kb_ BK360 hb;clear hb hbox hg)|((with_reducible refine gate_dst (N:=4) rfl ?_);(try (refine gate_guard (by rfl) ?_;dsimp only));refine box_ev (N:=4) (cs:=#[.bool false,.slice none 0 0,.int .i64 0]) (t:=43) ?_;intro gb362 hg w8 hbox hb;have BK362:=Aside0.mk (hbox);have GW362:=ge_ HB hg;have GE362:=ge_ HB hg;replace HB:=bs_ HB hb;have NB360_362:=nlt_ BK360 hg;have NB362_360:=ngt_ BK360 hg;replace BK360:=kb_ BK360 hb;have NB361_362:=nlt_ BK361 hg;have NB362_361:=ngt_ BK361 hg;replace BK361:=kb_ BK361 hb;clear hb hbox hg;have hnb9:=NB360_361.out;have hnc9:=NB361_360.out;have hnb10:=NB360_362.out;have hnc10:=NB362_360.out;have hcz11_0:=bc_ BK360 0;have hcz11_1:=bc_ BK360 1;have hcz11_2:=bc_ BK360 2;have hfz11_0:=bz_ BK360 0;have hfz11_1:=bz_ BK360 1;have hfz11_2:=bz_ BK360 2)|((with_reducible refine gate_callee (f:=57) rfl ?_);refine goesM (some 15) Try.func57 #[.agg #[.bool a0_0,.slice A0_1 l0_1.length c0_1,.int .i64 a0_2]] ?_;(with_reducible refine (r03_Made.calls k a0_0 _ _ l0_1 a0_2 t363 t364 t367 t368 _ ?side1 ?side2 A3.out).mono ?_);(case side1=>repeat (first|exact (Kd.C_below HR0_1.out HB.out)|(with_reducible first|apply cA|apply cN|apply cD)));(case side2=>exact HC0_1.out);rintro e w12 ⟨v365,rfl,ho0,hb⟩;refine ⟨_,rfl,?_⟩;have HO366:=Aside0.mk (Kd.R_lower ho0 (below_size (bl_ HB)));replace BK360:=kb_ BK360 hb;replace BK361:=kb_ BK361 hb;replace BK362:=kb_ BK362 hb;replace HB:=bs_ HB hb;(try clear hb);(try clear hb2);(try clear hk);(try clear hi);(try clear ho0))|((with_reducible refine gate_dst (N:=6) rfl ?_);(try (refine gate_guard (by rfl) ?_;dsimp only));refine box_ev (N:=6) (cs:=#[.bool false,.slice none 0 0,.int .i64 0]) (t:=43) ?_;intro gb369 hg w13 hbox hb;replace HO366:=Aside0.mk (Kd.R_below (rr_ HO366) hb);have BK369:=Aside0.mk (hbox);have GW369:=ge_ HB hg;have GE369:=ge_ HB hg;replace HB:=bs_ HB hb;have NB360_369:=nlt_ BK360 hg;have NB369_360:=ngt_ BK360 hg;replace BK360:=kb_ BK360 hb;have NB361_369:=nlt_ BK361 hg;have NB369_361:=ngt_ BK361 hg;replace BK361:=kb_ BK361 hb;have NB362_369:=nlt_ BK362 hg;have NB369_362:=ngt_ BK362 hg;replace BK362:=kb_ BK362 hb;clear hb hbox hg;have hnb14:=NB369_360.out;have hnc14:=NB360_369.out;have hnb15:=NB369_361.out;have hnc15:=NB361_369.out;have hnb16:=NB369_362.out;have hnc16:=NB362_369.out;have hcz17_0:=bc_ BK369 0;have hcz17_1:=bc_ BK369 1;have hcz17_2:=bc_ BK369 2;have hfz17_0:=bz_ BK369 0;have hfz17_1:=bz_ BK369 1;have hfz17_2:=bz_ BK369 2;obtain ⟨Ao18,co18,eo18⟩:=Kd.R_slice HO366.out;subst eo18;have hnb19:=NB361_362.out;have hnc19:=NB362_361.out;have hcz20_0:=bc_ BK361 0;have hcz20_1:=bc_ BK361 1;have hcz20_2:=bc_ BK361 2;have hfz20_0:=bz_ BK361 0;have hfz20_1:=bz_ BK361 1;have hfz20_2:=bz_ BK361 2)|((with_reducible refine gate_callee (f:=57) rfl ?_);refine goesM (some 20) Try.func57 #[.agg #[.bool a1_0,.slice A1_1 l1_1.length c1_1,.int .i64 a1_2]] ?_;(with_reducible refine (r03_Made.calls k a1_0 _ _ l1_1 a1_2 t370 t371 t374 t375 _ ?side1 ?side2 A4.out).mono ?_);(case side1=>exact Kd.C_below HR1_1.out (bl_ HB));(case side2=>exact HC1_1.out);rintro e w21 ⟨v372,rfl,ho0,hb⟩;refine ⟨_,rfl,?_⟩;have HO373:=Aside0.mk (Kd.R_lower (Kd.R_new' ho0 (Kd.R_lt (by (with_reducible repeat (first|apply rA|apply rN|apply rD));exact (Kd.R_mono (Kd.R_far (p:=⟨gb369,2,none⟩) (Kd.R_far (p:=⟨gb369,1,none⟩) (Kd.R_far (p:=⟨gb369,0,none⟩) (Kd.R_types HO366.out BK369.out (by decide)) (fun _ hk=>hk.2) (.bool t363)) (fun _ hk=>hk.2) (.slice Ao18 t364.length co18)) (fun _ hk=>hk.2) (.int .i64 t367)) (fun _ h_=>h_.1))))) (below_size (bl_ HB)));replace HO366:=Aside0.mk (Kd.R_elder' (by (with_reducible repeat (first|apply rA|apply rN|apply rD));exact (Kd.R_mono (Kd.R_far (p:=⟨gb369,2,none⟩) (Kd.R_far (p:=⟨gb369,1,none⟩) (Kd.R_far (p:=⟨gb369,0,none⟩) (Kd.R_types HO366.out BK369.out (by decide)) (fun _ hk=>hk.2) (.bool t363)) (fun _ hk=>hk.2) (.slice Ao18 t364.length co18)) (fun _ hk=>hk.2) (.int .i64 t367)) (fun _ h_=>h_.1))) (Kd.R_base ho0) hb);replace BK360:=Aside0.mk (blk_below (g:=gb360) (o:=.cells #[.bool a0_0,.slice A0_1 l0_1.length c0_1,.int .i64 a0_2] 43 (0,0)) (by (with_reducible repeat (first|apply bN|apply bD|apply bA));refine blk_far ?_ NB360_369.out _;(with_reducible repeat (first|apply bN|apply bD|apply bA));refine blk_far ?_ NB360_369.out _;(with_reducible repeat (first|apply bN|apply bD|apply bA));refine blk_far ?_ NB360_369.out _;exact bk_ BK360) hb);replace BK361:=Aside0.mk (blk_below (g:=gb361) (o:=.cells #[.bool a1_0,.slice A1_1 l1_1.length c1_1,.int .i64 a1_2] 43 (0,0)) (by (with_reducible repeat (first|apply bN|apply bD|apply bA));refine blk_far ?_ NB361_369.out _;(with_reducible repeat (first|apply bN|apply bD|apply bA));refine blk_far ?_ NB361_369.out _;(with_reducible repeat (first|apply bN|apply bD|apply bA));refine blk_far ?_ NB361_369.out _;exact bk_ BK361) hb);replace BK362:=Aside0.mk (blk_below (g:=gb362) (o:=.cells #[.bool false,.slice none 0 0,.int .i64 0] 43 (0,0)) (by (with_reducible repeat (first|apply bN|apply bD|apply bA));refine blk_far ?_ NB362_369.out _;(with_reducible repeat (first|apply bN|apply bD|apply bA));refine blk_far ?_ NB362_369.out _;(with_reducible repeat (first|apply bN|apply bD|apply bA));refine blk_far ?_ NB362_369.out _;exact bk_ BK362) hb);replace BK369:=Aside0.mk (blk_below (g:=gb369) (o:=.cells #[.bool t363,.slice Ao18 t364.length co18,.int .i64 t367] 43 (0,0)) (by (with_reducible repeat (first|apply bN|apply bD|apply bA));refine blk_put (cs:=#[.bool t363,.slice Ao18 t364.length co18,.int .i64 0]) ?_ 2 _ rfl;(with_reducible repeat (first|apply bN|apply bD|apply bA));refine blk_put (cs:=#[.bool t363,.slice none 0 0,.int .i64 0]) ?_ 1 _ rfl;(with_reducible repeat (first|apply bN|apply bD|apply bA));refine blk_put (cs:=#[.bool false,.slice none 0 0,.int .i64 0]) ?_ 0 _ rfl;exact bk_ BK369) hb);replace HB:=bs_ HB hb;(try clear hb);(try clear hb2);(try clear hk);(try clear hi);(try clear ho0))|((with_reducible refine gate_dst (N:=8) rfl ?_);(try (refine gate_guard (by rfl) ?_;dsimp only));refine box_ev (N:=8) (cs:=#[.bool false,.slice none 0 0,.int .i64 0]) (t:=43) ?_;intro gb376 hg w22 hbox hb;replace HO366:=Aside0.mk (Kd.R_below (rr_ HO366) hb);replace HO373:=Aside0.mk (Kd.R_below (rr_ HO373) hb);have BK376:=Aside0.mk (hbox);have GW376:=ge_ HB hg;have GE376:=ge_ HB hg;replace HB:=bs_ HB hb;have NB360_376:=nlt_ BK360 hg;have NB376_360:=ngt_ BK360 hg;replace BK360:=kb_ BK360 hb;have NB361_376:=nlt_ BK361 hg;have NB376_361:=ngt_ BK361 hg;replace BK361:=kb_ BK361 hb;have NB362_376:=nlt_ BK362 hg;have NB376_362:=ngt_ BK362 hg;replace BK362:=kb_ BK362 hb;have NB369_376:=nlt_ BK369 hg;have NB376_369:=ngt_ BK369 hg;replace BK369:=kb_ BK369 hb;clear hb hbox hg;have hnb23:=NB376_360.out;have hnc23:=NB360_376.out;have hnb24:=NB376_361.out;have hnc24:=NB361_376.out;have hnb25:=NB376_362.out;have hnc25:=NB362_376.out;have hnb26:=NB376_369.out;have hnc26:=NB369_376.out;have hcz27_0:=bc_ BK376 0;have hcz27_1:=bc_ BK376 1;have hcz27_2:=bc_ BK376 2;have hfz27_0:=bz_ BK376 0;have hfz27_1:=bz_ BK376 1;have hfz27_2:=bz_ BK376 2;obtain ⟨Ao28,co28,eo28⟩:=Kd.R_slice HO373.out;subst eo28))
 (try simp only [Act.put,List.setIfInBounds_toArray,List.set_cons_zero,List.set_cons_succ])
 go_cut [28] (fun v28 wc=>∃ (kq : Nat) (x28_4 : Bool),v28 = .bool x28_4 ∧ Aside0 (r03_Add.j0 kq x28_4 t363 t364 t367 t370 t371 t374 = some (r1,r2,r3,r4)) ∧ Aside0 (kq ≤ k) ∧ Aside0 (Kd.R (Kd.int .u32) 72 wc w.heap.size (fun k_=>some k_ ≠ ((.slice Ao28 t371.length co28) : Value).ownBlock) (.slice Ao18 t364.length co18) t364) ∧ Aside0 (Kd.R (Kd.int .u32) 72 wc w.heap.size (fun k_=>some k_ ≠ ((.slice Ao18 t364.length co18) : Value).ownBlock) (.slice Ao28 t371.length co28) t371) ∧ Aside0 (wc.heap[gb360]? = some (.cells #[.bool a0_0,(.slice A0_1 l0_1.length c0_1),.int .i64 a0_2] 43 (0,0))) ∧ Aside0 (wc.heap[gb361]? = some (.cells #[.bool a1_0,(.slice A1_1 l1_1.length c1_1),.int .i64 a1_2] 43 (0,0))) ∧ Aside0 (wc.heap[gb362]? = some (.cells #[.bool false,(.slice none 0 0),.int .i64 0] 43 (0,0))) ∧ Aside0 (wc.heap[gb369]? = some (.cells #[.bool t363,(.slice Ao18 t364.length co18),.int .i64 t367] 43 (0,0))) ∧ Aside0 (wc.heap[gb376]? = some (.cells #[.bool t370,(.slice Ao28 t371.length co28),.int .i64 t374] 43 (0,0))) ∧ Aside0 (Below w.heap.size w wc))
 case first =>
  have H:=HC5.out
  clear HC5
  by_cases c29 : t368 = true
  ·subst c29
   have H1 : (r03_Add.j0 k (!t375) t363 t364 t367 t370 t371 t374) = some (r1,r2,r3,r4):=by rw [if_pos rfl] at H;exact H
   clear H
   have H:=H1
   clear H1
   have H':=Aside0.mk H
   clear H
   go_wp2
   go_meet
   case rel=>exact ⟨_,(!t375),(by first|rfl|(simp;done)|(simp [*];done)),H',⟨by first|omega|exact Nat.le_refl _⟩,⟨by (with_reducible repeat (first|apply rA|apply rN|apply rD));exact Kd.R_mono (Kd.R_far (p:=⟨gb376,2,none⟩) (Kd.R_far (p:=⟨gb376,1,none⟩) (Kd.R_far (p:=⟨gb376,0,none⟩) (Kd.R_types HO366.out BK376.out (by decide)) (fun _ hk=>hk.2) (.bool t370)) (fun _ hk=>hk.2) (.slice Ao28 t371.length co28)) (fun _ hk=>hk.2) (.int .i64 t374)) (fun _ hk=>hk.1.2)⟩,⟨by (with_reducible repeat (first|apply rA|apply rN|apply rD));exact Kd.R_mono (Kd.R_far (p:=⟨gb376,2,none⟩) (Kd.R_far (p:=⟨gb376,1,none⟩) (Kd.R_far (p:=⟨gb376,0,none⟩) (Kd.R_types HO373.out BK376.out (by decide)) (fun _ hk=>hk.2) (.bool t370)) (fun _ hk=>hk.2) (.slice Ao28 t371.length co28)) (fun _ hk=>hk.2) (.int .i64 t374)) (fun _ hk=>hk.1.2)⟩,⟨by (with_reducible repeat (first|apply bN|apply bD|apply bA));refine blk_far ?_ NB360_376.out _;(with_reducible repeat (first|apply bN|apply bD|apply bA));refine blk_far ?_ NB360_376.out _;(with_reducible repeat (first|apply bN|apply bD|apply bA));refine blk_far ?_ NB360_376.out _;exact bk_ BK360⟩,⟨by (with_reducible repeat (first|apply bN|apply bD|apply bA));refine blk_far ?_ NB361_376.out _;(with_reducible repeat (first|apply bN|apply bD|apply bA));refine blk_far ?_ NB361_376.out _;(with_reducible repeat (first|apply bN|apply bD|apply bA));refine blk_far ?_ NB361_376.out _;exact bk_ BK361⟩,⟨by (with_reducible repeat (first|apply bN|apply bD|apply bA));refine blk_far ?_ NB362_376.out _;(with_reducible repeat (first|apply bN|apply bD|apply bA));refine blk_far ?_ NB362_376.out _;(with_reducible repeat (first|apply bN|apply bD|apply bA));refine blk_far ?_ NB362_376.out _;exact bk_ BK362⟩,⟨by (with_reducible repeat (first|apply bN|apply bD|apply bA));refine blk_far ?_ NB369_376.out _;(with_reducible repeat (first|apply bN|apply bD|apply bA));refine blk_far ?_ NB369_376.out _;(with_reducible repeat (first|apply bN|apply bD|apply bA));refine blk_far ?_ NB369_376.out _;exact bk_ BK369⟩,⟨by (with_reducible repeat (first|apply bN|apply bD|apply bA));refine blk_put (cs:=#[.bool t370,.slice Ao28 t371.length co28,.int .i64 0]) ?_ 2 _ rfl;(with_reducible repeat (first|apply bN|apply bD|apply bA));refine blk_put (cs:=#[.bool t370,.slice none 0 0,.int .i64 0]) ?_ 1 _ rfl;(with_reducible repeat (first|apply bN|apply bD|apply bA));refine blk_put (cs:=#[.bool false,.slice none 0 0,.int .i64 0]) ?_ 0 _ rfl;exact bk_ BK376⟩,⟨bl_ HB⟩⟩
  ·replace c29:=Bool.eq_false_iff.mpr c29
   subst c29
   have H1 : (r03_Add.j0 k true t363 t364 t367 t370 t371 t374) = some (r1,r2,r3,r4):=by rw [if_neg (show ¬ (false = true) by decide)] at H;exact H
   clear H
   have H:=H1
   clear H1
   have H':=Aside0.mk H
   clear H
   go_wp2
   go_meet
   case rel=>exact ⟨_,(true),(by first|rfl|(simp;done)|(simp [*];done)),H',⟨by first|omega|exact Nat.le_refl _⟩,⟨by (with_reducible repeat (first|apply rA|apply rN|apply rD));exact Kd.R_mono (Kd.R_far (p:=⟨gb376,2,none⟩) (Kd.R_far (p:=⟨gb376,1,none⟩) (Kd.R_far (p:=⟨gb376,0,none⟩) (Kd.R_types HO366.out BK376.out (by decide)) (fun _ hk=>hk.2) (.bool t370)) (fun _ hk=>hk.2) (.slice Ao28 t371.length co28)) (fun _ hk=>hk.2) (.int .i64 t374)) (fun _ hk=>hk.1.2)⟩,⟨by (with_reducible repeat (first|apply rA|apply rN|apply rD));exact Kd.R_mono (Kd.R_far (p:=⟨gb376,2,none⟩) (Kd.R_far (p:=⟨gb376,1,none⟩) (Kd.R_far (p:=⟨gb376,0,none⟩) (Kd.R_types HO373.out BK376.out (by decide)) (fun _ hk=>hk.2) (.bool t370)) (fun _ hk=>hk.2) (.slice Ao28 t371.length co28)) (fun _ hk=>hk.2) (.int .i64 t374)) (fun _ hk=>hk.1.2)⟩,⟨by (with_reducible repeat (first|apply bN|apply bD|apply bA));refine blk_far ?_ NB360_376.out _;(with_reducible repeat (first|apply bN|apply bD|apply bA));refine blk_far ?_ NB360_376.out _;(with_reducible repeat (first|apply bN|apply bD|apply bA));refine blk_far ?_ NB360_376.out _;exact bk_ BK360⟩,⟨by (with_reducible repeat (first|apply bN|apply bD|apply bA));refine blk_far ?_ NB361_376.out _;(with_reducible repeat (first|apply bN|apply bD|apply bA));refine blk_far ?_ NB361_376.out _;(with_reducible repeat (first|apply bN|apply bD|apply bA));refine blk_far ?_ NB361_376.out _;exact bk_ BK361⟩,⟨by (with_reducible repeat (first|apply bN|apply bD|apply bA));refine blk_far ?_ NB362_376.out _;(with_reducible repeat (first|apply bN|apply bD|apply bA));refine blk_far ?_ NB362_376.out _;(with_reducible repeat (first|apply bN|apply bD|apply bA));refine blk_far ?_ NB362_376.out _;exact bk_ BK362⟩,⟨by (with_reducible repeat (first|apply bN|apply bD|apply bA));refine blk_far ?_ NB369_376.out _;(with_reducible repeat (first|apply bN|apply bD|apply bA));refine blk_far ?_ NB369_376.out _;(with_reducible repeat (first|apply bN|apply bD|apply bA));refine blk_far ?_ NB369_376.out _;exact bk_ BK369⟩,⟨by (with_reducible repeat (first|apply bN|apply bD|apply bA));refine blk_put (cs:=#[.bool t370,.slice Ao28 t371.length co28,.int .i64 0]) ?_ 2 _ rfl;(with_reducible repeat (first|apply bN|apply bD|apply bA));refine blk_put (cs:=#[.bool t370,.slice none 0 0,.int .i64 0]) ?_ 1 _ rfl;(with_reducible repeat (first|apply bN|apply bD|apply bA));refine blk_put (cs:=#[.bool false,.slice none 0 0,.int .i64 0]) ?_ 0 _ rfl;exact bk_ BK376⟩,⟨bl_ HB⟩⟩
 case rest =>
  clear HC5
  try clear c1
  try clear c2
  try clear p2
  try clear c3
  try clear c5
  try clear c9
  try clear c10
  try clear c14
  try clear c15
  try clear c16
  try clear c19
  try clear c23
  try clear c24
  try clear c25
  try clear c26
  try clear c29
  try clear hcz11_0
  try clear hcz11_1
  try clear hcz11_2
  try clear hcz17_0
  try clear hcz17_1
  try clear hcz17_2
  try clear hcz20_0
  try clear hcz20_1
  try clear hcz20_2
  try clear hcz27_0
  try clear hcz27_1
  try clear hcz27_2
  try clear hfz11_0
  try clear hfz11_1
  try clear hfz11_2
  try clear hfz17_0
  try clear hfz17_1
  try clear hfz17_2
  try clear hfz20_0
  try clear hfz20_1
  try clear hfz20_2
  try clear hfz27_0
  try clear hfz27_1
  try clear hfz27_2
  obtain ⟨kq,x28_4,rfl,HA,HJ4,HO_370001,HO_377001,BK360,BK361,BK362,BK369,BK376,HB⟩:=hcut
  cases kq with
  | zero => exact absurd HA.out (by simp [r03_Add.j0])
  | succ kj4 =>
   have H:=HA.out
   clear HA
   simp only [r03_Add.j0] at H
   by_cases c30 : x28_4 = true
   ·subst c30
    have H1 : (some (false,([] : List Int),0,2)) = some (r1,r2,r3,r4):=by rw [if_pos rfl] at H;exact H
    clear H
    have H:=H1
    clear H1
    simp only [Option.some.injEq,Prod.mk.injEq] at H
    obtain ⟨rfl,rfl,rfl,rfl⟩:=H
    have hnb31:=NB362_360.out
    have hnc31:=NB360_362.out
    have hnb32:=NB362_361.out
    have hnc32:=NB361_362.out
    have hnb33:=NB362_369.out
    have hnc33:=NB369_362.out
    have hnb34:=NB362_376.out
    have hnc34:=NB376_362.out
    have hcz35_0:=bc_ BK362 0
    have hcz35_1:=bc_ BK362 1
    have hcz35_2:=bc_ BK362 2
    have hfz35_0:=bz_ BK362 0
    have hfz35_1:=bz_ BK362 1
    have hfz35_2:=bz_ BK362 2
    go_wp2
    refine bodyPost_ret (results_ct rfl _ _ gb362 43 #[.bool false,.slice none 0 0,.int .i64 0] (0,0) _ rfl (by (with_reducible repeat (first|apply bN|apply bD|apply bA));refine blk_put (cs:=#[.bool false,.slice none 0 0,.int .i64 0]) ?_ 2 _ rfl;(with_reducible repeat (first|apply bN|apply bD|apply bA));refine blk_put (cs:=#[.bool false,.slice none 0 0,.int .i64 0]) ?_ 1 _ rfl;(with_reducible repeat (first|apply bN|apply bD|apply bA));refine blk_put (cs:=#[.bool false,.slice none 0 0,.int .i64 0]) ?_ 0 _ rfl;exact bk_ BK362) Try.underlying43 rfl (by kernel_rfl)) rfl ?_
    exact ⟨_,rf_,by first|exact Kd.R_nil _ _ _ _ _|exact Kd.N_nil _ _ _ _ _|exact Kd.V_nil _ _ _ _ _|exact Kd.Q_nil _ _ _ _ _|exact Kd.S_nil _ _ _ _ _,bl_ HB⟩
   ·replace c30:=Bool.eq_false_iff.mpr c30
    subst c30
    have H1 : (if (t364.length : Int) = 0 then (some (t370,t371,t374,0)) else (if (t371.length : Int) = 0 then (some (t363,t364,t367,0)) else ((r02_Moved.f kj4 t364 (wrap64 (t367 - (mn t367 t374)))).bind fun t377=>((r02_Moved.f kj4 t371 (wrap64 (t374 - (mn t367 t374)))).bind fun t380=>(if (t377.length : Int) > 8192 then (r03_Add.j1 kj4 (mn t367 t374) t377 t380 true t363 t364 t367 t370 t371 t374) else (r03_Add.j1 kj4 (mn t367 t374) t377 t380 (decide ((t380.length : Int) > 8192)) t363 t364 t367 t370 t371 t374)))))) = some (r1,r2,r3,r4):=by rw [if_neg (show ¬ (false = true) by decide)] at H;exact H
    clear H
    have H:=H1
    clear H1
    by_cases c36 : (t364.length : Int) = 0
    ·rw [if_pos c36] at H
     have c36b0 : ((t364.length : Int) == 0) = true:=beq_iff_eq.mpr c36
     have c36b1 : ((t364.length : Int) != 0) = false:=bne_eq_false_iff_eq.mpr c36
     clear c36
     simp only [Option.some.injEq,Prod.mk.injEq] at H
     obtain ⟨rfl,rfl,rfl,rfl⟩:=H
     have hnb37:=NB369_360.out
     have hnc37:=NB360_369.out
     have hnb38:=NB369_361.out
     have hnc38:=NB361_369.out
     have hnb39:=NB369_362.out
     have hnc39:=NB362_369.out
     have hnb40:=NB369_376.out
     have hnc40:=NB376_369.out
     have hcz41_0:=bc_ BK369 0
     have hcz41_1:=bc_ BK369 1
     have hcz41_2:=bc_ BK369 2
     have hfz41_0:=bz_ BK369 0
     have hfz41_1:=bz_ BK369 1
     have hfz41_2:=bz_ BK369 2
     have hnb42:=NB376_360.out
     have hnc42:=NB360_376.out
     have hnb43:=NB376_361.out
     have hnc43:=NB361_376.out
     have hnb44:=NB376_362.out
     have hnc44:=NB362_376.out
     have hcz45_0:=bc_ BK376 0
     have hcz45_1:=bc_ BK376 1
     have hcz45_2:=bc_ BK376 2
     have hfz45_0:=bz_ BK376 0
     have hfz45_1:=bz_ BK376 1
     have hfz45_2:=bz_ BK376 2
     have hnb46:=NB362_360.out
     have hnc46:=NB360_362.out
     have hnb47:=NB362_361.out
     have hnc47:=NB361_362.out
     have hcz48_0:=bc_ BK362 0
     have hcz48_1:=bc_ BK362 1
     have hcz48_2:=bc_ BK362 2
     have hfz48_0:=bz_ BK362 0
     have hfz48_1:=bz_ BK362 1
     have hfz48_2:=bz_ BK362 2
     go_wp2
     refine bodyPost_ret (results_ct rfl _ _ gb362 43 #[.bool t370,.slice Ao28 t371.length co28,.int .i64 t374] (0,0) _ rfl (by (with_reducible repeat (first|apply bN|apply bD|apply bA));refine blk_put (cs:=#[.bool t370,.slice Ao28 t371.length co28,.int .i64 0]) ?_ 2 _ rfl;(with_reducible repeat (first|apply bN|apply bD|apply bA));refine blk_put (cs:=#[.bool t370,.slice none 0 0,.int .i64 0]) ?_ 1 _ rfl;(with_reducible repeat (first|apply bN|apply bD|apply bA));refine blk_put (cs:=#[.bool false,.slice none 0 0,.int .i64 0]) ?_ 0 _ rfl;exact bk_ BK362) Try.underlying43 rfl (by kernel_rfl)) rfl ?_
     exact ⟨_,rf_,by (with_reducible repeat (first|apply rA|apply rN|apply rD));exact Kd.R_mono (Kd.R_far (p:=⟨gb362,2,none⟩) (Kd.R_far (p:=⟨gb362,1,none⟩) (Kd.R_far (p:=⟨gb362,0,none⟩) (Kd.R_types HO_377001.out BK362.out (by decide)) (fun _ hk=>hk.2) (.bool t370)) (fun _ hk=>hk.2) (.slice Ao28 t371.length co28)) (fun _ hk=>hk.2) (.int .i64 t374)) (fun _ hk=>trivial),bl_ HB⟩
    ·rw [if_neg c36] at H
     have c36b0 : ((t364.length : Int) == 0) = false:=beq_eq_false_iff_ne.mpr c36
     have c36b1 : ((t364.length : Int) != 0) = true:=bne_iff_ne.mpr c36
     have c36b2 : ¬ (t364 = []):=fun h_=>c36 (by rw [h_];rfl)
     by_cases c49 : (t371.length : Int) = 0
     ·rw [if_pos c49] at H
      have c49b0 : ((t371.length : Int) == 0) = true:=beq_iff_eq.mpr c49
      have c49b1 : ((t371.length : Int) != 0) = false:=bne_eq_false_iff_eq.mpr c49
      clear c49
      simp only [Option.some.injEq,Prod.mk.injEq] at H
      obtain ⟨rfl,rfl,rfl,rfl⟩:=H
      have hnb50:=NB369_360.out
      have hnc50:=NB360_369.out
      have hnb51:=NB369_361.out
      have hnc51:=NB361_369.out
      have hnb52:=NB369_362.out
      have hnc52:=NB362_369.out
      have hnb53:=NB369_376.out
      have hnc53:=NB376_369.out
      have hcz54_0:=bc_ BK369 0
      have hcz54_1:=bc_ BK369 1
      have hcz54_2:=bc_ BK369 2
      have hfz54_0:=bz_ BK369 0
      have hfz54_1:=bz_ BK369 1
      have hfz54_2:=bz_ BK369 2
      have hnb55:=NB376_360.out
      have hnc55:=NB360_376.out
      have hnb56:=NB376_361.out
      have hnc56:=NB361_376.out
      have hnb57:=NB376_362.out
      have hnc57:=NB362_376.out
      have hcz58_0:=bc_ BK376 0
      have hcz58_1:=bc_ BK376 1
      have hcz58_2:=bc_ BK376 2
      have hfz58_0:=bz_ BK376 0
      have hfz58_1:=bz_ BK376 1
      have hfz58_2:=bz_ BK376 2
      have hnb59:=NB362_360.out
      have hnc59:=NB360_362.out
      have hnb60:=NB362_361.out
      have hnc60:=NB361_362.out
      have hcz61_0:=bc_ BK362 0
      have hcz61_1:=bc_ BK362 1
      have hcz61_2:=bc_ BK362 2
      have hfz61_0:=bz_ BK362 0
      have hfz61_1:=bz_ BK362 1
      have hfz61_2:=bz_ BK362 2
      go_wp2
      refine bodyPost_ret (results_ct rfl _ _ gb362 43 #[.bool t363,.slice Ao18 t364.length co18,.int .i64 t367] (0,0) _ rfl (by (with_reducible repeat (first|apply bN|apply bD|apply bA));refine blk_put (cs:=#[.bool t363,.slice Ao18 t364.length co18,.int .i64 0]) ?_ 2 _ rfl;(with_reducible repeat (first|apply bN|apply bD|apply bA));refine blk_put (cs:=#[.bool t363,.slice none 0 0,.int .i64 0]) ?_ 1 _ rfl;(with_reducible repeat (first|apply bN|apply bD|apply bA));refine blk_put (cs:=#[.bool false,.slice none 0 0,.int .i64 0]) ?_ 0 _ rfl;exact bk_ BK362) Try.underlying43 rfl (by kernel_rfl)) rfl ?_
      exact ⟨_,rf_,by (with_reducible repeat (first|apply rA|apply rN|apply rD));exact Kd.R_mono (Kd.R_far (p:=⟨gb362,2,none⟩) (Kd.R_far (p:=⟨gb362,1,none⟩) (Kd.R_far (p:=⟨gb362,0,none⟩) (Kd.R_types HO_370001.out BK362.out (by decide)) (fun _ hk=>hk.2) (.bool t363)) (fun _ hk=>hk.2) (.slice Ao18 t364.length co18)) (fun _ hk=>hk.2) (.int .i64 t367)) (fun _ hk=>trivial),bl_ HB⟩
     ·rw [if_neg c49] at H
      have c49b0 : ((t371.length : Int) == 0) = false:=beq_eq_false_iff_ne.mpr c49
      have c49b1 : ((t371.length : Int) != 0) = true:=bne_iff_ne.mpr c49
      have c49b2 : ¬ (t371 = []):=fun h_=>c49 (by rw [h_];rfl)
      obtain ⟨ji62,hji62⟩ : ∃ j_ : Int,(mn t367 t374) = j_:=⟨_,rfl⟩
      replace H : ((r02_Moved.f kj4 t364 (wrap64 (t367 - (ji62)))).bind fun t377=>((r02_Moved.f kj4 t371 (wrap64 (t374 - (ji62)))).bind fun t380=>(if (t377.length : Int) > 8192 then (r03_Add.j1 kj4 ji62 t377 t380 true t363 t364 t367 t370 t371 t374) else (r03_Add.j1 kj4 ji62 t377 t380 (decide ((t380.length : Int) > 8192)) t363 t364 t367 t370 t371 t374)))) = some (r1,r2,r3,r4):=by first|(rw [hji62] at H;exact H)|(simp only [hji62] at H ⊢;exact H)
      have hji62_ : (if t374 < t367 then t374 else t367) = ji62:=hji62
      obtain ⟨t377,A63,H⟩:=ob_ H
      try dsimp only at H
      obtain ⟨t380,A64,H⟩:=ob_ H
      try dsimp only at H
      have HC65:=Aside0.mk H
      clear H
      have hnb66:=NB369_360.out
      have hnc66:=NB360_369.out
      have hnb67:=NB369_361.out
      have hnc67:=NB361_369.out
      have hnb68:=NB369_362.out
      have hnc68:=NB362_369.out
      have hnb69:=NB369_376.out
      have hnc69:=NB376_369.out
      have hcz70_0:=bc_ BK369 0
      have hcz70_1:=bc_ BK369 1
      have hcz70_2:=bc_ BK369 2
      have hfz70_0:=bz_ BK369 0
      have hfz70_1:=bz_ BK369 1
      have hfz70_2:=bz_ BK369 2
      have hnb71:=NB376_360.out
      have hnc71:=NB360_376.out
      have hnb72:=NB376_361.out
      have hnc72:=NB361_376.out
      have hnb73:=NB376_362.out
      have hnc73:=NB362_376.out
      have hcz74_0:=bc_ BK376 0
      have hcz74_1:=bc_ BK376 1
      have hcz74_2:=bc_ BK376 2
      have hfz74_0:=bz_ BK376 0
      have hfz74_1:=bz_ BK376 1
      have hfz74_2:=bz_ BK376 2
      go_upto_region 12 with (first|((with_reducible refine gate_callee (f:=58) rfl ?_);refine goesL_ (some 51) rfl rfl Try.func58 (by kernel_rfl) rfl #[.slice Ao18 t364.length co18,.int .i64 (wrap64 (t367 - (ji62)))] rfl (by (try simp only [List.map_toArray,List.map_cons,List.map_nil]);first|done|(simp only [hji62];rfl)|rfl|(simp only [List.length_drop,List.length_take];rfl)) ?_;(with_reducible refine (r02_Moved.calls kj4 _ _ t364 (wrap64 (t367 - (ji62))) t377 _ ?side1 ?side2 A63.out).mono ?_);(case side1=>repeat (first|exact (Kd.R_reads' HO_370001.out).2.2|(with_reducible first|apply cA|apply cN|apply cD)));(case side2=>exact (Kd.R_reads' HO_370001.out).2.1);rintro e w75 ⟨v378,rfl,ho0,hb⟩;refine ⟨_,rfl,?_⟩;have HO379:=Aside0.mk (Kd.R_lower (Kd.R_new' (Kd.R_new' ho0 (Kd.R_lt (rr_ HO_370001))) (Kd.R_lt (rr_ HO_377001))) (below_size (bl_ HB)));replace HO_370001:=Aside0.mk (Kd.R_elder' (rr_ HO_370001) (Kd.R_base ho0) hb);replace HO_377001:=Aside0.mk (Kd.R_elder' (rr_ HO_377001) (Kd.R_base ho0) hb);replace BK360:=kb_ BK360 hb;replace BK361:=kb_ BK361 hb;replace BK362:=kb_ BK362 hb;replace BK369:=kb_ BK369 hb;replace BK376:=kb_ BK376 hb;replace HB:=bs_ HB hb;(try clear hb);(try clear hb2);(try clear hk);(try clear hi);(try clear ho0);have hcz76_0:=bc_ BK376 0;have hcz76_1:=bc_ BK376 1;have hcz76_2:=bc_ BK376 2;have hfz76_0:=bz_ BK376 0;have hfz76_1:=bz_ BK376 1;have hfz76_2:=bz_ BK376 2)|((with_reducible refine gate_callee (f:=58) rfl ?_);refine goesL_ (some 58) rfl rfl Try.func58 (by kernel_rfl) rfl #[.slice Ao28 t371.length co28,.int .i64 (wrap64 (t374 - (ji62)))] rfl (by (try simp only [List.map_toArray,List.map_cons,List.map_nil]);first|done|(simp only [hji62];rfl)|rfl|(simp only [List.length_drop,List.length_take];rfl)) ?_;(with_reducible refine (r02_Moved.calls kj4 _ _ t371 (wrap64 (t374 - (ji62))) t380 _ ?side1 ?side2 A64.out).mono ?_);(case side1=>repeat (first|exact (Kd.R_reads' HO_377001.out).2.2|(with_reducible first|apply cA|apply cN|apply cD)));(case side2=>exact (Kd.R_reads' HO_377001.out).2.1);rintro e w77 ⟨v381,rfl,ho0,hb⟩;refine ⟨_,rfl,?_⟩;have HO382:=Aside0.mk (Kd.R_lower (Kd.R_new' (Kd.R_new' (Kd.R_new' ho0 (Kd.R_lt (rr_ HO_370001))) (Kd.R_lt (rr_ HO_377001))) (Kd.R_lt (rr_ HO379))) (below_size (bl_ HB)));replace HO_370001:=Aside0.mk (Kd.R_elder' (rr_ HO_370001) (Kd.R_base ho0) hb);replace HO_377001:=Aside0.mk (Kd.R_elder' (rr_ HO_377001) (Kd.R_base ho0) hb);replace HO379:=Aside0.mk (Kd.R_elder' (rr_ HO379) (Kd.R_base ho0) hb);replace BK360:=kb_ BK360 hb;replace BK361:=kb_ BK361 hb;replace BK362:=kb_ BK362 hb;replace BK369:=kb_ BK369 hb;replace BK376:=kb_ BK376 hb;replace HB:=bs_ HB hb;(try clear hb);(try clear hb2);(try clear hk);(try clear hi);(try clear ho0)))
      (try simp only [Act.put,List.setIfInBounds_toArray,List.set_cons_zero,List.set_cons_succ])
      go_cut [66] (fun v66 wc=>∃ (kq : Nat) (x66_64 : Bool),v66 = .bool x66_64 ∧ Aside0 (r03_Add.j1 kq ji62 t377 t380 x66_64 t363 t364 t367 t370 t371 t374 = some (r1,r2,r3,r4)) ∧ Aside0 (kq ≤ kj4) ∧ Aside0 (Kd.R (Kd.int .u32) 72 wc w.heap.size (fun k_=>some k_ ≠ (v381 : Value).ownBlock ∧ some k_ ≠ ((.slice Ao18 t364.length co18) : Value).ownBlock ∧ some k_ ≠ ((.slice Ao28 t371.length co28) : Value).ownBlock) v378 t377) ∧ Aside0 (Kd.R (Kd.int .u32) 72 wc w.heap.size (fun k_=>some k_ ≠ (v378 : Value).ownBlock ∧ some k_ ≠ ((.slice Ao18 t364.length co18) : Value).ownBlock ∧ some k_ ≠ ((.slice Ao28 t371.length co28) : Value).ownBlock) v381 t380) ∧ Aside0 (Kd.R (Kd.int .u32) 72 wc w.heap.size (fun k_=>some k_ ≠ (v378 : Value).ownBlock ∧ some k_ ≠ (v381 : Value).ownBlock ∧ some k_ ≠ ((.slice Ao28 t371.length co28) : Value).ownBlock) (.slice Ao18 t364.length co18) t364) ∧ Aside0 (Kd.R (Kd.int .u32) 72 wc w.heap.size (fun k_=>some k_ ≠ (v378 : Value).ownBlock ∧ some k_ ≠ (v381 : Value).ownBlock ∧ some k_ ≠ ((.slice Ao18 t364.length co18) : Value).ownBlock) (.slice Ao28 t371.length co28) t371) ∧ Aside0 (wc.heap[gb360]? = some (.cells #[.bool a0_0,(.slice A0_1 l0_1.length c0_1),.int .i64 a0_2] 43 (0,0))) ∧ Aside0 (wc.heap[gb361]? = some (.cells #[.bool a1_0,(.slice A1_1 l1_1.length c1_1),.int .i64 a1_2] 43 (0,0))) ∧ Aside0 (wc.heap[gb362]? = some (.cells #[.bool false,(.slice none 0 0),.int .i64 0] 43 (0,0))) ∧ Aside0 (wc.heap[gb369]? = some (.cells #[.bool t363,(.slice Ao18 t364.length co18),.int .i64 t367] 43 (0,0))) ∧ Aside0 (wc.heap[gb376]? = some (.cells #[.bool t370,(.slice Ao28 t371.length co28),.int .i64 t374] 43 (0,0))) ∧ Aside0 (Below w.heap.size w wc))
      case first =>
       have H:=HC65.out
       clear HC65
       by_cases c78 : (t377.length : Int) > 8192
       ·rw [if_pos c78] at H
        have c78b0 : decide (8192 < (t377.length : Int)) = true:=decide_eq_true c78
        have c78b1 : decide (8192 < t377.length) = true:=decide_eq_true (by omega)
        clear c78
        (first|rw [c78b0]|(simp only [i64_w,i32_w];rw [c78b0])|skip)
        have H':=Aside0.mk H
        clear H
        obtain ⟨Ao79,co79,eo79⟩:=Kd.R_slice HO379.out
        subst eo79
        go_wp2
        go_meet
        case rel=>exact ⟨_,(true),(by first|rfl|(simp;done)|(simp [*];done)),H',⟨by have:=HJ4.out;first|omega|exact Nat.le_refl _⟩,⟨by (with_reducible repeat (first|apply rA|apply rN|apply rD));exact Kd.R_mono HO379.out (fun _ hk=>by first|exact ⟨hk.2,⟨hk.1.1.2,hk.1.2⟩⟩|(revert hk;simp only [and_imp];intros;(repeat' apply And.intro) <;> assumption))⟩,⟨by (with_reducible repeat (first|apply rA|apply rN|apply rD));exact Kd.R_mono HO382.out (fun _ hk=>by first|exact ⟨hk.2,⟨hk.1.1.2,hk.1.2⟩⟩|(revert hk;simp only [and_imp];intros;(repeat' apply And.intro) <;> assumption))⟩,⟨by (with_reducible repeat (first|apply rA|apply rN|apply rD));exact Kd.R_mono HO_370001.out (fun _ hk=>by first|exact ⟨hk.1.2,⟨hk.2,hk.1.1⟩⟩|(revert hk;simp only [and_imp];intros;(repeat' apply And.intro) <;> assumption))⟩,⟨by (with_reducible repeat (first|apply rA|apply rN|apply rD));exact Kd.R_mono HO_377001.out (fun _ hk=>by first|exact ⟨hk.1.2,⟨hk.2,hk.1.1⟩⟩|(revert hk;simp only [and_imp];intros;(repeat' apply And.intro) <;> assumption))⟩,⟨bk_ BK360⟩,⟨bk_ BK361⟩,⟨bk_ BK362⟩,⟨bk_ BK369⟩,⟨bk_ BK376⟩,⟨bl_ HB⟩⟩
       ·rw [if_neg c78] at H
        have c78b0 : decide (8192 < (t377.length : Int)) = false:=decide_eq_false c78
        have c78b1 : decide (8192 < t377.length) = false:=decide_eq_false (by omega)
        clear c78
        (first|rw [c78b0]|(simp only [i64_w,i32_w];rw [c78b0])|skip)
        have H':=Aside0.mk H
        clear H
        obtain ⟨Ao80,co80,eo80⟩:=Kd.R_slice HO379.out
        subst eo80
        obtain ⟨Ao81,co81,eo81⟩:=Kd.R_slice HO382.out
        subst eo81
        go_wp2
        go_meet
        case rel=>exact ⟨_,(decide ((t380.length : Int) > 8192)),(by first|rfl|(simp;done)|(simp [*];done)),H',⟨by have:=HJ4.out;first|omega|exact Nat.le_refl _⟩,⟨by (with_reducible repeat (first|apply rA|apply rN|apply rD));exact Kd.R_mono HO379.out (fun _ hk=>by first|exact ⟨hk.2,⟨hk.1.1.2,hk.1.2⟩⟩|(revert hk;simp only [and_imp];intros;(repeat' apply And.intro) <;> assumption))⟩,⟨by (with_reducible repeat (first|apply rA|apply rN|apply rD));exact Kd.R_mono HO382.out (fun _ hk=>by first|exact ⟨hk.2,⟨hk.1.1.2,hk.1.2⟩⟩|(revert hk;simp only [and_imp];intros;(repeat' apply And.intro) <;> assumption))⟩,⟨by (with_reducible repeat (first|apply rA|apply rN|apply rD));exact Kd.R_mono HO_370001.out (fun _ hk=>by first|exact ⟨hk.1.2,⟨hk.2,hk.1.1⟩⟩|(revert hk;simp only [and_imp];intros;(repeat' apply And.intro) <;> assumption))⟩,⟨by (with_reducible repeat (first|apply rA|apply rN|apply rD));exact Kd.R_mono HO_377001.out (fun _ hk=>by first|exact ⟨hk.1.2,⟨hk.2,hk.1.1⟩⟩|(revert hk;simp only [and_imp];intros;(repeat' apply And.intro) <;> assumption))⟩,⟨bk_ BK360⟩,⟨bk_ BK361⟩,⟨bk_ BK362⟩,⟨bk_ BK369⟩,⟨bk_ BK376⟩,⟨bl_ HB⟩⟩
      case rest =>
       clear HC65
       try clear c1
       try clear c2
       try clear p2
       try clear c3
       try clear c4
       try clear c5
       try clear c6
       try clear p6
       try clear c7
       try clear c9
       try clear c10
       try clear c14
       try clear c15
       try clear c16
       try clear c19
       try clear c23
       try clear c24
       try clear c25
       try clear c26
       try clear c29
       try clear c30
       try clear c31
       try clear c32
       try clear c33
       try clear c34
       try clear c35
       try clear c36
       try clear c36b0
       try clear c36b1
       try clear c36b2
       try clear c37
       try clear c38
       try clear c39
       try clear c40
       try clear c42
       try clear c43
       try clear c44
       try clear c46
       try clear c47
       try clear c49
       try clear c49b0
       try clear c49b1
       try clear c49b2
       try clear c50
       try clear c51
       try clear c52
       try clear c53
       try clear c55
       try clear c56
       try clear c57
       try clear c58
       try clear c59
       try clear c60
       try clear p64
       try clear c66
       try clear c67
       try clear c68
       try clear c69
       try clear c71
       try clear c72
       try clear c73
       try clear c78
       try clear c78b0
       try clear c78b1
       try clear hcz11_0
       try clear hcz11_1
       try clear hcz11_2
       try clear hcz17_0
       try clear hcz17_1
       try clear hcz17_2
       try clear hcz20_0
       try clear hcz20_1
       try clear hcz20_2
       try clear hcz27_0
       try clear hcz27_1
       try clear hcz27_2
       try clear hcz35_0
       try clear hcz35_1
       try clear hcz35_2
       try clear hcz41_0
       try clear hcz41_1
       try clear hcz41_2
       try clear hcz45_0
       try clear hcz45_1
       try clear hcz45_2
       try clear hcz48_0
       try clear hcz48_1
       try clear hcz48_2
       try clear hcz54_0
       try clear hcz54_1
       try clear hcz54_2
       try clear hcz58_0
       try clear hcz58_1
       try clear hcz58_2
       try clear hcz61_0
       try clear hcz61_1
       try clear hcz61_2
       try clear hcz70_0
       try clear hcz70_1
       try clear hcz70_2
       try clear hcz74_0
       try clear hcz74_1
       try clear hcz74_2
       try clear hcz76_0
       try clear hcz76_1
       try clear hcz76_2
       try clear hfz11_0
       try clear hfz11_1
       try clear hfz11_2
       try clear hfz17_0
       try clear hfz17_1
       try clear hfz17_2
       try clear hfz20_0
       try clear hfz20_1
       try clear hfz20_2
       try clear hfz27_0
       try clear hfz27_1
       try clear hfz27_2
       try clear hfz35_0
       try clear hfz35_1
       try clear hfz35_2
       try clear hfz41_0
       try clear hfz41_1
       try clear hfz41_2
       try clear hfz45_0
       try clear hfz45_1
       try clear hfz45_2
       try clear hfz48_0
       try clear hfz48_1
       try clear hfz48_2
       try clear hfz54_0
       try clear hfz54_1
       try clear hfz54_2
       try clear hfz58_0
       try clear hfz58_1
       try clear hfz58_2
       try clear hfz61_0
       try clear hfz61_1
       try clear hfz61_2
       try clear hfz70_0
       try clear hfz70_1
       try clear hfz70_2
       try clear hfz74_0
       try clear hfz74_1
       try clear hfz74_2
       try clear hfz76_0
       try clear hfz76_1
       try clear hfz76_2
       try clear p2
       obtain ⟨kq,x66_64,rfl,HA,HJ64,HO_11,HO_12,HO_370001,HO_377001,BK360,BK361,BK362,BK369,BK376,HB⟩:=hcut
       cases kq with
       | zero => exact absurd HA.out (by simp [r03_Add.j1])
       | succ kj64 =>
        have H:=HA.out
        clear HA
        simp only [r03_Add.j1] at H
        by_cases c82 : x66_64 = true
        ·subst c82
         have H1 : (some (false,([] : List Int),0,2)) = some (r1,r2,r3,r4):=by rw [if_pos rfl] at H;exact H
         clear H
         have H:=H1
         clear H1
         simp only [Option.some.injEq,Prod.mk.injEq] at H
         obtain ⟨rfl,rfl,rfl,rfl⟩:=H
         have hnb83:=NB362_360.out
         have hnc83:=NB360_362.out
         have hnb84:=NB362_361.out
         have hnc84:=NB361_362.out
         have hnb85:=NB362_369.out
         have hnc85:=NB369_362.out
         have hnb86:=NB362_376.out
         have hnc86:=NB376_362.out
         have hcz87_0:=bc_ BK362 0
         have hcz87_1:=bc_ BK362 1
         have hcz87_2:=bc_ BK362 2
         have hfz87_0:=bz_ BK362 0
         have hfz87_1:=bz_ BK362 1
         have hfz87_2:=bz_ BK362 2
         go_wp2
         refine bodyPost_ret (results_ct rfl _ _ gb362 43 #[.bool false,.slice none 0 0,.int .i64 0] (0,0) _ rfl (by (with_reducible repeat (first|apply bN|apply bD|apply bA));refine blk_put (cs:=#[.bool false,.slice none 0 0,.int .i64 0]) ?_ 2 _ rfl;(with_reducible repeat (first|apply bN|apply bD|apply bA));refine blk_put (cs:=#[.bool false,.slice none 0 0,.int .i64 0]) ?_ 1 _ rfl;(with_reducible repeat (first|apply bN|apply bD|apply bA));refine blk_put (cs:=#[.bool false,.slice none 0 0,.int .i64 0]) ?_ 0 _ rfl;exact bk_ BK362) Try.underlying43 rfl (by kernel_rfl)) rfl ?_
         exact ⟨_,by first|rfl|(simp [errW_none,errW_some] <;> rfl)|(simp only [← hji62];first|rfl|(simp [errW_none,errW_some] <;> rfl))|(simp [*,errW_none,errW_some] <;> rfl),by first|exact Kd.R_nil _ _ _ _ _|exact Kd.N_nil _ _ _ _ _|exact Kd.V_nil _ _ _ _ _|exact Kd.Q_nil _ _ _ _ _|exact Kd.S_nil _ _ _ _ _,bl_ HB⟩
        ·replace c82:=Bool.eq_false_iff.mpr c82
         subst c82
         have H1 : (if (t363 == t370) = true then ((r02_Plus.f kj64 t377 t380).bind fun t383=>((r03_told.f kj64 t363 t383 ji62).bind fun bt386=>(some (bt386.1,bt386.2.1,bt386.2.2.1,bt386.2.2.2)))) else ((r02_Cmp.f kj64 t377 t380).bind fun t392=>(if t392 ≥ 0 then ((r02_Minus.f kj64 t377 t380).bind fun t393=>((r03_told.f kj64 t363 t393 ji62).bind fun bt396=>(some (bt396.1,bt396.2.1,bt396.2.2.1,bt396.2.2.2)))) else ((r02_Minus.f kj64 t380 t377).bind fun t402=>((r03_told.f kj64 t370 t402 ji62).bind fun bt405=>(some (bt405.1,bt405.2.1,bt405.2.2.1,bt405.2.2.2))))))) = some (r1,r2,r3,r4):=by rw [if_neg (show ¬ (false = true) by decide)] at H;exact H
         clear H
         have H:=H1
         clear H1
         by_cases c88 : (t363 == t370) = true
         ·rw [if_pos c88] at H
          have c88b0 : (t363 == t370) = true:=c88
          (try (have c88b1 : decide (t363 = t370) = true:=by simpa using c88))
          (try (have c88b2 : (t363 == t370) = true:=by simpa using c88))
          clear c88
          obtain ⟨t383,A89,H⟩:=ob_ H
          try dsimp only at H
          obtain ⟨⟨t386,t387,t390,t391⟩,A90,H⟩:=ob_ H
          try dsimp only at H
          simp only [Option.some.injEq,Prod.mk.injEq] at H
          obtain ⟨rfl,rfl,rfl,rfl⟩:=H
          have hnb91:=NB369_360.out
          have hnc91:=NB360_369.out
          have hnb92:=NB369_361.out
          have hnc92:=NB361_369.out
          have hnb93:=NB369_362.out
          have hnc93:=NB362_369.out
          have hnb94:=NB369_376.out
          have hnc94:=NB376_369.out
          have hcz95_0:=bc_ BK369 0
          have hcz95_1:=bc_ BK369 1
          have hcz95_2:=bc_ BK369 2
          have hfz95_0:=bz_ BK369 0
          have hfz95_1:=bz_ BK369 1
          have hfz95_2:=bz_ BK369 2
          have hnb96:=NB376_360.out
          have hnc96:=NB360_376.out
          have hnb97:=NB376_361.out
          have hnc97:=NB361_376.out
          have hnb98:=NB376_362.out
          have hnc98:=NB362_376.out
          have hcz99_0:=bc_ BK376 0
          have hcz99_1:=bc_ BK376 1
          have hcz99_2:=bc_ BK376 2
          have hfz99_0:=bz_ BK376 0
          have hfz99_1:=bz_ BK376 1
          have hfz99_2:=bz_ BK376 2
          try go_wp2
          have n0_:=Aside0.mk (Kd.R_drew HO_11.out)
          have n1_:=Aside0.mk (Kd.R_drew HO_12.out)
          have n2_:=Aside0.mk (Kd.R_drew HO_370001.out)
          have n3_:=Aside0.mk (Kd.R_drew HO_377001.out)
          have n4_:=Aside0.mk (blk_drew BK360.out)
          have n5_:=Aside0.mk (blk_drew BK361.out)
          have n6_:=Aside0.mk (blk_drew BK362.out)
          have n7_:=Aside0.mk (blk_drew BK369.out)
          have n8_:=Aside0.mk (blk_drew BK376.out)
          have n9_:=Aside0.mk (below_drew1 HB.out)
          clear HO_11
          clear HO_12
          clear HO_370001
          clear HO_377001
          clear BK360
          clear BK361
          clear BK362
          clear BK369
          clear BK376
          clear HB
          have HO_11:=n0_
          have HO_12:=n1_
          have HO_370001:=n2_
          have HO_377001:=n3_
          have BK360:=n4_
          have BK361:=n5_
          have BK362:=n6_
          have BK369:=n7_
          have BK376:=n8_
          have HB:=n9_
          clear n0_ n1_ n2_ n3_ n4_ n5_ n6_ n7_ n8_ n9_
          obtain ⟨Ao101,co101,eo101⟩:=Kd.R_slice HO_11.out
          (first|subst eo101|(injection eo101 with f1_ f2_ f3_;have f4_:=f1_.symm;have f5_:=f3_.symm;clear f1_ f2_ f3_;subst f4_;subst f5_))
          obtain ⟨Ao102,co102,eo102⟩:=Kd.R_slice HO_12.out
          (first|subst eo102|(injection eo102 with f1_ f2_ f3_;have f4_:=f1_.symm;have f5_:=f3_.symm;clear f1_ f2_ f3_;subst f4_;subst f5_))
          refine start_ (n:=11) (S:=fun w'=>w'.cell? ⟨gb369,0,none⟩ = some (.bool t363) ∧ w'.cell? ⟨gb369,1,none⟩ = some (.slice Ao18 t364.length co18) ∧ w'.cell? ⟨gb369,2,none⟩ = some (.int .i64 t367)) (ds:=[]) #[false,false,false,false,false,false,false,false,false,false,false] (by kernel_rfl) rfl rfl ⟨(bc_ BK369 0),(bc_ BK369 1),(bc_ BK369 2)⟩ (fun hHeld=>?_);refine with_tabW r03_Add.tab15 r03_Add.bits15 (fun HT_ HW_=>?_)
          generalize wc.drew = w100 at HO_11 HO_12 HO_370001 HO_377001 BK360 BK361 BK362 BK369 BK376 HB hHeld ⊢
          refine pure_ (i:=0) (N:=some 73) (v:=?_) (a':=?_) #[true,false,false,false,false,false,false,false,false,false,false] rfl rfl (any_of HT_.out (by kernel_rfl)) (fun _ _ _ h=>h) (Or.inl ⟨by rfl,?_⟩) ?_ ?_
          rotate_left
          ·intro w'
           go_simp
           with_reducible rfl
          rotate_left
          ·exact nf_
          refine pure_ (i:=2) (N:=some 75) (v:=?_) (a':=?_) #[true,false,true,false,false,false,false,false,false,false,false] rfl rfl (any_of HT_.out (by kernel_rfl)) (fun _ _ _ h=>h) (Or.inl ⟨by rfl,?_⟩) ?_ ?_
          rotate_left
          ·intro w'
           go_simp
           with_reducible rfl
          rotate_left
          ·exact nf_
          refine pure_ (i:=3) (N:=some 76) (v:=?_) (a':=?_) #[true,false,true,true,false,false,false,false,false,false,false] rfl rfl (any_of HT_.out (by kernel_rfl)) (fun _ _ _ h=>h) (Or.inl ⟨by rfl,?_⟩) ?_ ?_
          rotate_left
          ·intro w'
           go_simp
           with_reducible rfl
          rotate_left
          ·exact nf_
          refine pure_ (i:=5) (N:=some 78) (v:=?_) (a':=?_) #[true,false,true,true,false,true,false,false,false,false,false] rfl rfl (any_of HT_.out (by kernel_rfl)) (fun _ _ _ h=>h) (Or.inl ⟨by rfl,?_⟩) ?_ ?_
          rotate_left
          ·intro w'
           go_simp
           with_reducible rfl
          rotate_left
          ·exact nf_
          refine take_ (i:=1) (N:=some 74) (v:=?_) (a':=?_) #[true,true,true,true,false,true,false,false,false,false,false] rfl rfl (take_ofW HT_.out HW_.out (by kernel_rfl)) (fun _ _ _ h=>h) (Or.inl ⟨by rfl,?_⟩) hHeld ?_ ?_
          rotate_left
          ·rintro w' ⟨s0,s1,s2⟩
           go_simp
           with_reducible rfl
          rotate_left
          ·exact nf_
          refine one_ (i:=4) (N:=some 77) #[true,true,true,true,true,true,false,false,false,false,false] rfl rfl (one_of HT_.out (by kernel_rfl)) (by decide) (fun K hK=>?_)
          refine goes_ Try.func60 (by kernel_rfl) rfl #[.slice Ao101 t377.length co101,.slice Ao102 t380.length co102] (by rfl) rfl rfl (by (try simp only [List.map_toArray,List.map_cons,List.map_nil]);first|done|rfl|(simp only [List.length_drop,List.length_take];rfl)) ?_
          with_reducible refine (r02_Plus.calls kj64 _ _ t377 _ _ t380 t383 _ ?side1 ?side2 ?side3 ?side4 A89.out).mono ?_
          (case side1=>repeat (first|exact (Kd.R_reads' HO_11.out).2.2|(with_reducible first|apply cA|apply cN|apply cD)))
          (case side2=>exact (Kd.R_reads' HO_11.out).2.1)
          (case side3=>repeat (first|exact (Kd.R_reads' HO_12.out).2.2|(with_reducible first|apply cA|apply cN|apply cD)))
          (case side4=>exact (Kd.R_reads' HO_12.out).2.1)
          rintro e w103 ⟨v384,rfl,ho0,hb⟩
          refine ⟨_,rfl,?_⟩
          have n0_:=Aside0.mk (Kd.R_elder' (rr_ HO_11) (Kd.R_base ho0) hb)
          have n1_:=Aside0.mk (Kd.R_elder' (rr_ HO_12) (Kd.R_base ho0) hb)
          have n2_:=Aside0.mk (Kd.R_elder' (rr_ HO_370001) (Kd.R_base ho0) hb)
          have n3_:=Aside0.mk (Kd.R_elder' (rr_ HO_377001) (Kd.R_base ho0) hb)
          have n4_:=Aside0.mk (Kd.R_lower (Kd.R_new' (Kd.R_new' (Kd.R_new' (Kd.R_new' ho0 (Kd.R_lt (rr_ HO_11))) (Kd.R_lt (rr_ HO_12))) (Kd.R_lt (rr_ HO_370001))) (Kd.R_lt (rr_ HO_377001))) (below_size (bl_ HB)))
          have n5_:=kb_ BK360 hb
          have n6_:=kb_ BK361 hb
          have n7_:=kb_ BK362 hb
          have n8_:=kb_ BK369 hb
          have n9_:=kb_ BK376 hb
          have n10_:=bs_ HB hb
          clear HO_11
          clear HO_12
          clear HO_370001
          clear HO_377001
          clear BK360
          clear BK361
          clear BK362
          clear BK369
          clear BK376
          clear HB
          have HO_11:=n0_
          have HO_12:=n1_
          have HO_370001:=n2_
          have HO_377001:=n3_
          have HO385:=n4_
          have BK360:=n5_
          have BK361:=n6_
          have BK362:=n7_
          have BK369:=n8_
          have BK376:=n9_
          have HB:=n10_
          clear n0_ n1_ n2_ n3_ n4_ n5_ n6_ n7_ n8_ n9_ n10_
          (try clear hb)
          (try clear hb2)
          (try clear hk)
          (try clear hi)
          (try clear ho0)
          obtain ⟨Ao104,co104,eo104⟩:=Kd.R_slice HO385.out
          (first|subst eo104|(injection eo104 with f1_ f2_ f3_;have f4_:=f1_.symm;have f5_:=f3_.symm;clear f1_ f2_ f3_;subst f4_;subst f5_))
          refine hK.out _ _ ⟨(bc_ BK369 0),(bc_ BK369 1),(bc_ BK369 2)⟩ (fun hHeld=>?_)
          clear hK K
          refine norm_ (a':=?_) ?_ ?_
          rotate_left
          ·show Act.put _ (some 77) _ = _
           simp only [Act.put,List.setIfInBounds_toArray,List.set_cons_zero,List.set_cons_succ,i64_w,i32_w]
           rfl
          refine one_ (i:=6) (N:=some 79) #[true,true,true,true,true,true,true,false,false,false,false] rfl rfl (one_of HT_.out (by kernel_rfl)) (by decide) (fun K hK=>?_)
          refine goes_ Try.func59 (by kernel_rfl) rfl #[.bool t363,.slice Ao104 t383.length co104,.int .i64 ji62] (by rfl) rfl rfl (by (try simp only [List.map_toArray,List.map_cons,List.map_nil]);first|done|(simp only [hji62];rfl)|rfl|(simp only [List.length_drop,List.length_take];rfl)) ?_
          with_reducible refine (r03_told.calls kj64 t363 _ _ t383 ji62 t386 t387 t390 t391 _ ?side1 ?side2 A90.out).mono ?_
          (case side1=>repeat (first|exact (Kd.R_reads' HO385.out).2.2|(with_reducible first|apply cA|apply cN|apply cD)))
          (case side2=>exact (Kd.R_reads' HO385.out).2.1)
          rintro e w105 ⟨v388,rfl,ho0,hb⟩
          refine ⟨_,rfl,?_⟩
          have n0_:=Aside0.mk (Kd.R_elder' (rr_ HO_11) (Kd.R_base ho0) hb)
          have n1_:=Aside0.mk (Kd.R_elder' (rr_ HO_12) (Kd.R_base ho0) hb)
          have n2_:=Aside0.mk (Kd.R_elder' (rr_ HO_370001) (Kd.R_base ho0) hb)
          have n3_:=Aside0.mk (Kd.R_elder' (rr_ HO_377001) (Kd.R_base ho0) hb)
          have n4_:=Aside0.mk (Kd.R_elder' (rr_ HO385) (Kd.R_base ho0) hb)
          have n5_:=Aside0.mk (Kd.R_lower (Kd.R_new' (Kd.R_new' (Kd.R_new' (Kd.R_new' (Kd.R_new' ho0 (Kd.R_lt (rr_ HO_11))) (Kd.R_lt (rr_ HO_12))) (Kd.R_lt (rr_ HO_370001))) (Kd.R_lt (rr_ HO_377001))) (Kd.R_lt (rr_ HO385))) (below_size (bl_ HB)))
          have n6_:=kb_ BK360 hb
          have n7_:=kb_ BK361 hb
          have n8_:=kb_ BK362 hb
          have n9_:=kb_ BK369 hb
          have n10_:=kb_ BK376 hb
          have n11_:=bs_ HB hb
          clear HO_11
          clear HO_12
          clear HO_370001
          clear HO_377001
          clear HO385
          clear BK360
          clear BK361
          clear BK362
          clear BK369
          clear BK376
          clear HB
          have HO_11:=n0_
          have HO_12:=n1_
          have HO_370001:=n2_
          have HO_377001:=n3_
          have HO385:=n4_
          have HO389:=n5_
          have BK360:=n6_
          have BK361:=n7_
          have BK362:=n8_
          have BK369:=n9_
          have BK376:=n10_
          have HB:=n11_
          clear n0_ n1_ n2_ n3_ n4_ n5_ n6_ n7_ n8_ n9_ n10_ n11_
          (try clear hb)
          (try clear hb2)
          (try clear hk)
          (try clear hi)
          (try clear ho0)
          obtain ⟨Ao107,co107,eo107⟩:=Kd.R_slice HO389.out
          (first|subst eo107|(injection eo107 with f1_ f2_ f3_;have f4_:=f1_.symm;have f5_:=f3_.symm;clear f1_ f2_ f3_;subst f4_;subst f5_))
          refine hK.out _ _ ⟨(bc_ BK369 0),(bc_ BK369 1),(bc_ BK369 2)⟩ (fun hHeld=>?_)
          clear hK K
          refine norm_ (a':=?_) ?_ ?_
          rotate_left
          ·show Act.put _ (some 79) _ = _
           simp only [Act.put,List.setIfInBounds_toArray,List.set_cons_zero,List.set_cons_succ,i64_w,i32_w]
           rfl
          refine pure_ (i:=7) (N:=some 80) (v:=?_) (a':=?_) #[true,true,true,true,true,true,true,true,false,false,false] rfl rfl (any_of HT_.out (by kernel_rfl)) (fun _ _ _ h=>h) (Or.inl ⟨by rfl,?_⟩) ?_ ?_
          rotate_left
          ·intro w'
           go_simp
           with_reducible rfl
          rotate_left
          ·exact nf_
          refine pure_ (i:=8) (N:=some 81) (v:=?_) (a':=?_) #[true,true,true,true,true,true,true,true,true,false,false] rfl rfl (any_of HT_.out (by kernel_rfl)) (fun _ _ _ h=>h) (Or.inl ⟨by rfl,?_⟩) ?_ ?_
          rotate_left
          ·intro w'
           go_simp
           with_reducible rfl
          rotate_left
          ·exact nf_
          refine one_ (i:=9) (N:=none) #[true,true,true,true,true,true,true,true,true,true,false] rfl rfl (one_of HT_.out (by kernel_rfl)) (by decide) (fun K hK=>?_)
          have hs106 : w105.cell? ⟨gb362,0,none⟩ = some (.bool false):=bc_ BK362 0
          have hfs106:=bz_ BK362 0
          have hns106_0:=NB360_362.out
          have hns106_1:=NB361_362.out
          have hns106_3:=NB369_362.out
          have hns106_4:=NB376_362.out
          have hms106_0:=NB362_360.out
          have hms106_1:=NB362_361.out
          have hms106_3:=NB362_369.out
          have hms106_4:=NB362_376.out
          have hs108 : w105.cell? ⟨gb362,1,none⟩ = some (.slice none 0 0):=bc_ BK362 1
          have hfs108:=bz_ BK362 1
          have hns108_0:=NB360_362.out
          have hns108_1:=NB361_362.out
          have hns108_3:=NB369_362.out
          have hns108_4:=NB376_362.out
          have hms108_0:=NB362_360.out
          have hms108_1:=NB362_361.out
          have hms108_3:=NB362_369.out
          have hms108_4:=NB362_376.out
          have hs109 : w105.cell? ⟨gb362,2,none⟩ = some (.int .i64 0):=bc_ BK362 2
          have hfs109:=bz_ BK362 2
          have hns109_0:=NB360_362.out
          have hns109_1:=NB361_362.out
          have hns109_3:=NB369_362.out
          have hns109_4:=NB376_362.out
          have hms109_0:=NB362_360.out
          have hms109_1:=NB362_361.out
          have hms109_3:=NB362_369.out
          have hms109_4:=NB362_376.out
          refine skip_ (w1:=?_) (by rfl) rfl ?_ ?_
          rotate_left
          ·go_simp
           rfl
          refine hK.out _ _ ⟨((cell_far (p:=⟨gb362,_,none⟩) NB369_362.out _).trans (((cell_far (p:=⟨gb362,_,none⟩) NB369_362.out _).trans (((cell_far (p:=⟨gb362,_,none⟩) NB369_362.out _).trans (hHeld.1)))))),((cell_far (p:=⟨gb362,_,none⟩) NB369_362.out _).trans (((cell_far (p:=⟨gb362,_,none⟩) NB369_362.out _).trans (((cell_far (p:=⟨gb362,_,none⟩) NB369_362.out _).trans (hHeld.2.1)))))),((cell_far (p:=⟨gb362,_,none⟩) NB369_362.out _).trans (((cell_far (p:=⟨gb362,_,none⟩) NB369_362.out _).trans (((cell_far (p:=⟨gb362,_,none⟩) NB369_362.out _).trans (hHeld.2.2))))))⟩ (fun hHeld=>?_)
          clear hK K
          refine pure_ (i:=10) (N:=some 5) (v:=?_) (a':=?_) #[true,true,true,true,true,true,true,true,true,true,true] rfl rfl (any_of HT_.out (by kernel_rfl)) (fun _ _ _ h=>h) (Or.inl ⟨by rfl,?_⟩) ?_ ?_
          rotate_left
          ·intro w'
           go_simp
           with_reducible rfl
          rotate_left
          ·exact nf_
          refine done_ (done_of HT_.out (by kernel_rfl)) ?_
          try go_wp2
          refine bodyPost_ret (results_ct rfl _ _ gb362 43 #[.bool t386,.slice Ao107 t387.length co107,.int .i64 t390] (0,0) _ rfl (by (with_reducible repeat (first|apply bN|apply bD|apply bA));refine blk_put (cs:=#[.bool t386,.slice Ao107 t387.length co107,.int .i64 0]) ?_ 2 _ rfl;(with_reducible repeat (first|apply bN|apply bD|apply bA));refine blk_put (cs:=#[.bool t386,.slice none 0 0,.int .i64 0]) ?_ 1 _ rfl;(with_reducible repeat (first|apply bN|apply bD|apply bA));refine blk_put (cs:=#[.bool false,.slice none 0 0,.int .i64 0]) ?_ 0 _ rfl;exact bk_ BK362) Try.underlying43 rfl (by kernel_rfl)) rfl ?_
          exact ⟨_,by first|rfl|(simp [errW_none,errW_some] <;> rfl)|(simp only [← hji62];first|rfl|(simp [errW_none,errW_some] <;> rfl))|(simp [*,errW_none,errW_some] <;> rfl),by (with_reducible repeat (first|apply rA|apply rN|apply rD));exact Kd.R_mono (Kd.R_far (p:=⟨gb362,2,none⟩) (Kd.R_far (p:=⟨gb362,1,none⟩) (Kd.R_far (p:=⟨gb362,0,none⟩) (Kd.R_types HO389.out BK362.out (by decide)) (fun _ hk=>hk.2) (.bool t386)) (fun _ hk=>hk.2) (.slice Ao107 t387.length co107)) (fun _ hk=>hk.2) (.int .i64 t390)) (fun _ hk=>trivial),bl_ HB⟩
         ·rw [if_neg c88] at H
          have c88b0 : (t363 == t370) = false:=by simpa using c88
          (try (have c88b1 : decide (t363 = t370) = false:=by simpa using c88))
          (try (have c88b2 : (t363 == t370) = false:=by simpa using c88))
          (try (have c88b3 : ¬ (t363 = t370):=by simpa using c88))
          clear c88
          obtain ⟨t392,A110,H⟩:=ob_ H
          try dsimp only at H
          by_cases c111 : t392 ≥ 0
          ·rw [if_pos c111] at H
           have c111b0 : decide (0 ≤ t392) = true:=decide_eq_true c111
           clear c111
           obtain ⟨t393,A112,H⟩:=ob_ H
           try dsimp only at H
           obtain ⟨⟨t396,t397,t400,t401⟩,A113,H⟩:=ob_ H
           try dsimp only at H
           simp only [Option.some.injEq,Prod.mk.injEq] at H
           obtain ⟨rfl,rfl,rfl,rfl⟩:=H
           have hnb114:=NB369_360.out
           have hnc114:=NB360_369.out
           have hnb115:=NB369_361.out
           have hnc115:=NB361_369.out
           have hnb116:=NB369_362.out
           have hnc116:=NB362_369.out
           have hnb117:=NB369_376.out
           have hnc117:=NB376_369.out
           have hcz118_0:=bc_ BK369 0
           have hcz118_1:=bc_ BK369 1
           have hcz118_2:=bc_ BK369 2
           have hfz118_0:=bz_ BK369 0
           have hfz118_1:=bz_ BK369 1
           have hfz118_2:=bz_ BK369 2
           have hnb119:=NB376_360.out
           have hnc119:=NB360_376.out
           have hnb120:=NB376_361.out
           have hnc120:=NB361_376.out
           have hnb121:=NB376_362.out
           have hnc121:=NB362_376.out
           have hcz122_0:=bc_ BK376 0
           have hcz122_1:=bc_ BK376 1
           have hcz122_2:=bc_ BK376 2
           have hfz122_0:=bz_ BK376 0
           have hfz122_1:=bz_ BK376 1
           have hfz122_2:=bz_ BK376 2
           obtain ⟨Ao123,co123,eo123⟩:=Kd.R_slice HO_11.out
           subst eo123
           obtain ⟨Ao124,co124,eo124⟩:=Kd.R_slice HO_12.out
           subst eo124
           try go_wp2_with (first|((with_reducible refine gate_callee (f:=61) rfl ?_);refine goesM (some 84) Try.func61 #[.slice Ao123 t377.length co123,.slice Ao124 t380.length co124] ?_;(with_reducible refine (r02_Cmp.calls kj64 _ _ t377 _ _ t380 t392 _ ?side1 ?side2 ?side3 ?side4 A110.out).mono ?_);(case side1=>repeat (first|exact (Kd.R_reads' HO_11.out).2.2|(with_reducible first|apply cA|apply cN|apply cD)));(case side2=>exact (Kd.R_reads' HO_11.out).2.1);(case side3=>repeat (first|exact (Kd.R_reads' HO_12.out).2.2|(with_reducible first|apply cA|apply cN|apply cD)));(case side4=>exact (Kd.R_reads' HO_12.out).2.1);rintro e w' ⟨rfl,⟨nd,rfl⟩⟩;refine ⟨_,rfl,?_⟩;(try (rw [drewN_self wc];generalize hq_ : World.drewN wc _ = wc;have n0_ : Aside0 (Kd.R (Kd.int .u32) 72 wc w.heap.size (fun k_=>some k_ ≠ (.slice Ao124 t380.length co124 : Value).ownBlock ∧ some k_ ≠ (.slice Ao18 t364.length co18 : Value).ownBlock ∧ some k_ ≠ (.slice Ao28 t371.length co28 : Value).ownBlock) (.slice Ao123 t377.length co123) t377):=⟨by rw [← hq_];exact (rr_ HO_11)⟩;have n1_ : Aside0 (Kd.R (Kd.int .u32) 72 wc w.heap.size (fun k_=>some k_ ≠ (.slice Ao123 t377.length co123 : Value).ownBlock ∧ some k_ ≠ (.slice Ao18 t364.length co18 : Value).ownBlock ∧ some k_ ≠ (.slice Ao28 t371.length co28 : Value).ownBlock) (.slice Ao124 t380.length co124) t380):=⟨by rw [← hq_];exact (rr_ HO_12)⟩;have n2_ : Aside0 (Kd.R (Kd.int .u32) 72 wc w.heap.size (fun k_=>some k_ ≠ (.slice Ao123 t377.length co123 : Value).ownBlock ∧ some k_ ≠ (.slice Ao124 t380.length co124 : Value).ownBlock ∧ some k_ ≠ (.slice Ao28 t371.length co28 : Value).ownBlock) (.slice Ao18 t364.length co18) t364):=⟨by rw [← hq_];exact (rr_ HO_370001)⟩;have n3_ : Aside0 (Kd.R (Kd.int .u32) 72 wc w.heap.size (fun k_=>some k_ ≠ (.slice Ao123 t377.length co123 : Value).ownBlock ∧ some k_ ≠ (.slice Ao124 t380.length co124 : Value).ownBlock ∧ some k_ ≠ (.slice Ao18 t364.length co18 : Value).ownBlock) (.slice Ao28 t371.length co28) t371):=⟨by rw [← hq_];exact (rr_ HO_377001)⟩;have n4_ : Aside0 (wc.heap[gb360]? = some (.cells #[.bool a0_0,.slice A0_1 l0_1.length c0_1,.int .i64 a0_2] 43 (0,0))):=⟨by rw [← hq_];exact (bk_ BK360)⟩;have n5_ : Aside0 (wc.heap[gb361]? = some (.cells #[.bool a1_0,.slice A1_1 l1_1.length c1_1,.int .i64 a1_2] 43 (0,0))):=⟨by rw [← hq_];exact (bk_ BK361)⟩;have n6_ : Aside0 (wc.heap[gb362]? = some (.cells #[.bool false,.slice none 0 0,.int .i64 0] 43 (0,0))):=⟨by rw [← hq_];exact (bk_ BK362)⟩;have n7_ : Aside0 (wc.heap[gb369]? = some (.cells #[.bool t363,.slice Ao18 t364.length co18,.int .i64 t367] 43 (0,0))):=⟨by rw [← hq_];exact (bk_ BK369)⟩;have n8_ : Aside0 (wc.heap[gb376]? = some (.cells #[.bool t370,.slice Ao28 t371.length co28,.int .i64 t374] 43 (0,0))):=⟨by rw [← hq_];exact (bk_ BK376)⟩;have n9_ : Aside0 (Below w.heap.size w wc):=⟨by rw [← hq_];exact (bl_ HB)⟩;clear HO_11 HO_12 HO_370001 HO_377001 BK360 BK361 BK362 BK369 BK376 HB hq_;have HO_11:=n0_;have HO_12:=n1_;have HO_370001:=n2_;have HO_377001:=n3_;have BK360:=n4_;have BK361:=n5_;have BK362:=n6_;have BK369:=n7_;have BK376:=n8_;have HB:=n9_;clear n0_ n1_ n2_ n3_ n4_ n5_ n6_ n7_ n8_ n9_))))
           have n0_:=Aside0.mk (Kd.R_drew HO_11.out)
           have n1_:=Aside0.mk (Kd.R_drew HO_12.out)
           have n2_:=Aside0.mk (Kd.R_drew HO_370001.out)
           have n3_:=Aside0.mk (Kd.R_drew HO_377001.out)
           have n4_:=Aside0.mk (blk_drew BK360.out)
           have n5_:=Aside0.mk (blk_drew BK361.out)
           have n6_:=Aside0.mk (blk_drew BK362.out)
           have n7_:=Aside0.mk (blk_drew BK369.out)
           have n8_:=Aside0.mk (blk_drew BK376.out)
           have n9_:=Aside0.mk (below_drew1 HB.out)
           clear HO_11
           clear HO_12
           clear HO_370001
           clear HO_377001
           clear BK360
           clear BK361
           clear BK362
           clear BK369
           clear BK376
           clear HB
           have HO_11:=n0_
           have HO_12:=n1_
           have HO_370001:=n2_
           have HO_377001:=n3_
           have BK360:=n4_
           have BK361:=n5_
           have BK362:=n6_
           have BK369:=n7_
           have BK376:=n8_
           have HB:=n9_
           clear n0_ n1_ n2_ n3_ n4_ n5_ n6_ n7_ n8_ n9_
           refine start_ (n:=11) (S:=fun w'=>w'.cell? ⟨gb369,0,none⟩ = some (.bool t363) ∧ w'.cell? ⟨gb369,1,none⟩ = some (.slice Ao18 t364.length co18) ∧ w'.cell? ⟨gb369,2,none⟩ = some (.int .i64 t367)) (ds:=[]) #[false,false,false,false,false,false,false,false,false,false,false] (by kernel_rfl) rfl rfl ⟨(bc_ BK369 0),(bc_ BK369 1),(bc_ BK369 2)⟩ (fun hHeld=>?_);refine with_tabW r03_Add.tab17 r03_Add.bits17 (fun HT_ HW_=>?_)
           generalize wc.drew = w125 at HO_11 HO_12 HO_370001 HO_377001 BK360 BK361 BK362 BK369 BK376 HB hHeld ⊢
           refine pure_ (i:=0) (N:=some 86) (v:=?_) (a':=?_) #[true,false,false,false,false,false,false,false,false,false,false] rfl rfl (any_of HT_.out (by kernel_rfl)) (fun _ _ _ h=>h) (Or.inl ⟨by rfl,?_⟩) ?_ ?_
           rotate_left
           ·intro w'
            go_simp
            with_reducible rfl
           rotate_left
           ·exact nf_
           refine pure_ (i:=2) (N:=some 88) (v:=?_) (a':=?_) #[true,false,true,false,false,false,false,false,false,false,false] rfl rfl (any_of HT_.out (by kernel_rfl)) (fun _ _ _ h=>h) (Or.inl ⟨by rfl,?_⟩) ?_ ?_
           rotate_left
           ·intro w'
            go_simp
            with_reducible rfl
           rotate_left
           ·exact nf_
           refine pure_ (i:=3) (N:=some 89) (v:=?_) (a':=?_) #[true,false,true,true,false,false,false,false,false,false,false] rfl rfl (any_of HT_.out (by kernel_rfl)) (fun _ _ _ h=>h) (Or.inl ⟨by rfl,?_⟩) ?_ ?_
           rotate_left
           ·intro w'
            go_simp
            with_reducible rfl
           rotate_left
           ·exact nf_
           refine pure_ (i:=5) (N:=some 91) (v:=?_) (a':=?_) #[true,false,true,true,false,true,false,false,false,false,false] rfl rfl (any_of HT_.out (by kernel_rfl)) (fun _ _ _ h=>h) (Or.inl ⟨by rfl,?_⟩) ?_ ?_
           rotate_left
           ·intro w'
            go_simp
            with_reducible rfl
           rotate_left
           ·exact nf_
           refine take_ (i:=1) (N:=some 87) (v:=?_) (a':=?_) #[true,true,true,true,false,true,false,false,false,false,false] rfl rfl (take_ofW HT_.out HW_.out (by kernel_rfl)) (fun _ _ _ h=>h) (Or.inl ⟨by rfl,?_⟩) hHeld ?_ ?_
           rotate_left
           ·rintro w' ⟨s0,s1,s2⟩
            go_simp
            with_reducible rfl
           rotate_left
           ·exact nf_
           refine one_ (i:=4) (N:=some 90) #[true,true,true,true,true,true,false,false,false,false,false] rfl rfl (one_of HT_.out (by kernel_rfl)) (by decide) (fun K hK=>?_)
           refine goes_ Try.func62 (by kernel_rfl) rfl #[.slice Ao123 t377.length co123,.slice Ao124 t380.length co124] (by rfl) rfl rfl (by (try simp only [List.map_toArray,List.map_cons,List.map_nil]);first|done|rfl|(simp only [List.length_drop,List.length_take];rfl)) ?_
           with_reducible refine (r02_Minus.calls kj64 _ _ t377 _ _ t380 t393 _ ?side1 ?side2 ?side3 ?side4 A112.out).mono ?_
           (case side1=>repeat (first|exact (Kd.R_reads' HO_11.out).2.2|(with_reducible first|apply cA|apply cN|apply cD)))
           (case side2=>exact (Kd.R_reads' HO_11.out).2.1)
           (case side3=>repeat (first|exact (Kd.R_reads' HO_12.out).2.2|(with_reducible first|apply cA|apply cN|apply cD)))
           (case side4=>exact (Kd.R_reads' HO_12.out).2.1)
           rintro e w126 ⟨v394,rfl,ho0,hb⟩
           refine ⟨_,rfl,?_⟩
           have n0_:=Aside0.mk (Kd.R_elder' (rr_ HO_11) (Kd.R_base ho0) hb)
           have n1_:=Aside0.mk (Kd.R_elder' (rr_ HO_12) (Kd.R_base ho0) hb)
           have n2_:=Aside0.mk (Kd.R_elder' (rr_ HO_370001) (Kd.R_base ho0) hb)
           have n3_:=Aside0.mk (Kd.R_elder' (rr_ HO_377001) (Kd.R_base ho0) hb)
           have n4_:=Aside0.mk (Kd.R_lower (Kd.R_new' (Kd.R_new' (Kd.R_new' (Kd.R_new' ho0 (Kd.R_lt (rr_ HO_11))) (Kd.R_lt (rr_ HO_12))) (Kd.R_lt (rr_ HO_370001))) (Kd.R_lt (rr_ HO_377001))) (below_size (bl_ HB)))
           have n5_:=kb_ BK360 hb
           have n6_:=kb_ BK361 hb
           have n7_:=kb_ BK362 hb
           have n8_:=kb_ BK369 hb
           have n9_:=kb_ BK376 hb
           have n10_:=bs_ HB hb
           clear HO_11
           clear HO_12
           clear HO_370001
           clear HO_377001
           clear BK360
           clear BK361
           clear BK362
           clear BK369
           clear BK376
           clear HB
           have HO_11:=n0_
           have HO_12:=n1_
           have HO_370001:=n2_
           have HO_377001:=n3_
           have HO395:=n4_
           have BK360:=n5_
           have BK361:=n6_
           have BK362:=n7_
           have BK369:=n8_
           have BK376:=n9_
           have HB:=n10_
           clear n0_ n1_ n2_ n3_ n4_ n5_ n6_ n7_ n8_ n9_ n10_
           (try clear hb)
           (try clear hb2)
           (try clear hk)
           (try clear hi)
           (try clear ho0)
           obtain ⟨Ao127,co127,eo127⟩:=Kd.R_slice HO395.out
           (first|subst eo127|(injection eo127 with f1_ f2_ f3_;have f4_:=f1_.symm;have f5_:=f3_.symm;clear f1_ f2_ f3_;subst f4_;subst f5_))
           refine hK.out _ _ ⟨(bc_ BK369 0),(bc_ BK369 1),(bc_ BK369 2)⟩ (fun hHeld=>?_)
           clear hK K
           refine norm_ (a':=?_) ?_ ?_
           rotate_left
           ·show Act.put _ (some 90) _ = _
            simp only [Act.put,List.setIfInBounds_toArray,List.set_cons_zero,List.set_cons_succ,i64_w,i32_w]
            rfl
           refine one_ (i:=6) (N:=some 92) #[true,true,true,true,true,true,true,false,false,false,false] rfl rfl (one_of HT_.out (by kernel_rfl)) (by decide) (fun K hK=>?_)
           refine goes_ Try.func59 (by kernel_rfl) rfl #[.bool t363,.slice Ao127 t393.length co127,.int .i64 ji62] (by rfl) rfl rfl (by (try simp only [List.map_toArray,List.map_cons,List.map_nil]);first|done|(simp only [hji62];rfl)|rfl|(simp only [List.length_drop,List.length_take];rfl)) ?_
           with_reducible refine (r03_told.calls kj64 t363 _ _ t393 ji62 t396 t397 t400 t401 _ ?side1 ?side2 A113.out).mono ?_
           (case side1=>repeat (first|exact (Kd.R_reads' HO395.out).2.2|(with_reducible first|apply cA|apply cN|apply cD)))
           (case side2=>exact (Kd.R_reads' HO395.out).2.1)
           rintro e w128 ⟨v398,rfl,ho0,hb⟩
           refine ⟨_,rfl,?_⟩
           have n0_:=Aside0.mk (Kd.R_elder' (rr_ HO_11) (Kd.R_base ho0) hb)
           have n1_:=Aside0.mk (Kd.R_elder' (rr_ HO_12) (Kd.R_base ho0) hb)
           have n2_:=Aside0.mk (Kd.R_elder' (rr_ HO_370001) (Kd.R_base ho0) hb)
           have n3_:=Aside0.mk (Kd.R_elder' (rr_ HO_377001) (Kd.R_base ho0) hb)
           have n4_:=Aside0.mk (Kd.R_elder' (rr_ HO395) (Kd.R_base ho0) hb)
           have n5_:=Aside0.mk (Kd.R_lower (Kd.R_new' (Kd.R_new' (Kd.R_new' (Kd.R_new' (Kd.R_new' ho0 (Kd.R_lt (rr_ HO_11))) (Kd.R_lt (rr_ HO_12))) (Kd.R_lt (rr_ HO_370001))) (Kd.R_lt (rr_ HO_377001))) (Kd.R_lt (rr_ HO395))) (below_size (bl_ HB)))
           have n6_:=kb_ BK360 hb
           have n7_:=kb_ BK361 hb
           have n8_:=kb_ BK362 hb
           have n9_:=kb_ BK369 hb
           have n10_:=kb_ BK376 hb
           have n11_:=bs_ HB hb
           clear HO_11
           clear HO_12
           clear HO_370001
           clear HO_377001
           clear HO395
           clear BK360
           clear BK361
           clear BK362
           clear BK369
           clear BK376
           clear HB
           have HO_11:=n0_
           have HO_12:=n1_
           have HO_370001:=n2_
           have HO_377001:=n3_
           have HO395:=n4_
           have HO399:=n5_
           have BK360:=n6_
           have BK361:=n7_
           have BK362:=n8_
           have BK369:=n9_
           have BK376:=n10_
           have HB:=n11_
           clear n0_ n1_ n2_ n3_ n4_ n5_ n6_ n7_ n8_ n9_ n10_ n11_
           (try clear hb)
           (try clear hb2)
           (try clear hk)
           (try clear hi)
           (try clear ho0)
           obtain ⟨Ao130,co130,eo130⟩:=Kd.R_slice HO399.out
           (first|subst eo130|(injection eo130 with f1_ f2_ f3_;have f4_:=f1_.symm;have f5_:=f3_.symm;clear f1_ f2_ f3_;subst f4_;subst f5_))
           refine hK.out _ _ ⟨(bc_ BK369 0),(bc_ BK369 1),(bc_ BK369 2)⟩ (fun hHeld=>?_)
           clear hK K
           refine norm_ (a':=?_) ?_ ?_
           rotate_left
           ·show Act.put _ (some 92) _ = _
            simp only [Act.put,List.setIfInBounds_toArray,List.set_cons_zero,List.set_cons_succ,i64_w,i32_w]
            rfl
           refine pure_ (i:=7) (N:=some 93) (v:=?_) (a':=?_) #[true,true,true,true,true,true,true,true,false,false,false] rfl rfl (any_of HT_.out (by kernel_rfl)) (fun _ _ _ h=>h) (Or.inl ⟨by rfl,?_⟩) ?_ ?_
           rotate_left
           ·intro w'
            go_simp
            with_reducible rfl
           rotate_left
           ·exact nf_
           refine pure_ (i:=8) (N:=some 94) (v:=?_) (a':=?_) #[true,true,true,true,true,true,true,true,true,false,false] rfl rfl (any_of HT_.out (by kernel_rfl)) (fun _ _ _ h=>h) (Or.inl ⟨by rfl,?_⟩) ?_ ?_
           rotate_left
           ·intro w'
            go_simp
            with_reducible rfl
           rotate_left
           ·exact nf_
           refine one_ (i:=9) (N:=none) #[true,true,true,true,true,true,true,true,true,true,false] rfl rfl (one_of HT_.out (by kernel_rfl)) (by decide) (fun K hK=>?_)
           have hs129 : w128.cell? ⟨gb362,0,none⟩ = some (.bool false):=bc_ BK362 0
           have hfs129:=bz_ BK362 0
           have hns129_0:=NB360_362.out
           have hns129_1:=NB361_362.out
           have hns129_3:=NB369_362.out
           have hns129_4:=NB376_362.out
           have hms129_0:=NB362_360.out
           have hms129_1:=NB362_361.out
           have hms129_3:=NB362_369.out
           have hms129_4:=NB362_376.out
           have hs131 : w128.cell? ⟨gb362,1,none⟩ = some (.slice none 0 0):=bc_ BK362 1
           have hfs131:=bz_ BK362 1
           have hns131_0:=NB360_362.out
           have hns131_1:=NB361_362.out
           have hns131_3:=NB369_362.out
           have hns131_4:=NB376_362.out
           have hms131_0:=NB362_360.out
           have hms131_1:=NB362_361.out
           have hms131_3:=NB362_369.out
           have hms131_4:=NB362_376.out
           have hs132 : w128.cell? ⟨gb362,2,none⟩ = some (.int .i64 0):=bc_ BK362 2
           have hfs132:=bz_ BK362 2
           have hns132_0:=NB360_362.out
           have hns132_1:=NB361_362.out
           have hns132_3:=NB369_362.out
           have hns132_4:=NB376_362.out
           have hms132_0:=NB362_360.out
           have hms132_1:=NB362_361.out
           have hms132_3:=NB362_369.out
           have hms132_4:=NB362_376.out
           refine skip_ (w1:=?_) (by rfl) rfl ?_ ?_
           rotate_left
           ·go_simp
            rfl
           refine hK.out _ _ ⟨((cell_far (p:=⟨gb362,_,none⟩) NB369_362.out _).trans (((cell_far (p:=⟨gb362,_,none⟩) NB369_362.out _).trans (((cell_far (p:=⟨gb362,_,none⟩) NB369_362.out _).trans (hHeld.1)))))),((cell_far (p:=⟨gb362,_,none⟩) NB369_362.out _).trans (((cell_far (p:=⟨gb362,_,none⟩) NB369_362.out _).trans (((cell_far (p:=⟨gb362,_,none⟩) NB369_362.out _).trans (hHeld.2.1)))))),((cell_far (p:=⟨gb362,_,none⟩) NB369_362.out _).trans (((cell_far (p:=⟨gb362,_,none⟩) NB369_362.out _).trans (((cell_far (p:=⟨gb362,_,none⟩) NB369_362.out _).trans (hHeld.2.2))))))⟩ (fun hHeld=>?_)
           clear hK K
           refine pure_ (i:=10) (N:=some 5) (v:=?_) (a':=?_) #[true,true,true,true,true,true,true,true,true,true,true] rfl rfl (any_of HT_.out (by kernel_rfl)) (fun _ _ _ h=>h) (Or.inl ⟨by rfl,?_⟩) ?_ ?_
           rotate_left
           ·intro w'
            go_simp
            with_reducible rfl
           rotate_left
           ·exact nf_
           refine done_ (done_of HT_.out (by kernel_rfl)) ?_
           try go_wp2
           refine bodyPost_ret (results_ct rfl _ _ gb362 43 #[.bool t396,.slice Ao130 t397.length co130,.int .i64 t400] (0,0) _ rfl (by (with_reducible repeat (first|apply bN|apply bD|apply bA));refine blk_put (cs:=#[.bool t396,.slice Ao130 t397.length co130,.int .i64 0]) ?_ 2 _ rfl;(with_reducible repeat (first|apply bN|apply bD|apply bA));refine blk_put (cs:=#[.bool t396,.slice none 0 0,.int .i64 0]) ?_ 1 _ rfl;(with_reducible repeat (first|apply bN|apply bD|apply bA));refine blk_put (cs:=#[.bool false,.slice none 0 0,.int .i64 0]) ?_ 0 _ rfl;exact bk_ BK362) Try.underlying43 rfl (by kernel_rfl)) rfl ?_
           exact ⟨_,by first|rfl|(simp [errW_none,errW_some] <;> rfl)|(simp only [← hji62];first|rfl|(simp [errW_none,errW_some] <;> rfl))|(simp [*,errW_none,errW_some] <;> rfl),by (with_reducible repeat (first|apply rA|apply rN|apply rD));exact Kd.R_mono (Kd.R_far (p:=⟨gb362,2,none⟩) (Kd.R_far (p:=⟨gb362,1,none⟩) (Kd.R_far (p:=⟨gb362,0,none⟩) (Kd.R_types HO399.out BK362.out (by decide)) (fun _ hk=>hk.2) (.bool t396)) (fun _ hk=>hk.2) (.slice Ao130 t397.length co130)) (fun _ hk=>hk.2) (.int .i64 t400)) (fun _ hk=>trivial),bl_ HB⟩
          ·rw [if_neg c111] at H
           have c111b0 : decide (0 ≤ t392) = false:=decide_eq_false c111
           clear c111
           obtain ⟨t402,A133,H⟩:=ob_ H
           try dsimp only at H
           obtain ⟨⟨t405,t406,t409,t410⟩,A134,H⟩:=ob_ H
           try dsimp only at H
           simp only [Option.some.injEq,Prod.mk.injEq] at H
           obtain ⟨rfl,rfl,rfl,rfl⟩:=H
           have hnb135:=NB369_360.out
           have hnc135:=NB360_369.out
           have hnb136:=NB369_361.out
           have hnc136:=NB361_369.out
           have hnb137:=NB369_362.out
           have hnc137:=NB362_369.out
           have hnb138:=NB369_376.out
           have hnc138:=NB376_369.out
           have hcz139_0:=bc_ BK369 0
           have hcz139_1:=bc_ BK369 1
           have hcz139_2:=bc_ BK369 2
           have hfz139_0:=bz_ BK369 0
           have hfz139_1:=bz_ BK369 1
           have hfz139_2:=bz_ BK369 2
           have hnb140:=NB376_360.out
           have hnc140:=NB360_376.out
           have hnb141:=NB376_361.out
           have hnc141:=NB361_376.out
           have hnb142:=NB376_362.out
           have hnc142:=NB362_376.out
           have hcz143_0:=bc_ BK376 0
           have hcz143_1:=bc_ BK376 1
           have hcz143_2:=bc_ BK376 2
           have hfz143_0:=bz_ BK376 0
           have hfz143_1:=bz_ BK376 1
           have hfz143_2:=bz_ BK376 2
           obtain ⟨Ao144,co144,eo144⟩:=Kd.R_slice HO_11.out
           subst eo144
           obtain ⟨Ao145,co145,eo145⟩:=Kd.R_slice HO_12.out
           subst eo145
           try go_wp2_with (first|((with_reducible refine gate_callee (f:=61) rfl ?_);refine goesM (some 84) Try.func61 #[.slice Ao144 t377.length co144,.slice Ao145 t380.length co145] ?_;(with_reducible refine (r02_Cmp.calls kj64 _ _ t377 _ _ t380 t392 _ ?side1 ?side2 ?side3 ?side4 A110.out).mono ?_);(case side1=>repeat (first|exact (Kd.R_reads' HO_11.out).2.2|(with_reducible first|apply cA|apply cN|apply cD)));(case side2=>exact (Kd.R_reads' HO_11.out).2.1);(case side3=>repeat (first|exact (Kd.R_reads' HO_12.out).2.2|(with_reducible first|apply cA|apply cN|apply cD)));(case side4=>exact (Kd.R_reads' HO_12.out).2.1);rintro e w' ⟨rfl,⟨nd,rfl⟩⟩;refine ⟨_,rfl,?_⟩;(try (rw [drewN_self wc];generalize hq_ : World.drewN wc _ = wc;have n0_ : Aside0 (Kd.R (Kd.int .u32) 72 wc w.heap.size (fun k_=>some k_ ≠ (.slice Ao145 t380.length co145 : Value).ownBlock ∧ some k_ ≠ (.slice Ao18 t364.length co18 : Value).ownBlock ∧ some k_ ≠ (.slice Ao28 t371.length co28 : Value).ownBlock) (.slice Ao144 t377.length co144) t377):=⟨by rw [← hq_];exact (rr_ HO_11)⟩;have n1_ : Aside0 (Kd.R (Kd.int .u32) 72 wc w.heap.size (fun k_=>some k_ ≠ (.slice Ao144 t377.length co144 : Value).ownBlock ∧ some k_ ≠ (.slice Ao18 t364.length co18 : Value).ownBlock ∧ some k_ ≠ (.slice Ao28 t371.length co28 : Value).ownBlock) (.slice Ao145 t380.length co145) t380):=⟨by rw [← hq_];exact (rr_ HO_12)⟩;have n2_ : Aside0 (Kd.R (Kd.int .u32) 72 wc w.heap.size (fun k_=>some k_ ≠ (.slice Ao144 t377.length co144 : Value).ownBlock ∧ some k_ ≠ (.slice Ao145 t380.length co145 : Value).ownBlock ∧ some k_ ≠ (.slice Ao28 t371.length co28 : Value).ownBlock) (.slice Ao18 t364.length co18) t364):=⟨by rw [← hq_];exact (rr_ HO_370001)⟩;have n3_ : Aside0 (Kd.R (Kd.int .u32) 72 wc w.heap.size (fun k_=>some k_ ≠ (.slice Ao144 t377.length co144 : Value).ownBlock ∧ some k_ ≠ (.slice Ao145 t380.length co145 : Value).ownBlock ∧ some k_ ≠ (.slice Ao18 t364.length co18 : Value).ownBlock) (.slice Ao28 t371.length co28) t371):=⟨by rw [← hq_];exact (rr_ HO_377001)⟩;have n4_ : Aside0 (wc.heap[gb360]? = some (.cells #[.bool a0_0,.slice A0_1 l0_1.length c0_1,.int .i64 a0_2] 43 (0,0))):=⟨by rw [← hq_];exact (bk_ BK360)⟩;have n5_ : Aside0 (wc.heap[gb361]? = some (.cells #[.bool a1_0,.slice A1_1 l1_1.length c1_1,.int .i64 a1_2] 43 (0,0))):=⟨by rw [← hq_];exact (bk_ BK361)⟩;have n6_ : Aside0 (wc.heap[gb362]? = some (.cells #[.bool false,.slice none 0 0,.int .i64 0] 43 (0,0))):=⟨by rw [← hq_];exact (bk_ BK362)⟩;have n7_ : Aside0 (wc.heap[gb369]? = some (.cells #[.bool t363,.slice Ao18 t364.length co18,.int .i64 t367] 43 (0,0))):=⟨by rw [← hq_];exact (bk_ BK369)⟩;have n8_ : Aside0 (wc.heap[gb376]? = some (.cells #[.bool t370,.slice Ao28 t371.length co28,.int .i64 t374] 43 (0,0))):=⟨by rw [← hq_];exact (bk_ BK376)⟩;have n9_ : Aside0 (Below w.heap.size w wc):=⟨by rw [← hq_];exact (bl_ HB)⟩;clear HO_11 HO_12 HO_370001 HO_377001 BK360 BK361 BK362 BK369 BK376 HB hq_;have HO_11:=n0_;have HO_12:=n1_;have HO_370001:=n2_;have HO_377001:=n3_;have BK360:=n4_;have BK361:=n5_;have BK362:=n6_;have BK369:=n7_;have BK376:=n8_;have HB:=n9_;clear n0_ n1_ n2_ n3_ n4_ n5_ n6_ n7_ n8_ n9_))))
           have n0_:=Aside0.mk (Kd.R_drew HO_11.out)
           have n1_:=Aside0.mk (Kd.R_drew HO_12.out)
           have n2_:=Aside0.mk (Kd.R_drew HO_370001.out)
           have n3_:=Aside0.mk (Kd.R_drew HO_377001.out)
           have n4_:=Aside0.mk (blk_drew BK360.out)
           have n5_:=Aside0.mk (blk_drew BK361.out)
           have n6_:=Aside0.mk (blk_drew BK362.out)
           have n7_:=Aside0.mk (blk_drew BK369.out)
           have n8_:=Aside0.mk (blk_drew BK376.out)
           have n9_:=Aside0.mk (below_drew1 HB.out)
           clear HO_11
           clear HO_12
           clear HO_370001
           clear HO_377001
           clear BK360
           clear BK361
           clear BK362
           clear BK369
           clear BK376
           clear HB
           have HO_11:=n0_
           have HO_12:=n1_
           have HO_370001:=n2_
           have HO_377001:=n3_
           have BK360:=n4_
           have BK361:=n5_
           have BK362:=n6_
           have BK369:=n7_
           have BK376:=n8_
           have HB:=n9_
           clear n0_ n1_ n2_ n3_ n4_ n5_ n6_ n7_ n8_ n9_
           refine start_ (n:=11) (S:=fun w'=>w'.cell? ⟨gb376,0,none⟩ = some (.bool t370) ∧ w'.cell? ⟨gb376,1,none⟩ = some (.slice Ao28 t371.length co28) ∧ w'.cell? ⟨gb376,2,none⟩ = some (.int .i64 t374)) (ds:=[]) #[false,false,false,false,false,false,false,false,false,false,false] (by kernel_rfl) rfl rfl ⟨(bc_ BK376 0),(bc_ BK376 1),(bc_ BK376 2)⟩ (fun hHeld=>?_);refine with_tabW r03_Add.tab18 r03_Add.bits18 (fun HT_ HW_=>?_)
           generalize wc.drew = w146 at HO_11 HO_12 HO_370001 HO_377001 BK360 BK361 BK362 BK369 BK376 HB hHeld ⊢
           refine pure_ (i:=0) (N:=some 95) (v:=?_) (a':=?_) #[true,false,false,false,false,false,false,false,false,false,false] rfl rfl (any_of HT_.out (by kernel_rfl)) (fun _ _ _ h=>h) (Or.inl ⟨by rfl,?_⟩) ?_ ?_
           rotate_left
           ·intro w'
            go_simp
            with_reducible rfl
           rotate_left
           ·exact nf_
           refine pure_ (i:=2) (N:=some 97) (v:=?_) (a':=?_) #[true,false,true,false,false,false,false,false,false,false,false] rfl rfl (any_of HT_.out (by kernel_rfl)) (fun _ _ _ h=>h) (Or.inl ⟨by rfl,?_⟩) ?_ ?_
           rotate_left
           ·intro w'
            go_simp
            with_reducible rfl
           rotate_left
           ·exact nf_
           refine pure_ (i:=3) (N:=some 98) (v:=?_) (a':=?_) #[true,false,true,true,false,false,false,false,false,false,false] rfl rfl (any_of HT_.out (by kernel_rfl)) (fun _ _ _ h=>h) (Or.inl ⟨by rfl,?_⟩) ?_ ?_
           rotate_left
           ·intro w'
            go_simp
            with_reducible rfl
           rotate_left
           ·exact nf_
           refine pure_ (i:=5) (N:=some 100) (v:=?_) (a':=?_) #[true,false,true,true,false,true,false,false,false,false,false] rfl rfl (any_of HT_.out (by kernel_rfl)) (fun _ _ _ h=>h) (Or.inl ⟨by rfl,?_⟩) ?_ ?_
           rotate_left
           ·intro w'
            go_simp
            with_reducible rfl
           rotate_left
           ·exact nf_
           refine take_ (i:=1) (N:=some 96) (v:=?_) (a':=?_) #[true,true,true,true,false,true,false,false,false,false,false] rfl rfl (take_ofW HT_.out HW_.out (by kernel_rfl)) (fun _ _ _ h=>h) (Or.inl ⟨by rfl,?_⟩) hHeld ?_ ?_
           rotate_left
           ·rintro w' ⟨s0,s1,s2⟩
            go_simp
            with_reducible rfl
           rotate_left
           ·exact nf_
           refine one_ (i:=4) (N:=some 99) #[true,true,true,true,true,true,false,false,false,false,false] rfl rfl (one_of HT_.out (by kernel_rfl)) (by decide) (fun K hK=>?_)
           refine goes_ Try.func62 (by kernel_rfl) rfl #[.slice Ao145 t380.length co145,.slice Ao144 t377.length co144] (by rfl) rfl rfl (by (try simp only [List.map_toArray,List.map_cons,List.map_nil]);first|done|rfl|(simp only [List.length_drop,List.length_take];rfl)) ?_
           with_reducible refine (r02_Minus.calls kj64 _ _ t380 _ _ t377 t402 _ ?side1 ?side2 ?side3 ?side4 A133.out).mono ?_
           (case side1=>repeat (first|exact (Kd.R_reads' HO_12.out).2.2|(with_reducible first|apply cA|apply cN|apply cD)))
           (case side2=>exact (Kd.R_reads' HO_12.out).2.1)
           (case side3=>repeat (first|exact (Kd.R_reads' HO_11.out).2.2|(with_reducible first|apply cA|apply cN|apply cD)))
           (case side4=>exact (Kd.R_reads' HO_11.out).2.1)
           rintro e w147 ⟨v403,rfl,ho0,hb⟩
           refine ⟨_,rfl,?_⟩
           have n0_:=Aside0.mk (Kd.R_elder' (rr_ HO_11) (Kd.R_base ho0) hb)
           have n1_:=Aside0.mk (Kd.R_elder' (rr_ HO_12) (Kd.R_base ho0) hb)
           have n2_:=Aside0.mk (Kd.R_elder' (rr_ HO_370001) (Kd.R_base ho0) hb)
           have n3_:=Aside0.mk (Kd.R_elder' (rr_ HO_377001) (Kd.R_base ho0) hb)
           have n4_:=Aside0.mk (Kd.R_lower (Kd.R_new' (Kd.R_new' (Kd.R_new' (Kd.R_new' ho0 (Kd.R_lt (rr_ HO_11))) (Kd.R_lt (rr_ HO_12))) (Kd.R_lt (rr_ HO_370001))) (Kd.R_lt (rr_ HO_377001))) (below_size (bl_ HB)))
           have n5_:=kb_ BK360 hb
           have n6_:=kb_ BK361 hb
           have n7_:=kb_ BK362 hb
           have n8_:=kb_ BK369 hb
           have n9_:=kb_ BK376 hb
           have n10_:=bs_ HB hb
           clear HO_11
           clear HO_12
           clear HO_370001
           clear HO_377001
           clear BK360
           clear BK361
           clear BK362
           clear BK369
           clear BK376
           clear HB
           have HO_11:=n0_
           have HO_12:=n1_
           have HO_370001:=n2_
           have HO_377001:=n3_
           have HO404:=n4_
           have BK360:=n5_
           have BK361:=n6_
           have BK362:=n7_
           have BK369:=n8_
           have BK376:=n9_
           have HB:=n10_
           clear n0_ n1_ n2_ n3_ n4_ n5_ n6_ n7_ n8_ n9_ n10_
           (try clear hb)
           (try clear hb2)
           (try clear hk)
           (try clear hi)
           (try clear ho0)
           obtain ⟨Ao148,co148,eo148⟩:=Kd.R_slice HO404.out
           (first|subst eo148|(injection eo148 with f1_ f2_ f3_;have f4_:=f1_.symm;have f5_:=f3_.symm;clear f1_ f2_ f3_;subst f4_;subst f5_))
           refine hK.out _ _ ⟨(bc_ BK376 0),(bc_ BK376 1),(bc_ BK376 2)⟩ (fun hHeld=>?_)
           clear hK K
           refine norm_ (a':=?_) ?_ ?_
           rotate_left
           ·show Act.put _ (some 99) _ = _
            simp only [Act.put,List.setIfInBounds_toArray,List.set_cons_zero,List.set_cons_succ,i64_w,i32_w]
            rfl
           refine one_ (i:=6) (N:=some 101) #[true,true,true,true,true,true,true,false,false,false,false] rfl rfl (one_of HT_.out (by kernel_rfl)) (by decide) (fun K hK=>?_)
           refine goes_ Try.func59 (by kernel_rfl) rfl #[.bool t370,.slice Ao148 t402.length co148,.int .i64 ji62] (by rfl) rfl rfl (by (try simp only [List.map_toArray,List.map_cons,List.map_nil]);first|done|(simp only [hji62];rfl)|rfl|(simp only [List.length_drop,List.length_take];rfl)) ?_
           with_reducible refine (r03_told.calls kj64 t370 _ _ t402 ji62 t405 t406 t409 t410 _ ?side1 ?side2 A134.out).mono ?_
           (case side1=>repeat (first|exact (Kd.R_reads' HO404.out).2.2|(with_reducible first|apply cA|apply cN|apply cD)))
           (case side2=>exact (Kd.R_reads' HO404.out).2.1)
           rintro e w149 ⟨v407,rfl,ho0,hb⟩
           refine ⟨_,rfl,?_⟩
           have n0_:=Aside0.mk (Kd.R_elder' (rr_ HO_11) (Kd.R_base ho0) hb)
           have n1_:=Aside0.mk (Kd.R_elder' (rr_ HO_12) (Kd.R_base ho0) hb)
           have n2_:=Aside0.mk (Kd.R_elder' (rr_ HO_370001) (Kd.R_base ho0) hb)
           have n3_:=Aside0.mk (Kd.R_elder' (rr_ HO_377001) (Kd.R_base ho0) hb)
           have n4_:=Aside0.mk (Kd.R_elder' (rr_ HO404) (Kd.R_base ho0) hb)
           have n5_:=Aside0.mk (Kd.R_lower (Kd.R_new' (Kd.R_new' (Kd.R_new' (Kd.R_new' (Kd.R_new' ho0 (Kd.R_lt (rr_ HO_11))) (Kd.R_lt (rr_ HO_12))) (Kd.R_lt (rr_ HO_370001))) (Kd.R_lt (rr_ HO_377001))) (Kd.R_lt (rr_ HO404))) (below_size (bl_ HB)))
           have n6_:=kb_ BK360 hb
           have n7_:=kb_ BK361 hb
           have n8_:=kb_ BK362 hb
           have n9_:=kb_ BK369 hb
           have n10_:=kb_ BK376 hb
           have n11_:=bs_ HB hb
           clear HO_11
           clear HO_12
           clear HO_370001
           clear HO_377001
           clear HO404
           clear BK360
           clear BK361
           clear BK362
           clear BK369
           clear BK376
           clear HB
           have HO_11:=n0_
           have HO_12:=n1_
           have HO_370001:=n2_
           have HO_377001:=n3_
           have HO404:=n4_
           have HO408:=n5_
           have BK360:=n6_
           have BK361:=n7_
           have BK362:=n8_
           have BK369:=n9_
           have BK376:=n10_
           have HB:=n11_
           clear n0_ n1_ n2_ n3_ n4_ n5_ n6_ n7_ n8_ n9_ n10_ n11_
           (try clear hb)
           (try clear hb2)
           (try clear hk)
           (try clear hi)
           (try clear ho0)
           obtain ⟨Ao151,co151,eo151⟩:=Kd.R_slice HO408.out
           (first|subst eo151|(injection eo151 with f1_ f2_ f3_;have f4_:=f1_.symm;have f5_:=f3_.symm;clear f1_ f2_ f3_;subst f4_;subst f5_))
           refine hK.out _ _ ⟨(bc_ BK376 0),(bc_ BK376 1),(bc_ BK376 2)⟩ (fun hHeld=>?_)
           clear hK K
           refine norm_ (a':=?_) ?_ ?_
           rotate_left
           ·show Act.put _ (some 101) _ = _
            simp only [Act.put,List.setIfInBounds_toArray,List.set_cons_zero,List.set_cons_succ,i64_w,i32_w]
            rfl
           refine pure_ (i:=7) (N:=some 102) (v:=?_) (a':=?_) #[true,true,true,true,true,true,true,true,false,false,false] rfl rfl (any_of HT_.out (by kernel_rfl)) (fun _ _ _ h=>h) (Or.inl ⟨by rfl,?_⟩) ?_ ?_
           rotate_left
           ·intro w'
            go_simp
            with_reducible rfl
           rotate_left
           ·exact nf_
           refine pure_ (i:=8) (N:=some 103) (v:=?_) (a':=?_) #[true,true,true,true,true,true,true,true,true,false,false] rfl rfl (any_of HT_.out (by kernel_rfl)) (fun _ _ _ h=>h) (Or.inl ⟨by rfl,?_⟩) ?_ ?_
           rotate_left
           ·intro w'
            go_simp
            with_reducible rfl
           rotate_left
           ·exact nf_
           refine one_ (i:=9) (N:=none) #[true,true,true,true,true,true,true,true,true,true,false] rfl rfl (one_of HT_.out (by kernel_rfl)) (by decide) (fun K hK=>?_)
           have hs150 : w149.cell? ⟨gb362,0,none⟩ = some (.bool false):=bc_ BK362 0
           have hfs150:=bz_ BK362 0
           have hns150_0:=NB360_362.out
           have hns150_1:=NB361_362.out
           have hns150_3:=NB369_362.out
           have hns150_4:=NB376_362.out
           have hms150_0:=NB362_360.out
           have hms150_1:=NB362_361.out
           have hms150_3:=NB362_369.out
           have hms150_4:=NB362_376.out
           have hs152 : w149.cell? ⟨gb362,1,none⟩ = some (.slice none 0 0):=bc_ BK362 1
           have hfs152:=bz_ BK362 1
           have hns152_0:=NB360_362.out
           have hns152_1:=NB361_362.out
           have hns152_3:=NB369_362.out
           have hns152_4:=NB376_362.out
           have hms152_0:=NB362_360.out
           have hms152_1:=NB362_361.out
           have hms152_3:=NB362_369.out
           have hms152_4:=NB362_376.out
           have hs153 : w149.cell? ⟨gb362,2,none⟩ = some (.int .i64 0):=bc_ BK362 2
           have hfs153:=bz_ BK362 2
           have hns153_0:=NB360_362.out
           have hns153_1:=NB361_362.out
           have hns153_3:=NB369_362.out
           have hns153_4:=NB376_362.out
           have hms153_0:=NB362_360.out
           have hms153_1:=NB362_361.out
           have hms153_3:=NB362_369.out
           have hms153_4:=NB362_376.out
           refine skip_ (w1:=?_) (by rfl) rfl ?_ ?_
           rotate_left
           ·go_simp
            rfl
           refine hK.out _ _ ⟨((cell_far (p:=⟨gb362,_,none⟩) NB376_362.out _).trans (((cell_far (p:=⟨gb362,_,none⟩) NB376_362.out _).trans (((cell_far (p:=⟨gb362,_,none⟩) NB376_362.out _).trans (hHeld.1)))))),((cell_far (p:=⟨gb362,_,none⟩) NB376_362.out _).trans (((cell_far (p:=⟨gb362,_,none⟩) NB376_362.out _).trans (((cell_far (p:=⟨gb362,_,none⟩) NB376_362.out _).trans (hHeld.2.1)))))),((cell_far (p:=⟨gb362,_,none⟩) NB376_362.out _).trans (((cell_far (p:=⟨gb362,_,none⟩) NB376_362.out _).trans (((cell_far (p:=⟨gb362,_,none⟩) NB376_362.out _).trans (hHeld.2.2))))))⟩ (fun hHeld=>?_)
           clear hK K
           refine pure_ (i:=10) (N:=some 5) (v:=?_) (a':=?_) #[true,true,true,true,true,true,true,true,true,true,true] rfl rfl (any_of HT_.out (by kernel_rfl)) (fun _ _ _ h=>h) (Or.inl ⟨by rfl,?_⟩) ?_ ?_
           rotate_left
           ·intro w'
            go_simp
            with_reducible rfl
           rotate_left
           ·exact nf_
           refine done_ (done_of HT_.out (by kernel_rfl)) ?_
           try go_wp2
           refine bodyPost_ret (results_ct rfl _ _ gb362 43 #[.bool t405,.slice Ao151 t406.length co151,.int .i64 t409] (0,0) _ rfl (by (with_reducible repeat (first|apply bN|apply bD|apply bA));refine blk_put (cs:=#[.bool t405,.slice Ao151 t406.length co151,.int .i64 0]) ?_ 2 _ rfl;(with_reducible repeat (first|apply bN|apply bD|apply bA));refine blk_put (cs:=#[.bool t405,.slice none 0 0,.int .i64 0]) ?_ 1 _ rfl;(with_reducible repeat (first|apply bN|apply bD|apply bA));refine blk_put (cs:=#[.bool false,.slice none 0 0,.int .i64 0]) ?_ 0 _ rfl;exact bk_ BK362) Try.underlying43 rfl (by kernel_rfl)) rfl ?_
           exact ⟨_,by first|rfl|(simp [errW_none,errW_some] <;> rfl)|(simp only [← hji62];first|rfl|(simp [errW_none,errW_some] <;> rfl))|(simp [*,errW_none,errW_some] <;> rfl),by (with_reducible repeat (first|apply rA|apply rN|apply rD));exact Kd.R_mono (Kd.R_far (p:=⟨gb362,2,none⟩) (Kd.R_far (p:=⟨gb362,1,none⟩) (Kd.R_far (p:=⟨gb362,0,none⟩) (Kd.R_types HO408.out BK362.out (by decide)) (fun _ hk=>hk.2) (.bool t405)) (fun _ hk=>hk.2) (.slice Ao151 t406.length co151)) (fun _ hk=>hk.2) (.int .i64 t409)) (fun _ hk=>trivial),bl_ HB⟩

end Go.Proofs.Ytdemanikmaafeaa.Pr
-- written by this session's own program (wip/fprint.py), which widens the kit's print by floats
namespace Go.Proofs.Ytdemanikmaafeaa.Pr
open Go.RowKit Go.Proofs.YtdemanikmaafeaaW.PrintWords Go.Proofs.YtdemanikmaafeaaW.PrintLast Go.Proofs.YtdemanikmaafeaaW.PrintMore
attribute [local go_sem] max2_int min2_int max_two min_two max_three min_three max_four min_four   -- for this text's walks alone
set_option linter.unusedVariables false
set_option linter.unusedSimpArgs false

def r03_Mul.j0 : Nat → Bool → Bool → List Int → Int → Bool → List Int → Int → Option (Bool × List Int × Int × Int)
 | 0, _, _, _, _, _, _, _ => none
 | k + 1, x25, x563000, x563001, x563002, x570000, x570001, x570002 => if x25 = true then (some (false, ([] : List Int), 0, 2)) else ((r02_Times.f k x563001 x570001).bind fun t570 => ((r03_told.f k (x563000 != x570000) t570 (wrap64 (x563002 + x570002))).bind fun bt573 => (some (bt573.1, bt573.2.1, bt573.2.2.1, bt573.2.2.2))))
def r03_Mul.f (k : Nat) (a0_0 : Bool) (l0_1 : List Int) (a0_2 : Int) (a1_0 : Bool) (l1_1 : List Int) (a1_2 : Int) : Option (Bool × List Int × Int × Int) := (r03_Made.f k a0_0 l0_1 a0_2).bind fun bt556 => ((r03_Made.f k a1_0 l1_1 a1_2).bind fun bt563 => (if bt556.2.2.2 = true then (r03_Mul.j0 k (!bt563.2.2.2) bt556.1 bt556.2.1 bt556.2.2.1 bt563.1 bt563.2.1 bt563.2.2.1) else (r03_Mul.j0 k true bt556.1 bt556.2.1 bt556.2.2.1 bt563.1 bt563.2.1 bt563.2.2.1)))
theorem r03_Mul.mono_l : ∀ k, (∀ y0 y1 y2 y3 y4 y5 y6, LeO (r03_Mul.j0 k y0 y1 y2 y3 y4 y5 y6) (r03_Mul.j0 (k + 1) y0 y1 y2 y3 y4 y5 y6))
 | 0 => fun _ _ _ _ _ _ _ r h => by simp [r03_Mul.j0] at h
 | k + 1 => by
  have ih0:=r03_Mul.mono_l k
  ·intro y0 y1 y2 y3 y4 y5 y6
   unfold r03_Mul.j0
   repeat' first
   | (with_reducible exact ih0 _ _ _ _ _ _ _)
   | (with_reducible exact r02_Times.mono _ _ _)
   | (with_reducible exact r03_Made.mono _ _ _ _)
   | (with_reducible exact r03_told.mono _ _ _ _)
   | (with_reducible exact LeO.refl _)
   | (with_reducible exact LeO.none _)
   | (with_reducible refine LeO.ite ?_ ?_)
   | (with_reducible refine LeO.bind ?_ (fun _ => ?_))
   | exact ih0 _ _ _ _ _ _ _
   | exact r02_Times.mono _ _ _
   | exact r03_Made.mono _ _ _ _
   | exact r03_told.mono _ _ _ _
   | exact LeO.none _
   | refine LeO.ite ?_ ?_
   | refine LeO.bind ?_ (fun _ => ?_)
theorem r03_Mul.mono : ∀ a0 a1 a2 a3 a4 a5 k, LeO (r03_Mul.f k a0 a1 a2 a3 a4 a5) (r03_Mul.f (k + 1) a0 a1 a2 a3 a4 a5) := by
 intro a0 a1 a2 a3 a4 a5 k
 have ih0:=r03_Mul.mono_l k
 unfold r03_Mul.f
 repeat' first
   | (with_reducible exact ih0 _ _ _ _ _ _ _)
   | (with_reducible exact r02_Times.mono _ _ _)
   | (with_reducible exact r03_Made.mono _ _ _ _)
   | (with_reducible exact r03_told.mono _ _ _ _)
   | (with_reducible exact LeO.refl _)
   | (with_reducible exact LeO.none _)
   | (with_reducible refine LeO.ite ?_ ?_)
   | (with_reducible refine LeO.bind ?_ (fun _ => ?_))
   | exact ih0 _ _ _ _ _ _ _
   | exact r02_Times.mono _ _ _
   | exact r03_Made.mono _ _ _ _
   | exact r03_told.mono _ _ _ _
   | exact LeO.none _
   | refine LeO.ite ?_ ?_
   | refine LeO.bind ?_ (fun _ => ?_)
def r03_Mul.T5 : Bool × List (List Nat × List Nat) := (true, [([], []), ([0], [0]), ([], []), ([2], [2]), ([1, 3], [1, 3]), ([], []), ([5], [5]), ([], []), ([7], [7]), ([6, 8], [6, 8]), ([], []), ([10], [10]), ([], []), ([12], [12]), ([11, 13], [11, 13]), ([4, 9, 14, 9], [4, 9, 14]), ([15], [15]), ([15], [15]), ([16, 15, 0, 1, 2, 3, 4, 5, 6, 7, 8, 9, 10, 11, 12, 13, 14, 15, 16, 17], [16]), ([17, 18, 0, 1, 2, 3, 4, 5, 6, 7, 8, 9, 10, 11, 12, 13, 14, 15, 16, 17, 18], [17])])
def r03_Mul.B5 : List Nat := [0, 1, 0, 4, 15, 0, 32, 0, 128, 480, 0, 1024, 0, 4096, 15360, 32767, 65535, 65535, 262143, 524287]
theorem r03_Mul.tab5 : rtab .any (opsOf Try.f36 5) = r03_Mul.T5 := by kernel_rfl
theorem r03_Mul.bits5 : waitsOk r03_Mul.T5.2 r03_Mul.B5 = true := by kernel_rfl
set_option maxHeartbeats 3000000 in
set_option maxRecDepth 100000 in
theorem r03_Mul.calls (k : Nat) (a0_0 : Bool) (A0_1 : Option Addr) (c0_1 : Nat) (l0_1 : List Int) (a0_2 : Int) (a1_0 : Bool) (A1_1 : Option Addr) (c1_1 : Nat) (l1_1 : List Int) (a1_2 : Int) (r1 : Bool) (r2 : List Int) (r3 : Int) (r4 : Int) (w : World) (hr0_1 : Kd.C (Kd.int .u32) w A0_1 l0_1.length l0_1) (hc0_1 : l0_1.length ≤ c0_1) (hr1_1 : Kd.C (Kd.int .u32) w A1_1 l1_1.length l1_1) (hc1_1 : l1_1.length ≤ c1_1) (h : r03_Mul.f k a0_0 l0_1 a0_2 a1_0 l1_1 a1_2 = some (r1, r2, r3, r4)) :
  Calls Try.prog 36 #[.agg #[.bool a0_0,.slice A0_1 l0_1.length c0_1,.int .i64 a0_2],.agg #[.bool a1_0,.slice A1_1 l1_1.length c1_1,.int .i64 a1_2]] w fun e w'=>∃ v1_ : Value,e = .returned (.tuple #[.agg #[.bool r1,v1_,.int .i64 r3],.int .i64 r4]) ∧ Kd.R (Kd.int .u32) 72 w' w.heap.size (fun _=>True) v1_ r2 ∧ Below w.heap.size w w':=by
 have hu43:=Try.underlying43
 have HR0_1:=Aside0.mk hr0_1
 have HC0_1:=Aside0.mk hc0_1
 clear hr0_1 hc0_1
 have HR1_1:=Aside0.mk hr1_1
 have HC1_1:=Aside0.mk hc1_1
 clear hr1_1 hc1_1
 have HB:=Aside0.mk (Below.refl w.heap.size w)
 have H : ((r03_Made.f k a0_0 l0_1 a0_2).bind fun bt556=>((r03_Made.f k a1_0 l1_1 a1_2).bind fun bt563=>(if bt556.2.2.2 = true then (r03_Mul.j0 k (!bt563.2.2.2) bt556.1 bt556.2.1 bt556.2.2.1 bt563.1 bt563.2.1 bt563.2.2.1) else (r03_Mul.j0 k true bt556.1 bt556.2.1 bt556.2.2.1 bt563.1 bt563.2.1 bt563.2.2.1)))) = some (r1,r2,r3,r4):=h
 clear h
 obtain ⟨⟨t556,t557,t560,t561⟩,A3,H⟩:=ob_ H
 try dsimp only at H
 obtain ⟨⟨t563,t564,t567,t568⟩,A4,H⟩:=ob_ H
 try dsimp only at H
 have HC5:=Aside0.mk H
 clear H
 go_enter Try.func36,Try.ntmps36
 go_upto_region 3 with (first|((with_reducible refine gate_dst (N:=2) rfl ?_);refine box_ev (N:=2) (cs:=#[.bool a0_0,.slice A0_1 l0_1.length c0_1,.int .i64 a0_2]) (t:=43) ?_;intro gb553 hg w6 hbox hb;have BK553:=Aside0.mk (hbox);have GW553:=ge_ HB hg;have GE553:=ge_ HB hg;replace HB:=bs_ HB hb;clear hb hbox hg)|((with_reducible refine gate_dst (N:=3) rfl ?_);refine box_ev (N:=3) (cs:=#[.bool a1_0,.slice A1_1 l1_1.length c1_1,.int .i64 a1_2]) (t:=43) ?_;intro gb554 hg w7 hbox hb;have BK554:=Aside0.mk (hbox);have GW554:=ge_ HB hg;have GE554:=ge_ HB hg;replace HB:=bs_ HB hb;have NB553_554:=nlt_ BK553 hg;have NB554_553:=ngt_ BK553 hg;replace BK553:=kb_ BK553 hb;clear hb hbox hg)|((with_reducible refine gate_dst (N:=4) rfl ?_);refine box_ev (N:=4) (cs:=#[.bool false,.slice none 0 0,.int .i64 0]) (t:=43) ?_;intro gb555 hg w8 hbox hb;have BK555:=Aside0.mk (hbox);have GW555:=ge_ HB hg;have GE555:=ge_ HB hg;replace HB:=bs_ HB hb;have NB553_555:=nlt_ BK553 hg;have NB555_553:=ngt_ BK553 hg;replace BK553:=kb_ BK553 hb;have NB554_555:=nlt_ BK554 hg;have NB555_554:=ngt_ BK554 hg;replace BK554:=kb_ BK554 hb;clear hb hbox hg;have hnb9:=NB553_554.out;have hnc9:=NB554_553.out;have hnb10:=NB553_555.out;have hnc10:=NB555_553.out;have hcz11_0:=bc_ BK553 0;have hcz11_1:=bc_ BK553 1;have hcz11_2:=bc_ BK553 2;have hfz11_0:=bz_ BK553 0;have hfz11_1:=bz_ BK553 1;have hfz11_2:=bz_ BK553 2)|((with_reducible refine gate_callee (f:=57) rfl ?_);refine goesM (some 12) Try.func57 #[.agg #[.bool a0_0,.slice A0_1 l0_1.length c0_1,.int .i64 a0_2]] ?_;(with_reducible refine (r03_Made.calls k a0_0 _ _ l0_1 a0_2 t556 t557 t560 t561 _ ?side1 ?side2 A3.out).mono ?_);(case side1=>repeat (first|exact (Kd.C_below HR0_1.out HB.out)|(with_reducible first|apply cA|apply cN|apply cD)));(case side2=>exact HC0_1.out);rintro e w12 ⟨v558,rfl,ho0,hb⟩;refine ⟨_,rfl,?_⟩;have HO559:=Aside0.mk (Kd.R_lower ho0 (below_size (bl_ HB)));replace BK553:=kb_ BK553 hb;replace BK554:=kb_ BK554 hb;replace BK555:=kb_ BK555 hb;replace HB:=bs_ HB hb;(try clear hb);(try clear hb2);(try clear hk);(try clear hi);(try clear ho0))|((with_reducible refine gate_dst (N:=6) rfl ?_);refine box_ev (N:=6) (cs:=#[.bool false,.slice none 0 0,.int .i64 0]) (t:=43) ?_;intro gb562 hg w13 hbox hb;replace HO559:=Aside0.mk (Kd.R_below (rr_ HO559) hb);have BK562:=Aside0.mk (hbox);have GW562:=ge_ HB hg;have GE562:=ge_ HB hg;replace HB:=bs_ HB hb;have NB553_562:=nlt_ BK553 hg;have NB562_553:=ngt_ BK553 hg;replace BK553:=kb_ BK553 hb;have NB554_562:=nlt_ BK554 hg;have NB562_554:=ngt_ BK554 hg;replace BK554:=kb_ BK554 hb;have NB555_562:=nlt_ BK555 hg;have NB562_555:=ngt_ BK555 hg;replace BK555:=kb_ BK555 hb;clear hb hbox hg;have hnb14:=NB562_553.out;have hnc14:=NB553_562.out;have hnb15:=NB562_554.out;have hnc15:=NB554_562.out;have hnb16:=NB562_555.out;have hnc16:=NB555_562.out;have hcz17_0:=bc_ BK562 0;have hcz17_1:=bc_ BK562 1;have hcz17_2:=bc_ BK562 2;have hfz17_0:=bz_ BK562 0;have hfz17_1:=bz_ BK562 1;have hfz17_2:=bz_ BK562 2;obtain ⟨Ao18,co18,eo18⟩:=Kd.R_slice HO559.out;subst eo18;have hnb19:=NB554_555.out;have hnc19:=NB555_554.out;have hcz20_0:=bc_ BK554 0;have hcz20_1:=bc_ BK554 1;have hcz20_2:=bc_ BK554 2;have hfz20_0:=bz_ BK554 0;have hfz20_1:=bz_ BK554 1;have hfz20_2:=bz_ BK554 2)|((with_reducible refine gate_callee (f:=57) rfl ?_);refine goesM (some 17) Try.func57 #[.agg #[.bool a1_0,.slice A1_1 l1_1.length c1_1,.int .i64 a1_2]] ?_;(with_reducible refine (r03_Made.calls k a1_0 _ _ l1_1 a1_2 t563 t564 t567 t568 _ ?side1 ?side2 A4.out).mono ?_);(case side1=>exact Kd.C_below HR1_1.out (bl_ HB));(case side2=>exact HC1_1.out);rintro e w21 ⟨v565,rfl,ho0,hb⟩;refine ⟨_,rfl,?_⟩;have HO566:=Aside0.mk (Kd.R_lower (Kd.R_new' ho0 (Kd.R_lt (by (with_reducible repeat (first|apply rA|apply rN|apply rD));exact (Kd.R_mono (Kd.R_far (p:=⟨gb562,2,none⟩) (Kd.R_far (p:=⟨gb562,1,none⟩) (Kd.R_far (p:=⟨gb562,0,none⟩) (Kd.R_types HO559.out BK562.out (by decide)) (fun _ hk=>hk.2) (.bool t556)) (fun _ hk=>hk.2) (.slice Ao18 t557.length co18)) (fun _ hk=>hk.2) (.int .i64 t560)) (fun _ h_=>h_.1))))) (below_size (bl_ HB)));replace HO559:=Aside0.mk (Kd.R_elder' (by (with_reducible repeat (first|apply rA|apply rN|apply rD));exact (Kd.R_mono (Kd.R_far (p:=⟨gb562,2,none⟩) (Kd.R_far (p:=⟨gb562,1,none⟩) (Kd.R_far (p:=⟨gb562,0,none⟩) (Kd.R_types HO559.out BK562.out (by decide)) (fun _ hk=>hk.2) (.bool t556)) (fun _ hk=>hk.2) (.slice Ao18 t557.length co18)) (fun _ hk=>hk.2) (.int .i64 t560)) (fun _ h_=>h_.1))) (Kd.R_base ho0) hb);replace BK553:=Aside0.mk (blk_below (g:=gb553) (o:=.cells #[.bool a0_0,.slice A0_1 l0_1.length c0_1,.int .i64 a0_2] 43 (0,0)) (by (with_reducible repeat (first|apply bN|apply bD|apply bA));refine blk_far ?_ NB553_562.out _;(with_reducible repeat (first|apply bN|apply bD|apply bA));refine blk_far ?_ NB553_562.out _;(with_reducible repeat (first|apply bN|apply bD|apply bA));refine blk_far ?_ NB553_562.out _;exact bk_ BK553) hb);replace BK554:=Aside0.mk (blk_below (g:=gb554) (o:=.cells #[.bool a1_0,.slice A1_1 l1_1.length c1_1,.int .i64 a1_2] 43 (0,0)) (by (with_reducible repeat (first|apply bN|apply bD|apply bA));refine blk_far ?_ NB554_562.out _;(with_reducible repeat (first|apply bN|apply bD|apply bA));refine blk_far ?_ NB554_562.out _;(with_reducible repeat (first|apply bN|apply bD|apply bA));refine blk_far ?_ NB554_562.out _;exact bk_ BK554) hb);replace BK555:=Aside0.mk (blk_below (g:=gb555) (o:=.cells #[.bool false,.slice none 0 0,.int .i64 0] 43 (0,0)) (by (with_reducible repeat (first|apply bN|apply bD|apply bA));refine blk_far ?_ NB555_562.out _;(with_reducible repeat (first|apply bN|apply bD|apply bA));refine blk_far ?_ NB555_562.out _;(with_reducible repeat (first|apply bN|apply bD|apply bA));refine blk_far ?_ NB555_562.out _;exact bk_ BK555) hb);replace BK562:=Aside0.mk (blk_below (g:=gb562) (o:=.cells #[.bool t556,.slice Ao18 t557.length co18,.int .i64 t560] 43 (0,0)) (by (with_reducible repeat (first|apply bN|apply bD|apply bA));refine blk_put (cs:=#[.bool t556,.slice Ao18 t557.length co18,.int .i64 0]) ?_ 2 _ rfl;(with_reducible repeat (first|apply bN|apply bD|apply bA));refine blk_put (cs:=#[.bool t556,.slice none 0 0,.int .i64 0]) ?_ 1 _ rfl;(with_reducible repeat (first|apply bN|apply bD|apply bA));refine blk_put (cs:=#[.bool false,.slice none 0 0,.int .i64 0]) ?_ 0 _ rfl;exact bk_ BK562) hb);replace HB:=bs_ HB hb;(try clear hb);(try clear hb2);(try clear hk);(try clear hi);(try clear ho0))|((with_reducible refine gate_dst (N:=8) rfl ?_);refine box_ev (N:=8) (cs:=#[.bool false,.slice none 0 0,.int .i64 0]) (t:=43) ?_;intro gb569 hg w22 hbox hb;replace HO559:=Aside0.mk (Kd.R_below (rr_ HO559) hb);replace HO566:=Aside0.mk (Kd.R_below (rr_ HO566) hb);have BK569:=Aside0.mk (hbox);have GW569:=ge_ HB hg;have GE569:=ge_ HB hg;replace HB:=bs_ HB hb;have NB553_569:=nlt_ BK553 hg;have NB569_553:=ngt_ BK553 hg;replace BK553:=kb_ BK553 hb;have NB554_569:=nlt_ BK554 hg;have NB569_554:=ngt_ BK554 hg;replace BK554:=kb_ BK554 hb;have NB555_569:=nlt_ BK555 hg;have NB569_555:=ngt_ BK555 hg;replace BK555:=kb_ BK555 hb;have NB562_569:=nlt_ BK562 hg;have NB569_562:=ngt_ BK562 hg;replace BK562:=kb_ BK562 hb;clear hb hbox hg;have hnb23:=NB569_553.out;have hnc23:=NB553_569.out;have hnb24:=NB569_554.out;have hnc24:=NB554_569.out;have hnb25:=NB569_555.out;have hnc25:=NB555_569.out;have hnb26:=NB569_562.out;have hnc26:=NB562_569.out;have hcz27_0:=bc_ BK569 0;have hcz27_1:=bc_ BK569 1;have hcz27_2:=bc_ BK569 2;have hfz27_0:=bz_ BK569 0;have hfz27_1:=bz_ BK569 1;have hfz27_2:=bz_ BK569 2;obtain ⟨Ao28,co28,eo28⟩:=Kd.R_slice HO566.out;subst eo28))
 (try simp only [Act.put,List.setIfInBounds_toArray,List.set_cons_zero,List.set_cons_succ])
 go_cut [25] (fun v25 wc=>∃ (kq : Nat) (x25_4 : Bool),v25 = .bool x25_4 ∧ Aside0 (r03_Mul.j0 kq x25_4 t556 t557 t560 t563 t564 t567 = some (r1,r2,r3,r4)) ∧ Aside0 (kq ≤ k) ∧ Aside0 (Kd.R (Kd.int .u32) 72 wc w.heap.size (fun k_=>some k_ ≠ ((.slice Ao28 t564.length co28) : Value).ownBlock) (.slice Ao18 t557.length co18) t557) ∧ Aside0 (Kd.R (Kd.int .u32) 72 wc w.heap.size (fun k_=>some k_ ≠ ((.slice Ao18 t557.length co18) : Value).ownBlock) (.slice Ao28 t564.length co28) t564) ∧ Aside0 (wc.heap[gb553]? = some (.cells #[.bool a0_0,(.slice A0_1 l0_1.length c0_1),.int .i64 a0_2] 43 (0,0))) ∧ Aside0 (wc.heap[gb554]? = some (.cells #[.bool a1_0,(.slice A1_1 l1_1.length c1_1),.int .i64 a1_2] 43 (0,0))) ∧ Aside0 (wc.heap[gb555]? = some (.cells #[.bool false,(.slice none 0 0),.int .i64 0] 43 (0,0))) ∧ Aside0 (wc.heap[gb562]? = some (.cells #[.bool t556,(.slice Ao18 t557.length co18),.int .i64 t560] 43 (0,0))) ∧ Aside0 (wc.heap[gb569]? = some (.cells #[.bool t563,(.slice Ao28 t564.length co28),.int .i64 t567] 43 (0,0))) ∧ Aside0 (Below w.heap.size w wc))
 case first =>
  have H:=HC5.out
  clear HC5
  by_cases c29 : t561 = true
  ·subst c29
   have H1 : (r03_Mul.j0 k (!t568) t556 t557 t560 t563 t564 t567) = some (r1,r2,r3,r4):=by rw [if_pos rfl] at H;exact H
   clear H
   have H:=H1
   clear H1
   have H':=Aside0.mk H
   clear H
   go_wp2
   go_meet
   case rel=>exact ⟨_,(!t568),(by first|rfl|(simp;done)|(simp [*];done)),H',⟨by first|omega|exact Nat.le_refl _⟩,⟨by (with_reducible repeat (first|apply rA|apply rN|apply rD));exact Kd.R_mono (Kd.R_far (p:=⟨gb569,2,none⟩) (Kd.R_far (p:=⟨gb569,1,none⟩) (Kd.R_far (p:=⟨gb569,0,none⟩) (Kd.R_types HO559.out BK569.out (by decide)) (fun _ hk=>hk.2) (.bool t563)) (fun _ hk=>hk.2) (.slice Ao28 t564.length co28)) (fun _ hk=>hk.2) (.int .i64 t567)) (fun _ hk=>hk.1.2)⟩,⟨by (with_reducible repeat (first|apply rA|apply rN|apply rD));exact Kd.R_mono (Kd.R_far (p:=⟨gb569,2,none⟩) (Kd.R_far (p:=⟨gb569,1,none⟩) (Kd.R_far (p:=⟨gb569,0,none⟩) (Kd.R_types HO566.out BK569.out (by decide)) (fun _ hk=>hk.2) (.bool t563)) (fun _ hk=>hk.2) (.slice Ao28 t564.length co28)) (fun _ hk=>hk.2) (.int .i64 t567)) (fun _ hk=>hk.1.2)⟩,⟨by (with_reducible repeat (first|apply bN|apply bD|apply bA));refine blk_far ?_ NB553_569.out _;(with_reducible repeat (first|apply bN|apply bD|apply bA));refine blk_far ?_ NB553_569.out _;(with_reducible repeat (first|apply bN|apply bD|apply bA));refine blk_far ?_ NB553_569.out _;exact bk_ BK553⟩,⟨by (with_reducible repeat (first|apply bN|apply bD|apply bA));refine blk_far ?_ NB554_569.out _;(with_reducible repeat (first|apply bN|apply bD|apply bA));refine blk_far ?_ NB554_569.out _;(with_reducible repeat (first|apply bN|apply bD|apply bA));refine blk_far ?_ NB554_569.out _;exact bk_ BK554⟩,⟨by (with_reducible repeat (first|apply bN|apply bD|apply bA));refine blk_far ?_ NB555_569.out _;(with_reducible repeat (first|apply bN|apply bD|apply bA));refine blk_far ?_ NB555_569.out _;(with_reducible repeat (first|apply bN|apply bD|apply bA));refine blk_far ?_ NB555_569.out _;exact bk_ BK555⟩,⟨by (with_reducible repeat (first|apply bN|apply bD|apply bA));refine blk_far ?_ NB562_569.out _;(with_reducible repeat (first|apply bN|apply bD|apply bA));refine blk_far ?_ NB562_569.out _;(with_reducible repeat (first|apply bN|apply bD|apply bA));refine blk_far ?_ NB562_569.out _;exact bk_ BK562⟩,⟨by (with_reducible repeat (first|apply bN|apply bD|apply bA));refine blk_put (cs:=#[.bool t563,.slice Ao28 t564.length co28,.int .i64 0]) ?_ 2 _ rfl;(with_reducible repeat (first|apply bN|apply bD|apply bA));refine blk_put (cs:=#[.bool t563,.slice none 0 0,.int .i64 0]) ?_ 1 _ rfl;(with_reducible repeat (first|apply bN|apply bD|apply bA));refine blk_put (cs:=#[.bool false,.slice none 0 0,.int .i64 0]) ?_ 0 _ rfl;exact bk_ BK569⟩,⟨bl_ HB⟩⟩
  ·replace c29:=Bool.eq_false_iff.mpr c29
   subst c29
   have H1 : (r03_Mul.j0 k true t556 t557 t560 t563 t564 t567) = some (r1,r2,r3,r4):=by rw [if_neg (show ¬ (false = true) by decide)] at H;exact H
   clear H
   have H:=H1
   clear H1
   have H':=Aside0.mk H
   clear H
   go_wp2
   go_meet
   case rel=>exact ⟨_,(true),(by first|rfl|(simp;done)|(simp [*];done)),H',⟨by first|omega|exact Nat.le_refl _⟩,⟨by (with_reducible repeat (first|apply rA|apply rN|apply rD));exact Kd.R_mono (Kd.R_far (p:=⟨gb569,2,none⟩) (Kd.R_far (p:=⟨gb569,1,none⟩) (Kd.R_far (p:=⟨gb569,0,none⟩) (Kd.R_types HO559.out BK569.out (by decide)) (fun _ hk=>hk.2) (.bool t563)) (fun _ hk=>hk.2) (.slice Ao28 t564.length co28)) (fun _ hk=>hk.2) (.int .i64 t567)) (fun _ hk=>hk.1.2)⟩,⟨by (with_reducible repeat (first|apply rA|apply rN|apply rD));exact Kd.R_mono (Kd.R_far (p:=⟨gb569,2,none⟩) (Kd.R_far (p:=⟨gb569,1,none⟩) (Kd.R_far (p:=⟨gb569,0,none⟩) (Kd.R_types HO566.out BK569.out (by decide)) (fun _ hk=>hk.2) (.bool t563)) (fun _ hk=>hk.2) (.slice Ao28 t564.length co28)) (fun _ hk=>hk.2) (.int .i64 t567)) (fun _ hk=>hk.1.2)⟩,⟨by (with_reducible repeat (first|apply bN|apply bD|apply bA));refine blk_far ?_ NB553_569.out _;(with_reducible repeat (first|apply bN|apply bD|apply bA));refine blk_far ?_ NB553_569.out _;(with_reducible repeat (first|apply bN|apply bD|apply bA));refine blk_far ?_ NB553_569.out _;exact bk_ BK553⟩,⟨by (with_reducible repeat (first|apply bN|apply bD|apply bA));refine blk_far ?_ NB554_569.out _;(with_reducible repeat (first|apply bN|apply bD|apply bA));refine blk_far ?_ NB554_569.out _;(with_reducible repeat (first|apply bN|apply bD|apply bA));refine blk_far ?_ NB554_569.out _;exact bk_ BK554⟩,⟨by (with_reducible repeat (first|apply bN|apply bD|apply bA));refine blk_far ?_ NB555_569.out _;(with_reducible repeat (first|apply bN|apply bD|apply bA));refine blk_far ?_ NB555_569.out _;(with_reducible repeat (first|apply bN|apply bD|apply bA));refine blk_far ?_ NB555_569.out _;exact bk_ BK555⟩,⟨by (with_reducible repeat (first|apply bN|apply bD|apply bA));refine blk_far ?_ NB562_569.out _;(with_reducible repeat (first|apply bN|apply bD|apply bA));refine blk_far ?_ NB562_569.out _;(with_reducible repeat (first|apply bN|apply bD|apply bA));refine blk_far ?_ NB562_569.out _;exact bk_ BK562⟩,⟨by (with_reducible repeat (first|apply bN|apply bD|apply bA));refine blk_put (cs:=#[.bool t563,.slice Ao28 t564.length co28,.int .i64 0]) ?_ 2 _ rfl;(with_reducible repeat (first|apply bN|apply bD|apply bA));refine blk_put (cs:=#[.bool t563,.slice none 0 0,.int .i64 0]) ?_ 1 _ rfl;(with_reducible repeat (first|apply bN|apply bD|apply bA));refine blk_put (cs:=#[.bool false,.slice none 0 0,.int .i64 0]) ?_ 0 _ rfl;exact bk_ BK569⟩,⟨bl_ HB⟩⟩
 case rest =>
  clear HC5
  try clear c1
  try clear c2
  try clear p2
  try clear c3
  try clear c5
  try clear c9
  try clear c10
  try clear c14
  try clear c15
  try clear c16
  try clear c19
  try clear c23
  try clear c24
  try clear c25
  try clear c26
  try clear c29
  try clear hcz11_0
  try clear hcz11_1
  try clear hcz11_2
  try clear hcz17_0
  try clear hcz17_1
  try clear hcz17_2
  try clear hcz20_0
  try clear hcz20_1
  try clear hcz20_2
  try clear hcz27_0
  try clear hcz27_1
  try clear hcz27_2
  try clear hfz11_0
  try clear hfz11_1
  try clear hfz11_2
  try clear hfz17_0
  try clear hfz17_1
  try clear hfz17_2
  try clear hfz20_0
  try clear hfz20_1
  try clear hfz20_2
  try clear hfz27_0
  try clear hfz27_1
  try clear hfz27_2
  obtain ⟨kq,x25_4,rfl,HA,HJ4,HO_563001,HO_570001,BK553,BK554,BK555,BK562,BK569,HB⟩:=hcut
  cases kq with
  | zero => exact absurd HA.out (by simp [r03_Mul.j0])
  | succ kj4 =>
   have H:=HA.out
   clear HA
   simp only [r03_Mul.j0] at H
   by_cases c30 : x25_4 = true
   ·subst c30
    have H1 : (some (false,([] : List Int),0,2)) = some (r1,r2,r3,r4):=by rw [if_pos rfl] at H;exact H
    clear H
    have H:=H1
    clear H1
    simp only [Option.some.injEq,Prod.mk.injEq] at H
    obtain ⟨rfl,rfl,rfl,rfl⟩:=H
    have hnb31:=NB555_553.out
    have hnc31:=NB553_555.out
    have hnb32:=NB555_554.out
    have hnc32:=NB554_555.out
    have hnb33:=NB555_562.out
    have hnc33:=NB562_555.out
    have hnb34:=NB555_569.out
    have hnc34:=NB569_555.out
    have hcz35_0:=bc_ BK555 0
    have hcz35_1:=bc_ BK555 1
    have hcz35_2:=bc_ BK555 2
    have hfz35_0:=bz_ BK555 0
    have hfz35_1:=bz_ BK555 1
    have hfz35_2:=bz_ BK555 2
    go_wp2
    refine bodyPost_ret (results_ct rfl _ _ gb555 43 #[.bool false,.slice none 0 0,.int .i64 0] (0,0) _ rfl (by (with_reducible repeat (first|apply bN|apply bD|apply bA));refine blk_put (cs:=#[.bool false,.slice none 0 0,.int .i64 0]) ?_ 2 _ rfl;(with_reducible repeat (first|apply bN|apply bD|apply bA));refine blk_put (cs:=#[.bool false,.slice none 0 0,.int .i64 0]) ?_ 1 _ rfl;(with_reducible repeat (first|apply bN|apply bD|apply bA));refine blk_put (cs:=#[.bool false,.slice none 0 0,.int .i64 0]) ?_ 0 _ rfl;exact bk_ BK555) Try.underlying43 rfl (by kernel_rfl)) rfl ?_
    exact ⟨_,rf_,by first|exact Kd.R_nil _ _ _ _ _|exact Kd.N_nil _ _ _ _ _|exact Kd.V_nil _ _ _ _ _|exact Kd.Q_nil _ _ _ _ _|exact Kd.S_nil _ _ _ _ _,bl_ HB⟩
   ·replace c30:=Bool.eq_false_iff.mpr c30
    subst c30
    have H1 : ((r02_Times.f kj4 t557 t564).bind fun t570=>((r03_told.f kj4 (t556 != t563) t570 (wrap64 (t560 + t567))).bind fun bt573=>(some (bt573.1,bt573.2.1,bt573.2.2.1,bt573.2.2.2)))) = some (r1,r2,r3,r4):=by rw [if_neg (show ¬ (false = true) by decide)] at H;exact H
    clear H
    have H:=H1
    clear H1
    obtain ⟨t570,A36,H⟩:=ob_ H
    try dsimp only at H
    obtain ⟨⟨t573,t574,t577,t578⟩,A37,H⟩:=ob_ H
    try dsimp only at H
    simp only [Option.some.injEq,Prod.mk.injEq] at H
    obtain ⟨rfl,rfl,rfl,rfl⟩:=H
    try go_wp2
    have n0_:=Aside0.mk (Kd.R_drew HO_563001.out)
    have n1_:=Aside0.mk (Kd.R_drew HO_570001.out)
    have n2_:=Aside0.mk (blk_drew BK553.out)
    have n3_:=Aside0.mk (blk_drew BK554.out)
    have n4_:=Aside0.mk (blk_drew BK555.out)
    have n5_:=Aside0.mk (blk_drew BK562.out)
    have n6_:=Aside0.mk (blk_drew BK569.out)
    have n7_:=Aside0.mk (below_drew1 HB.out)
    clear HO_563001
    clear HO_570001
    clear BK553
    clear BK554
    clear BK555
    clear BK562
    clear BK569
    clear HB
    have HO_563001:=n0_
    have HO_570001:=n1_
    have BK553:=n2_
    have BK554:=n3_
    have BK555:=n4_
    have BK562:=n5_
    have BK569:=n6_
    have HB:=n7_
    clear n0_ n1_ n2_ n3_ n4_ n5_ n6_ n7_
    refine start_ (n:=20) (S:=fun w'=>w'.cell? ⟨gb562,0,none⟩ = some (.bool t556) ∧ w'.cell? ⟨gb562,1,none⟩ = some (.slice Ao18 t557.length co18) ∧ w'.cell? ⟨gb562,2,none⟩ = some (.int .i64 t560) ∧ w'.cell? ⟨gb569,0,none⟩ = some (.bool t563) ∧ w'.cell? ⟨gb569,1,none⟩ = some (.slice Ao28 t564.length co28) ∧ w'.cell? ⟨gb569,2,none⟩ = some (.int .i64 t567)) (ds:=[]) #[false,false,false,false,false,false,false,false,false,false,false,false,false,false,false,false,false,false,false,false] (by kernel_rfl) rfl rfl ⟨(bc_ BK562 0),(bc_ BK562 1),(bc_ BK562 2),(bc_ BK569 0),(bc_ BK569 1),(bc_ BK569 2)⟩ (fun hHeld=>?_);refine with_tabW r03_Mul.tab5 r03_Mul.bits5 (fun HT_ HW_=>?_)
    generalize wc.drew = w38 at HO_563001 HO_570001 BK553 BK554 BK555 BK562 BK569 HB hHeld ⊢
    refine pure_ (i:=0) (N:=some 27) (v:=?_) (a':=?_) #[true,false,false,false,false,false,false,false,false,false,false,false,false,false,false,false,false,false,false,false] rfl rfl (any_of HT_.out (by kernel_rfl)) (fun _ _ _ h=>h) (Or.inl ⟨by rfl,?_⟩) ?_ ?_
    rotate_left
    ·intro w'
     go_simp
     with_reducible rfl
    rotate_left
    ·exact nf_
    refine pure_ (i:=2) (N:=some 29) (v:=?_) (a':=?_) #[true,false,true,false,false,false,false,false,false,false,false,false,false,false,false,false,false,false,false,false] rfl rfl (any_of HT_.out (by kernel_rfl)) (fun _ _ _ h=>h) (Or.inl ⟨by rfl,?_⟩) ?_ ?_
    rotate_left
    ·intro w'
     go_simp
     with_reducible rfl
    rotate_left
    ·exact nf_
    refine pure_ (i:=5) (N:=some 32) (v:=?_) (a':=?_) #[true,false,true,false,false,true,false,false,false,false,false,false,false,false,false,false,false,false,false,false] rfl rfl (any_of HT_.out (by kernel_rfl)) (fun _ _ _ h=>h) (Or.inl ⟨by rfl,?_⟩) ?_ ?_
    rotate_left
    ·intro w'
     go_simp
     with_reducible rfl
    rotate_left
    ·exact nf_
    refine pure_ (i:=7) (N:=some 34) (v:=?_) (a':=?_) #[true,false,true,false,false,true,false,true,false,false,false,false,false,false,false,false,false,false,false,false] rfl rfl (any_of HT_.out (by kernel_rfl)) (fun _ _ _ h=>h) (Or.inl ⟨by rfl,?_⟩) ?_ ?_
    rotate_left
    ·intro w'
     go_simp
     with_reducible rfl
    rotate_left
    ·exact nf_
    refine pure_ (i:=10) (N:=some 37) (v:=?_) (a':=?_) #[true,false,true,false,false,true,false,true,false,false,true,false,false,false,false,false,false,false,false,false] rfl rfl (any_of HT_.out (by kernel_rfl)) (fun _ _ _ h=>h) (Or.inl ⟨by rfl,?_⟩) ?_ ?_
    rotate_left
    ·intro w'
     go_simp
     with_reducible rfl
    rotate_left
    ·exact nf_
    refine pure_ (i:=12) (N:=some 39) (v:=?_) (a':=?_) #[true,false,true,false,false,true,false,true,false,false,true,false,true,false,false,false,false,false,false,false] rfl rfl (any_of HT_.out (by kernel_rfl)) (fun _ _ _ h=>h) (Or.inl ⟨by rfl,?_⟩) ?_ ?_
    rotate_left
    ·intro w'
     go_simp
     with_reducible rfl
    rotate_left
    ·exact nf_
    refine take_ (i:=1) (N:=some 28) (v:=?_) (a':=?_) #[true,true,true,false,false,true,false,true,false,false,true,false,true,false,false,false,false,false,false,false] rfl rfl (take_ofW HT_.out HW_.out (by kernel_rfl)) (fun _ _ _ h=>h) (Or.inl ⟨by rfl,?_⟩) hHeld ?_ ?_
    rotate_left
    ·rintro w' ⟨s0,s1,s2,s3,s4,s5⟩
     go_simp
     with_reducible rfl
    rotate_left
    ·exact nf_
    refine take_ (i:=3) (N:=some 30) (v:=?_) (a':=?_) #[true,true,true,true,false,true,false,true,false,false,true,false,true,false,false,false,false,false,false,false] rfl rfl (take_ofW HT_.out HW_.out (by kernel_rfl)) (fun _ _ _ h=>h) (Or.inl ⟨by rfl,?_⟩) hHeld ?_ ?_
    rotate_left
    ·rintro w' ⟨s0,s1,s2,s3,s4,s5⟩
     go_simp
     with_reducible rfl
    rotate_left
    ·exact nf_
    refine pure_ (i:=4) (N:=some 31) (v:=?_) (a':=?_) #[true,true,true,true,true,true,false,true,false,false,true,false,true,false,false,false,false,false,false,false] rfl rfl (any_of HT_.out (by kernel_rfl)) (fun _ _ _ h=>h) (Or.inl ⟨by rfl,?_⟩) ?_ ?_
    rotate_left
    ·intro w'
     go_simp
     with_reducible rfl
    rotate_left
    ·exact nf_
    refine take_ (i:=6) (N:=some 33) (v:=?_) (a':=?_) #[true,true,true,true,true,true,true,true,false,false,true,false,true,false,false,false,false,false,false,false] rfl rfl (take_ofW HT_.out HW_.out (by kernel_rfl)) (fun _ _ _ h=>h) (Or.inl ⟨by rfl,?_⟩) hHeld ?_ ?_
    rotate_left
    ·rintro w' ⟨s0,s1,s2,s3,s4,s5⟩
     go_simp
     with_reducible rfl
    rotate_left
    ·exact nf_
    refine take_ (i:=8) (N:=some 35) (v:=?_) (a':=?_) #[true,true,true,true,true,true,true,true,true,false,true,false,true,false,false,false,false,false,false,false] rfl rfl (take_ofW HT_.out HW_.out (by kernel_rfl)) (fun _ _ _ h=>h) (Or.inl ⟨by rfl,?_⟩) hHeld ?_ ?_
    rotate_left
    ·rintro w' ⟨s0,s1,s2,s3,s4,s5⟩
     go_simp
     with_reducible rfl
    rotate_left
    ·exact nf_
    refine take_ (i:=11) (N:=some 38) (v:=?_) (a':=?_) #[true,true,true,true,true,true,true,true,true,false,true,true,true,false,false,false,false,false,false,false] rfl rfl (take_ofW HT_.out HW_.out (by kernel_rfl)) (fun _ _ _ h=>h) (Or.inl ⟨by rfl,?_⟩) hHeld ?_ ?_
    rotate_left
    ·rintro w' ⟨s0,s1,s2,s3,s4,s5⟩
     go_simp
     with_reducible rfl
    rotate_left
    ·exact nf_
    refine take_ (i:=13) (N:=some 40) (v:=?_) (a':=?_) #[true,true,true,true,true,true,true,true,true,false,true,true,true,true,false,false,false,false,false,false] rfl rfl (take_ofW HT_.out HW_.out (by kernel_rfl)) (fun _ _ _ h=>h) (Or.inl ⟨by rfl,?_⟩) hHeld ?_ ?_
    rotate_left
    ·rintro w' ⟨s0,s1,s2,s3,s4,s5⟩
     go_simp
     with_reducible rfl
    rotate_left
    ·exact nf_
    refine pure_ (i:=14) (N:=some 41) (v:=?_) (a':=?_) #[true,true,true,true,true,true,true,true,true,false,true,true,true,true,true,false,false,false,false,false] rfl rfl (any_of HT_.out (by kernel_rfl)) (fun _ _ _ h=>h) (Or.inl ⟨by rfl,?_⟩) ?_ ?_
    rotate_left
    ·intro w'
     go_simp
     with_reducible rfl
    rotate_left
    ·exact nf_
    refine one_ (i:=9) (N:=some 36) #[true,true,true,true,true,true,true,true,true,true,true,true,true,true,true,false,false,false,false,false] rfl rfl (one_of HT_.out (by kernel_rfl)) (by decide) (fun K hK=>?_)
    refine goes_ Try.func63 (by kernel_rfl) rfl #[.slice Ao18 t557.length co18,.slice Ao28 t564.length co28] (by rfl) rfl rfl (by (try simp only [List.map_toArray,List.map_cons,List.map_nil]);first|done|rfl|(simp only [List.length_drop,List.length_take];rfl)) ?_
    with_reducible refine (r02_Times.calls kj4 _ _ t557 _ _ t564 t570 _ ?side1 ?side2 ?side3 ?side4 A36.out).mono ?_
    (case side1=>repeat (first|exact (Kd.R_reads' HO_563001.out).2.2|(with_reducible first|apply cA|apply cN|apply cD)))
    (case side2=>exact (Kd.R_reads' HO_563001.out).2.1)
    (case side3=>repeat (first|exact (Kd.R_reads' HO_570001.out).2.2|(with_reducible first|apply cA|apply cN|apply cD)))
    (case side4=>exact (Kd.R_reads' HO_570001.out).2.1)
    rintro e w39 ⟨v571,rfl,ho0,hb⟩
    refine ⟨_,rfl,?_⟩
    have n0_:=Aside0.mk (Kd.R_elder' (rr_ HO_563001) (Kd.R_base ho0) hb)
    have n1_:=Aside0.mk (Kd.R_elder' (rr_ HO_570001) (Kd.R_base ho0) hb)
    have n2_:=Aside0.mk (Kd.R_lower (Kd.R_new' (Kd.R_new' ho0 (Kd.R_lt (rr_ HO_563001))) (Kd.R_lt (rr_ HO_570001))) (below_size (bl_ HB)))
    have n3_:=kb_ BK553 hb
    have n4_:=kb_ BK554 hb
    have n5_:=kb_ BK555 hb
    have n6_:=kb_ BK562 hb
    have n7_:=kb_ BK569 hb
    have n8_:=bs_ HB hb
    clear HO_563001
    clear HO_570001
    clear BK553
    clear BK554
    clear BK555
    clear BK562
    clear BK569
    clear HB
    have HO_563001:=n0_
    have HO_570001:=n1_
    have HO572:=n2_
    have BK553:=n3_
    have BK554:=n4_
    have BK555:=n5_
    have BK562:=n6_
    have BK569:=n7_
    have HB:=n8_
    clear n0_ n1_ n2_ n3_ n4_ n5_ n6_ n7_ n8_
    (try clear hb)
    (try clear hb2)
    (try clear hk)
    (try clear hi)
    (try clear ho0)
    obtain ⟨Ao40,co40,eo40⟩:=Kd.R_slice HO572.out
    (first|subst eo40|(injection eo40 with f1_ f2_ f3_;have f4_:=f1_.symm;have f5_:=f3_.symm;clear f1_ f2_ f3_;subst f4_;subst f5_))
    refine hK.out _ _ ⟨(bc_ BK562 0),(bc_ BK562 1),(bc_ BK562 2),(bc_ BK569 0),(bc_ BK569 1),(bc_ BK569 2)⟩ (fun hHeld=>?_)
    clear hK K
    refine norm_ (a':=?_) ?_ ?_
    rotate_left
    ·show Act.put _ (some 36) _ = _
     simp only [Act.put,List.setIfInBounds_toArray,List.set_cons_zero,List.set_cons_succ,i64_w,i32_w]
     rfl
    refine one_ (i:=15) (N:=some 42) #[true,true,true,true,true,true,true,true,true,true,true,true,true,true,true,true,false,false,false,false] rfl rfl (one_of HT_.out (by kernel_rfl)) (by decide) (fun K hK=>?_)
    refine goes_ Try.func59 (by kernel_rfl) rfl #[.bool (t556 != t563),.slice Ao40 t570.length co40,.int .i64 (wrap64 (t560 + t567))] (by rfl) rfl rfl (by (try simp only [List.map_toArray,List.map_cons,List.map_nil]);first|done|rfl|(simp only [List.length_drop,List.length_take];rfl)) ?_
    with_reducible refine (r03_told.calls kj4 (t556 != t563) _ _ t570 (wrap64 (t560 + t567)) t573 t574 t577 t578 _ ?side1 ?side2 A37.out).mono ?_
    (case side1=>repeat (first|exact (Kd.R_reads' HO572.out).2.2|(with_reducible first|apply cA|apply cN|apply cD)))
    (case side2=>exact (Kd.R_reads' HO572.out).2.1)
    rintro e w41 ⟨v575,rfl,ho0,hb⟩
    refine ⟨_,rfl,?_⟩
    have n0_:=Aside0.mk (Kd.R_elder' (rr_ HO_563001) (Kd.R_base ho0) hb)
    have n1_:=Aside0.mk (Kd.R_elder' (rr_ HO_570001) (Kd.R_base ho0) hb)
    have n2_:=Aside0.mk (Kd.R_elder' (rr_ HO572) (Kd.R_base ho0) hb)
    have n3_:=Aside0.mk (Kd.R_lower (Kd.R_new' (Kd.R_new' (Kd.R_new' ho0 (Kd.R_lt (rr_ HO_563001))) (Kd.R_lt (rr_ HO_570001))) (Kd.R_lt (rr_ HO572))) (below_size (bl_ HB)))
    have n4_:=kb_ BK553 hb
    have n5_:=kb_ BK554 hb
    have n6_:=kb_ BK555 hb
    have n7_:=kb_ BK562 hb
    have n8_:=kb_ BK569 hb
    have n9_:=bs_ HB hb
    clear HO_563001
    clear HO_570001
    clear HO572
    clear BK553
    clear BK554
    clear BK555
    clear BK562
    clear BK569
    clear HB
    have HO_563001:=n0_
    have HO_570001:=n1_
    have HO572:=n2_
    have HO576:=n3_
    have BK553:=n4_
    have BK554:=n5_
    have BK555:=n6_
    have BK562:=n7_
    have BK569:=n8_
    have HB:=n9_
    clear n0_ n1_ n2_ n3_ n4_ n5_ n6_ n7_ n8_ n9_
    (try clear hb)
    (try clear hb2)
    (try clear hk)
    (try clear hi)
    (try clear ho0)
    obtain ⟨Ao43,co43,eo43⟩:=Kd.R_slice HO576.out
    (first|subst eo43|(injection eo43 with f1_ f2_ f3_;have f4_:=f1_.symm;have f5_:=f3_.symm;clear f1_ f2_ f3_;subst f4_;subst f5_))
    refine hK.out _ _ ⟨(bc_ BK562 0),(bc_ BK562 1),(bc_ BK562 2),(bc_ BK569 0),(bc_ BK569 1),(bc_ BK569 2)⟩ (fun hHeld=>?_)
    clear hK K
    refine norm_ (a':=?_) ?_ ?_
    rotate_left
    ·show Act.put _ (some 42) _ = _
     simp only [Act.put,List.setIfInBounds_toArray,List.set_cons_zero,List.set_cons_succ,i64_w,i32_w]
     rfl
    refine pure_ (i:=16) (N:=some 43) (v:=?_) (a':=?_) #[true,true,true,true,true,true,true,true,true,true,true,true,true,true,true,true,true,false,false,false] rfl rfl (any_of HT_.out (by kernel_rfl)) (fun _ _ _ h=>h) (Or.inl ⟨by rfl,?_⟩) ?_ ?_
    rotate_left
    ·intro w'
     go_simp
     with_reducible rfl
    rotate_left
    ·exact nf_
    refine pure_ (i:=17) (N:=some 44) (v:=?_) (a':=?_) #[true,true,true,true,true,true,true,true,true,true,true,true,true,true,true,true,true,true,false,false] rfl rfl (any_of HT_.out (by kernel_rfl)) (fun _ _ _ h=>h) (Or.inl ⟨by rfl,?_⟩) ?_ ?_
    rotate_left
    ·intro w'
     go_simp
     with_reducible rfl
    rotate_left
    ·exact nf_
    refine one_ (i:=18) (N:=none) #[true,true,true,true,true,true,true,true,true,true,true,true,true,true,true,true,true,true,true,false] rfl rfl (one_of HT_.out (by kernel_rfl)) (by decide) (fun K hK=>?_)
    have hs42 : w41.cell? ⟨gb555,0,none⟩ = some (.bool false):=bc_ BK555 0
    have hfs42:=bz_ BK555 0
    have hns42_0:=NB553_555.out
    have hns42_1:=NB554_555.out
    have hns42_3:=NB562_555.out
    have hns42_4:=NB569_555.out
    have hms42_0:=NB555_553.out
    have hms42_1:=NB555_554.out
    have hms42_3:=NB555_562.out
    have hms42_4:=NB555_569.out
    have hs44 : w41.cell? ⟨gb555,1,none⟩ = some (.slice none 0 0):=bc_ BK555 1
    have hfs44:=bz_ BK555 1
    have hns44_0:=NB553_555.out
    have hns44_1:=NB554_555.out
    have hns44_3:=NB562_555.out
    have hns44_4:=NB569_555.out
    have hms44_0:=NB555_553.out
    have hms44_1:=NB555_554.out
    have hms44_3:=NB555_562.out
    have hms44_4:=NB555_569.out
    have hs45 : w41.cell? ⟨gb555,2,none⟩ = some (.int .i64 0):=bc_ BK555 2
    have hfs45:=bz_ BK555 2
    have hns45_0:=NB553_555.out
    have hns45_1:=NB554_555.out
    have hns45_3:=NB562_555.out
    have hns45_4:=NB569_555.out
    have hms45_0:=NB555_553.out
    have hms45_1:=NB555_554.out
    have hms45_3:=NB555_562.out
    have hms45_4:=NB555_569.out
    refine skip_ (w1:=?_) (by rfl) rfl ?_ ?_
    rotate_left
    ·go_simp
     rfl
    refine hK.out _ _ ⟨((cell_far (p:=⟨gb555,_,none⟩) NB562_555.out _).trans (((cell_far (p:=⟨gb555,_,none⟩) NB562_555.out _).trans (((cell_far (p:=⟨gb555,_,none⟩) NB562_555.out _).trans (hHeld.1)))))),((cell_far (p:=⟨gb555,_,none⟩) NB562_555.out _).trans (((cell_far (p:=⟨gb555,_,none⟩) NB562_555.out _).trans (((cell_far (p:=⟨gb555,_,none⟩) NB562_555.out _).trans (hHeld.2.1)))))),((cell_far (p:=⟨gb555,_,none⟩) NB562_555.out _).trans (((cell_far (p:=⟨gb555,_,none⟩) NB562_555.out _).trans (((cell_far (p:=⟨gb555,_,none⟩) NB562_555.out _).trans (hHeld.2.2.1)))))),((cell_far (p:=⟨gb555,_,none⟩) NB569_555.out _).trans (((cell_far (p:=⟨gb555,_,none⟩) NB569_555.out _).trans (((cell_far (p:=⟨gb555,_,none⟩) NB569_555.out _).trans (hHeld.2.2.2.1)))))),((cell_far (p:=⟨gb555,_,none⟩) NB569_555.out _).trans (((cell_far (p:=⟨gb555,_,none⟩) NB569_555.out _).trans (((cell_far (p:=⟨gb555,_,none⟩) NB569_555.out _).trans (hHeld.2.2.2.2.1)))))),((cell_far (p:=⟨gb555,_,none⟩) NB569_555.out _).trans (((cell_far (p:=⟨gb555,_,none⟩) NB569_555.out _).trans (((cell_far (p:=⟨gb555,_,none⟩) NB569_555.out _).trans (hHeld.2.2.2.2.2))))))⟩ (fun hHeld=>?_)
    clear hK K
    refine pure_ (i:=19) (N:=some 5) (v:=?_) (a':=?_) #[true,true,true,true,true,true,true,true,true,true,true,true,true,true,true,true,true,true,true,true] rfl rfl (any_of HT_.out (by kernel_rfl)) (fun _ _ _ h=>h) (Or.inl ⟨by rfl,?_⟩) ?_ ?_
    rotate_left
    ·intro w'
     go_simp
     with_reducible rfl
    rotate_left
    ·exact nf_
    refine done_ (done_of HT_.out (by kernel_rfl)) ?_
    try go_wp2
    refine bodyPost_ret (results_ct rfl _ _ gb555 43 #[.bool t573,.slice Ao43 t574.length co43,.int .i64 t577] (0,0) _ rfl (by (with_reducible repeat (first|apply bN|apply bD|apply bA));refine blk_put (cs:=#[.bool t573,.slice Ao43 t574.length co43,.int .i64 0]) ?_ 2 _ rfl;(with_reducible repeat (first|apply bN|apply bD|apply bA));refine blk_put (cs:=#[.bool t573,.slice none 0 0,.int .i64 0]) ?_ 1 _ rfl;(with_reducible repeat (first|apply bN|apply bD|apply bA));refine blk_put (cs:=#[.bool false,.slice none 0 0,.int .i64 0]) ?_ 0 _ rfl;exact bk_ BK555) Try.underlying43 rfl (by kernel_rfl)) rfl ?_
    exact ⟨_,rf_,by (with_reducible repeat (first|apply rA|apply rN|apply rD));exact Kd.R_mono (Kd.R_far (p:=⟨gb555,2,none⟩) (Kd.R_far (p:=⟨gb555,1,none⟩) (Kd.R_far (p:=⟨gb555,0,none⟩) (Kd.R_types HO576.out BK555.out (by decide)) (fun _ hk=>hk.2) (.bool t573)) (fun _ hk=>hk.2) (.slice Ao43 t574.length co43)) (fun _ hk=>hk.2) (.int .i64 t577)) (fun _ hk=>trivial),bl_ HB⟩

end Go.Proofs.Ytdemanikmaafeaa.Pr
-- written by this session's own program (wip/fprint.py), which widens the kit's print by floats
namespace Go.Proofs.Ytdemanikmaafeaa.Pr
open Go.RowKit Go.Proofs.YtdemanikmaafeaaW.PrintWords Go.Proofs.YtdemanikmaafeaaW.PrintLast Go.Proofs.YtdemanikmaafeaaW.PrintMore
attribute [local go_sem] max2_int min2_int max_two min_two max_three min_three max_four min_four   -- for this text's walks alone
set_option linter.unusedVariables false
set_option linter.unusedSimpArgs false

def r03_Of64.f  : Option (Int × Int × Int) := some (53, (-1074), 9218868437227405312)
set_option maxHeartbeats 3000000 in
set_option maxRecDepth 100000 in
theorem r03_Of64.calls  (r1 : Int) (r2 : Int) (r3 : Int) (w : World) (h : r03_Of64.f  = some (r1, r2, r3)) :
  Calls Try.prog 71 #[] w fun e w'=>e = .returned (.agg #[.int .i64 r1,.int .i64 r2,.int .u64 r3]) ∧ Below w.heap.size w w':=by
 have hu83:=Try.underlying83
 have HB:=Aside0.mk (Below.refl w.heap.size w)
 have H : (some (53,(-1074),9218868437227405312)) = some (r1,r2,r3):=h
 clear h
 simp only [Option.some.injEq,Prod.mk.injEq] at H
 obtain ⟨rfl,rfl,rfl⟩:=H
 go_enter Try.func71,Try.ntmps71
 go_wp2_with (first|((with_reducible refine gate_dst (N:=0) rfl ?_);refine box_ev (N:=0) (cs:=#[.int .i64 0,.int .i64 0,.int .u64 0]) (t:=83) ?_;intro gb411 hg w1 hbox hb;have BK411:=Aside0.mk (hbox);have GW411:=ge_ HB hg;have GE411:=ge_ HB hg;replace HB:=bs_ HB hb;clear hb hbox hg;have hcz2_0:=bc_ BK411 0;have hcz2_1:=bc_ BK411 1;have hcz2_2:=bc_ BK411 2;have hfz2_0:=bz_ BK411 0;have hfz2_1:=bz_ BK411 1;have hfz2_2:=bz_ BK411 2))
 refine bodyPost_ret (results_cell_row rfl _ _ gb411 83 #[.int .i64 53,.int .i64 (-1074),.int .u64 9218868437227405312] (0,0) _ rfl (by (with_reducible repeat (first|apply bN|apply bD|apply bA));refine blk_put (cs:=#[.int .i64 53,.int .i64 (-1074),.int .u64 0]) ?_ 2 _ rfl;(with_reducible repeat (first|apply bN|apply bD|apply bA));refine blk_put (cs:=#[.int .i64 53,.int .i64 0,.int .u64 0]) ?_ 1 _ rfl;(with_reducible repeat (first|apply bN|apply bD|apply bA));refine blk_put (cs:=#[.int .i64 0,.int .i64 0,.int .u64 0]) ?_ 0 _ rfl;exact bk_ BK411) Try.underlying83 rfl (by kernel_rfl)) rfl ?_
 exact ⟨rf_,bl_ HB⟩

def r02_Of.f (k : Nat) (a0 : Int) : Option (List Int) := (r02_Norm.f k (([(a0) % 4294967296, (a0 / 4294967296) % 4294967296] : List Int))).bind fun t415 => (some t415)
theorem r02_Of.mono : ∀ a0 k, LeO (r02_Of.f k a0) (r02_Of.f (k + 1) a0) := by
 intro a0 k
 unfold r02_Of.f
 repeat' first
   | (with_reducible exact r02_Norm.mono _ _)
   | (with_reducible exact LeO.refl _)
   | (with_reducible exact LeO.none _)
   | (with_reducible refine LeO.ite ?_ ?_)
   | (with_reducible refine LeO.bind ?_ (fun _ => ?_))
   | exact r02_Norm.mono _ _
   | exact LeO.none _
   | refine LeO.ite ?_ ?_
   | refine LeO.bind ?_ (fun _ => ?_)
set_option maxHeartbeats 3000000 in
set_option maxRecDepth 100000 in
theorem r02_Of.calls (k : Nat) (a0 : Int) (r : List Int) (w : World) (h : r02_Of.f k a0 = some r) :
  Calls Try.prog 87 #[.int .u64 a0] w fun e w'=>∃ v0_ : Value,e = .returned (v0_) ∧ Kd.R (Kd.int .u32) 72 w' w.heap.size (fun _=>True) v0_ r ∧ Below w.heap.size w w':=by
 have HB:=Aside0.mk (Below.refl w.heap.size w)
 have H : ((r02_Norm.f k (([(a0) % 4294967296,(a0 / 4294967296) % 4294967296] : List Int))).bind fun t415=>(some t415)) = some r:=h
 clear h
 obtain ⟨y412,hy412⟩ : ∃ y_ : List Int,y_ = (([(a0) % 4294967296,(a0 / 4294967296) % 4294967296] : List Int)):=⟨_,rfl⟩
 replace H : ((r02_Norm.f k y412).bind fun t415=>(some t415)) = some r:=by first|(rw [hy412];with_reducible exact H)|(have H2_:=(Option.bind_some _ _).symm.trans H;rw [hy412];with_reducible exact H2_)|(have H2_:=(Option.bind_some _ _).symm.trans H;with_reducible exact H2_)|with_reducible exact H|(rw [hy412];exact H)|exact H
 have Ny412:=Aside0.mk hy412
 clear hy412
 obtain ⟨t415,A2,H⟩:=ob_ H
 try dsimp only at H
 obtain rfl:=Option.some.inj H
 go_enter Try.func87,Try.ntmps87
 go_wp2_with (first|((with_reducible refine gate_dst (N:=8) rfl ?_);refine Kd.R_lit (Kd.int .u32) _ 72 ?hg (N:=8) ?hd (xs:=([(a0) % 4294967296,(a0 / 4294967296) % 4294967296] : List Int)) (inner:=[.int .u32 ((a0) % 4294967296),.int .u32 ((a0 / 4294967296) % 4294967296)]) (ok:=fun _=>True) (okp:=fun _=>True) ?hr ?hp (fun _ hk=>hk) trivial (Below.refl _ _) (Nat.le_refl _) (by simp) ?_;(case hd=>rfl);(case hg=>rfl);(case hr=>first|(go_simp;done)|(go_simp;rfl));(case hp=>exact (Reps.one (show Kd.M (Kd.int .u32) _ _ _ ((a0) % 4294967296) [.int .u32 ((a0) % 4294967296)] from rfl) (Reps.one (show Kd.M (Kd.int .u32) _ _ _ ((a0 / 4294967296) % 4294967296) [.int .u32 ((a0 / 4294967296) % 4294967296)] from rfl) (Reps.none _ _))));intro v413 w3 ho4 hb hg_ hnew_;clear hg_ hnew_;(first|rw [← Ny412.out] at ho4|(simp only [Int.reduceToNat] at ho4;rw [← Ny412.out] at ho4));have HO414:=Aside0.mk (Kd.R_lower ho4 (below_size (bl_ HB)));replace HB:=bs_ HB hb;clear hb ho4;obtain ⟨Ao5,co5,eo5⟩:=Kd.R_slice HO414.out;subst eo5)|((with_reducible refine gate_callee (f:=78) rfl ?_);refine goesM (some 9) Try.func78 #[.slice Ao5 y412.length co5] ?_;(with_reducible refine (r02_Norm.calls k _ _ y412 t415 _ ?side1 ?side2 A2.out).mono ?_);(case side1=>repeat (first|exact (Kd.R_reads' HO414.out).2.2|(with_reducible first|apply cA|apply cN|apply cD)));(case side2=>exact (Kd.R_reads' HO414.out).2.1);rintro e w6 ⟨v416,rfl,ho0,hb⟩;refine ⟨_,rfl,?_⟩;have HO417:=Aside0.mk (Kd.R_lower (Kd.R_new' ho0 (Kd.R_lt (rr_ HO414))) (below_size (bl_ HB)));replace HO414:=Aside0.mk (Kd.R_elder' (rr_ HO414) (Kd.R_base ho0) hb);replace HB:=bs_ HB hb;(try clear hb);(try clear hb2);(try clear hk);(try clear hi);(try clear ho0)))
 go_ret
 exact ⟨_,rf_,by (with_reducible repeat (first|apply rA|apply rN|apply rD));exact Kd.R_mono HO417.out (fun _ hk=>trivial),bl_ HB⟩

def r03_Size_Number.f (k : Nat) (a0_0 : Int) (a0_1 : Int) (a0_2 : Int) (a1 : Int) : Option (List Int × Int) := if 0 ≤ (IntKind.u64.wrap (wrap64 (a0_0 - 1))) then (if (shl .u64 1 (IntKind.u64.wrap (wrap64 (a0_0 - 1)))) = 0 then (none) else (if (IntKind.u64.wrap (Int.tdiv a1 (shl .u64 1 (IntKind.u64.wrap (wrap64 (a0_0 - 1)))))) = 0 then ((r02_Of.f k (Int.tmod a1 (shl .u64 1 (IntKind.u64.wrap (wrap64 (a0_0 - 1)))))).bind fun t419 => (some (t419, a0_1))) else ((r02_Of.f k (IntKind.u64.wrap ((shl .u64 1 (IntKind.u64.wrap (wrap64 (a0_0 - 1)))) + (Int.tmod a1 (shl .u64 1 (IntKind.u64.wrap (wrap64 (a0_0 - 1)))))))).bind fun t422 => (some (t422, wrap64 ((wrap64 (a0_1 + (wrap64 (IntKind.u64.wrap (Int.tdiv a1 (shl .u64 1 (IntKind.u64.wrap (wrap64 (a0_0 - 1))))))))) - 1)))))) else (none)
theorem r03_Size_Number.mono : ∀ a0 a1 a2 a3 k, LeO (r03_Size_Number.f k a0 a1 a2 a3) (r03_Size_Number.f (k + 1) a0 a1 a2 a3) := by
 intro a0 a1 a2 a3 k
 unfold r03_Size_Number.f
 repeat' first
   | (with_reducible exact r02_Of.mono _ _)
   | (with_reducible exact LeO.refl _)
   | (with_reducible exact LeO.none _)
   | (with_reducible refine LeO.ite ?_ ?_)
   | (with_reducible refine LeO.bind ?_ (fun _ => ?_))
   | exact r02_Of.mono _ _
   | exact LeO.none _
   | refine LeO.ite ?_ ?_
   | refine LeO.bind ?_ (fun _ => ?_)
def r03_Size_Number.T6 : Bool × List (List Nat × List Nat) := (true, [([], []), ([], []), ([0, 1], [0, 1]), ([2], [2]), ([], []), ([4], [4]), ([], []), ([6], [6]), ([5, 7], [5, 7]), ([8], [8]), ([3, 3, 0, 1, 2, 3], [3]), ([9, 10, 0, 1, 2, 3, 4, 5, 6, 7, 8, 9, 10], [9])])
def r03_Size_Number.B6 : List Nat := [0, 0, 3, 7, 0, 16, 0, 64, 240, 496, 15, 2047]
theorem r03_Size_Number.tab6 : rtab .any (opsOf Try.f82 6) = r03_Size_Number.T6 := by kernel_rfl
theorem r03_Size_Number.bits6 : waitsOk r03_Size_Number.T6.2 r03_Size_Number.B6 = true := by kernel_rfl
set_option maxHeartbeats 3000000 in
set_option maxRecDepth 100000 in
theorem r03_Size_Number.calls (k : Nat) (a0_0 : Int) (a0_1 : Int) (a0_2 : Int) (a1 : Int) (r1 : List Int) (r2 : Int) (w : World) (h : r03_Size_Number.f k a0_0 a0_1 a0_2 a1 = some (r1, r2)) :
  Calls Try.prog 82 #[.agg #[.int .i64 a0_0,.int .i64 a0_1,.int .u64 a0_2],.int .u64 a1] w fun e w'=>∃ v0_ : Value,e = .returned (.tuple #[v0_,.int .i64 r2]) ∧ Kd.R (Kd.int .u32) 72 w' w.heap.size (fun _=>True) v0_ r1 ∧ Below w.heap.size w w':=by
 have hu83:=Try.underlying83
 have HB:=Aside0.mk (Below.refl w.heap.size w)
 have H : (if 0 ≤ (IntKind.u64.wrap (wrap64 (a0_0 - 1))) then (if (shl .u64 1 (IntKind.u64.wrap (wrap64 (a0_0 - 1)))) = 0 then (none) else (if (IntKind.u64.wrap (Int.tdiv a1 (shl .u64 1 (IntKind.u64.wrap (wrap64 (a0_0 - 1)))))) = 0 then ((r02_Of.f k (Int.tmod a1 (shl .u64 1 (IntKind.u64.wrap (wrap64 (a0_0 - 1)))))).bind fun t419=>(some (t419,a0_1))) else ((r02_Of.f k (IntKind.u64.wrap ((shl .u64 1 (IntKind.u64.wrap (wrap64 (a0_0 - 1)))) + (Int.tmod a1 (shl .u64 1 (IntKind.u64.wrap (wrap64 (a0_0 - 1)))))))).bind fun t422=>(some (t422,wrap64 ((wrap64 (a0_1 + (wrap64 (IntKind.u64.wrap (Int.tdiv a1 (shl .u64 1 (IntKind.u64.wrap (wrap64 (a0_0 - 1))))))))) - 1)))))) else (none)) = some (r1,r2):=h
 clear h
 obtain ⟨ji3,hji3⟩ : ∃ j_ : Int,(IntKind.u64.wrap (wrap64 (a0_0 - 1))) = j_:=⟨_,rfl⟩
 replace H : (if 0 ≤ (ji3) then (if (shl .u64 1 (ji3)) = 0 then (none) else (if (IntKind.u64.wrap (Int.tdiv a1 (shl .u64 1 (ji3)))) = 0 then ((r02_Of.f k (Int.tmod a1 (shl .u64 1 (ji3)))).bind fun t419=>(some (t419,a0_1))) else ((r02_Of.f k (IntKind.u64.wrap ((shl .u64 1 (ji3)) + (Int.tmod a1 (shl .u64 1 (ji3)))))).bind fun t422=>(some (t422,wrap64 ((wrap64 (a0_1 + (wrap64 (IntKind.u64.wrap (Int.tdiv a1 (shl .u64 1 (ji3))))))) - 1)))))) else (none)) = some (r1,r2):=by first|(rw [hji3] at H;exact H)|(simp only [hji3] at H ⊢;exact H)
 by_cases c4 : 0 ≤ (ji3)
 ·rw [if_pos c4] at H
  have c4b0:=eq_true c4
  have c4b1 : decide (0 ≤ (ji3)) = true:=decide_eq_true c4
  clear c4
  obtain ⟨ji5,hji5⟩ : ∃ j_ : Int,(shl .u64 1 (ji3)) = j_:=⟨_,rfl⟩
  replace H : (if (ji5) = 0 then (none) else (if (IntKind.u64.wrap (Int.tdiv a1 (ji5))) = 0 then ((r02_Of.f k (Int.tmod a1 (ji5))).bind fun t419=>(some (t419,a0_1))) else ((r02_Of.f k (IntKind.u64.wrap ((ji5) + (Int.tmod a1 (ji5))))).bind fun t422=>(some (t422,wrap64 ((wrap64 (a0_1 + (wrap64 (IntKind.u64.wrap (Int.tdiv a1 (ji5)))))) - 1)))))) = some (r1,r2):=by first|(rw [hji5] at H;exact H)|(simp only [hji5] at H ⊢;exact H)
  have hji5_ : (IntKind.u64.wrap (1 * 2 ^ min (ji3).toNat 64)) = ji5:=hji5
  have hji5z : (ji3) ≤ 64 → (IntKind.u64.wrap (1 * 2 ^ (ji3).toNat)) = ji5:=shl_small hji5
  have hji5u : (IntKind.u64.wrap (2 ^ min (ji3).toNat 64)) = ji5:=by have h_:=hji5_;rw [Int.one_mul] at h_;exact h_
  have hji5v : (ji3) ≤ 64 → (IntKind.u64.wrap (2 ^ (ji3).toNat)) = ji5:=fun hle_=>by have h_:=hji5z hle_;rw [Int.one_mul] at h_;exact h_
  by_cases c6 : (ji5) = 0
  ·rw [if_pos c6] at H
   exact absurd H (by simp)
  ·rw [if_neg c6] at H
   have c6b0 : ((ji5) == 0) = false:=beq_eq_false_iff_ne.mpr c6
   have c6b1 : ((ji5) != 0) = true:=bne_iff_ne.mpr c6
   by_cases c7 : (IntKind.u64.wrap (Int.tdiv a1 (ji5))) = 0
   ·rw [if_pos c7] at H
    have c7b0 : ((IntKind.u64.wrap (Int.tdiv a1 (ji5))) == 0) = true:=beq_iff_eq.mpr c7
    have c7b1 : ((IntKind.u64.wrap (Int.tdiv a1 (ji5))) != 0) = false:=bne_eq_false_iff_eq.mpr c7
    clear c7
    obtain ⟨t419,A8,H⟩:=ob_ H
    try dsimp only at H
    simp only [Option.some.injEq,Prod.mk.injEq] at H
    obtain ⟨rfl,rfl⟩:=H
    go_enter Try.func82,Try.ntmps82
    try go_wp2_with (first|((with_reducible refine gate_dst (N:=2) rfl ?_);refine box_ev (N:=2) (cs:=#[.int .i64 a0_0,.int .i64 a0_1,.int .u64 a0_2]) (t:=83) ?_;intro gb418 hg w9 hbox hb;have BK418:=Aside0.mk (hbox);have GW418:=ge_ HB hg;have GE418:=ge_ HB hg;replace HB:=bs_ HB hb;clear hb hbox hg;have hcz10_0:=bc_ BK418 0;have hcz10_1:=bc_ BK418 1;have hcz10_2:=bc_ BK418 2;have hfz10_0:=bz_ BK418 0;have hfz10_1:=bz_ BK418 1;have hfz10_2:=bz_ BK418 2))
    have n0_:=Aside0.mk (blk_drew BK418.out)
    have n1_:=Aside0.mk (below_drew1 HB.out)
    clear BK418
    clear HB
    have BK418:=n0_
    have HB:=n1_
    clear n0_ n1_
    refine start_ (n:=6) (S:=fun w'=>w'.cell? ⟨gb418,0,none⟩ = some (.int .i64 a0_0) ∧ w'.cell? ⟨gb418,1,none⟩ = some (.int .i64 a0_1) ∧ w'.cell? ⟨gb418,2,none⟩ = some (.int .u64 a0_2)) (ds:=[]) #[false,false,false,false,false,false] (by kernel_rfl) rfl rfl ⟨(bc_ BK418 0),(bc_ BK418 1),(bc_ BK418 2)⟩ (fun hHeld=>?_)
    generalize w9.drew = w11 at BK418 HB hHeld ⊢
    refine pure_ (i:=0) (N:=some 22) (v:=?_) (a':=?_) #[true,false,false,false,false,false] rfl rfl (by kernel_rfl) (fun _ _ _ h=>h) (Or.inl ⟨by rfl,?_⟩) ?_ ?_
    rotate_left
    ·intro w'
     go_simp
     with_reducible rfl
    rotate_left
    ·exact nf_
    refine pure_ (i:=2) (N:=some 24) (v:=?_) (a':=?_) #[true,false,true,false,false,false] rfl rfl (by kernel_rfl) (fun _ _ _ h=>h) (Or.inl ⟨by rfl,?_⟩) ?_ ?_
    rotate_left
    ·intro w'
     go_simp
     with_reducible rfl
    rotate_left
    ·exact nf_
    refine take_ (i:=3) (N:=some 25) (v:=?_) (a':=?_) #[true,false,true,true,false,false] rfl rfl (by kernel_rfl) (fun _ _ _ h=>h) (Or.inl ⟨by rfl,?_⟩) hHeld ?_ ?_
    rotate_left
    ·rintro w' ⟨s0,s1,s2⟩
     go_simp
     with_reducible rfl
    rotate_left
    ·exact nf_
    refine one_ (i:=1) (N:=some 23) #[true,true,true,true,false,false] rfl rfl (by kernel_rfl) (by decide) (fun K hK=>?_)
    refine goes_ Try.func87 (by kernel_rfl) rfl #[.int .u64 (Int.tmod a1 (ji5))] (by rfl) rfl rfl (by (try simp only [List.map_toArray,List.map_cons,List.map_nil]);first|done|(simp only [hji5];rfl)|rfl|(simp only [List.length_drop,List.length_take];rfl)) ?_
    with_reducible refine (r02_Of.calls k (Int.tmod a1 (ji5)) t419 _ A8.out).mono ?_
    rintro e w12 ⟨v420,rfl,ho0,hb⟩
    refine ⟨_,rfl,?_⟩
    have n0_:=Aside0.mk (Kd.R_lower ho0 (below_size (bl_ HB)))
    have n1_:=kb_ BK418 hb
    have n2_:=bs_ HB hb
    clear BK418
    clear HB
    have HO421:=n0_
    have BK418:=n1_
    have HB:=n2_
    clear n0_ n1_ n2_
    (try clear hb)
    (try clear hb2)
    (try clear hk)
    (try clear hi)
    (try clear ho0)
    refine hK.out _ _ ⟨(bc_ BK418 0),(bc_ BK418 1),(bc_ BK418 2)⟩ (fun hHeld=>?_)
    clear hK K
    refine norm_ (a':=?_) ?_ ?_
    rotate_left
    ·show Act.put _ (some 23) _ = _
     simp only [Act.put,List.setIfInBounds_toArray,List.set_cons_zero,List.set_cons_succ,i64_w,i32_w]
     rfl
    refine pure_ (i:=4) (N:=some 4) (v:=?_) (a':=?_) #[true,true,true,true,true,false] rfl rfl (by kernel_rfl) (fun _ _ _ h=>h) (Or.inl ⟨by rfl,?_⟩) ?_ ?_
    rotate_left
    ·intro w'
     go_simp
     with_reducible rfl
    rotate_left
    ·exact nf_
    refine pure_ (i:=5) (N:=some 5) (v:=?_) (a':=?_) #[true,true,true,true,true,true] rfl rfl (by kernel_rfl) (fun _ _ _ h=>h) (Or.inl ⟨by rfl,?_⟩) ?_ ?_
    rotate_left
    ·intro w'
     go_simp
     with_reducible rfl
    rotate_left
    ·exact nf_
    refine done_ (by kernel_rfl) ?_
    try go_wp2
    go_ret2
    exact ⟨_,by first|rfl|(simp [errW_none,errW_some] <;> rfl)|(simp only [← hji3,← hji5];first|rfl|(simp [errW_none,errW_some] <;> rfl))|(simp [*,errW_none,errW_some] <;> rfl),rr_ HO421,bl_ HB⟩
   ·rw [if_neg c7] at H
    have c7b0 : ((IntKind.u64.wrap (Int.tdiv a1 (ji5))) == 0) = false:=beq_eq_false_iff_ne.mpr c7
    have c7b1 : ((IntKind.u64.wrap (Int.tdiv a1 (ji5))) != 0) = true:=bne_iff_ne.mpr c7
    obtain ⟨t422,A13,H⟩:=ob_ H
    try dsimp only at H
    simp only [Option.some.injEq,Prod.mk.injEq] at H
    obtain ⟨rfl,rfl⟩:=H
    go_enter Try.func82,Try.ntmps82
    try go_wp2_with (first|((with_reducible refine gate_dst (N:=2) rfl ?_);refine box_ev (N:=2) (cs:=#[.int .i64 a0_0,.int .i64 a0_1,.int .u64 a0_2]) (t:=83) ?_;intro gb418 hg w14 hbox hb;have BK418:=Aside0.mk (hbox);have GW418:=ge_ HB hg;have GE418:=ge_ HB hg;replace HB:=bs_ HB hb;clear hb hbox hg;have hcz15_0:=bc_ BK418 0;have hcz15_1:=bc_ BK418 1;have hcz15_2:=bc_ BK418 2;have hfz15_0:=bz_ BK418 0;have hfz15_1:=bz_ BK418 1;have hfz15_2:=bz_ BK418 2))
    have n0_:=Aside0.mk (blk_drew BK418.out)
    have n1_:=Aside0.mk (below_drew1 HB.out)
    clear BK418
    clear HB
    have BK418:=n0_
    have HB:=n1_
    clear n0_ n1_
    refine start_ (n:=12) (S:=fun w'=>w'.cell? ⟨gb418,0,none⟩ = some (.int .i64 a0_0) ∧ w'.cell? ⟨gb418,1,none⟩ = some (.int .i64 a0_1) ∧ w'.cell? ⟨gb418,2,none⟩ = some (.int .u64 a0_2)) (ds:=[]) #[false,false,false,false,false,false,false,false,false,false,false,false] (by kernel_rfl) rfl rfl ⟨(bc_ BK418 0),(bc_ BK418 1),(bc_ BK418 2)⟩ (fun hHeld=>?_);refine with_tabW r03_Size_Number.tab6 r03_Size_Number.bits6 (fun HT_ HW_=>?_)
    generalize w14.drew = w16 at BK418 HB hHeld ⊢
    refine pure_ (i:=0) (N:=some 26) (v:=?_) (a':=?_) #[true,false,false,false,false,false,false,false,false,false,false,false] rfl rfl (any_of HT_.out (by kernel_rfl)) (fun _ _ _ h=>h) (Or.inl ⟨by rfl,?_⟩) ?_ ?_
    rotate_left
    ·intro w'
     go_simp
     with_reducible rfl
    rotate_left
    ·exact nf_
    refine pure_ (i:=1) (N:=some 27) (v:=?_) (a':=?_) #[true,true,false,false,false,false,false,false,false,false,false,false] rfl rfl (any_of HT_.out (by kernel_rfl)) (fun _ _ _ h=>h) (Or.inl ⟨by rfl,?_⟩) ?_ ?_
    rotate_left
    ·intro w'
     go_simp
     with_reducible rfl
    rotate_left
    ·exact nf_
    refine pure_ (i:=2) (N:=some 28) (v:=?_) (a':=?_) #[true,true,true,false,false,false,false,false,false,false,false,false] rfl rfl (any_of HT_.out (by kernel_rfl)) (fun _ _ _ h=>h) (Or.inl ⟨by rfl,?_⟩) ?_ ?_
    rotate_left
    ·intro w'
     go_simp
     with_reducible rfl
    rotate_left
    ·exact nf_
    refine pure_ (i:=4) (N:=some 30) (v:=?_) (a':=?_) #[true,true,true,false,true,false,false,false,false,false,false,false] rfl rfl (any_of HT_.out (by kernel_rfl)) (fun _ _ _ h=>h) (Or.inl ⟨by rfl,?_⟩) ?_ ?_
    rotate_left
    ·intro w'
     go_simp
     with_reducible rfl
    rotate_left
    ·exact nf_
    refine pure_ (i:=6) (N:=some 32) (v:=?_) (a':=?_) #[true,true,true,false,true,false,true,false,false,false,false,false] rfl rfl (any_of HT_.out (by kernel_rfl)) (fun _ _ _ h=>h) (Or.inl ⟨by rfl,?_⟩) ?_ ?_
    rotate_left
    ·intro w'
     go_simp
     with_reducible rfl
    rotate_left
    ·exact nf_
    refine pure_ (i:=7) (N:=some 33) (v:=?_) (a':=?_) #[true,true,true,false,true,false,true,true,false,false,false,false] rfl rfl (any_of HT_.out (by kernel_rfl)) (fun _ _ _ h=>h) (Or.inl ⟨by rfl,?_⟩) ?_ ?_
    rotate_left
    ·intro w'
     go_simp
     with_reducible rfl
    rotate_left
    ·exact nf_
    refine take_ (i:=5) (N:=some 31) (v:=?_) (a':=?_) #[true,true,true,false,true,true,true,true,false,false,false,false] rfl rfl (take_ofW HT_.out HW_.out (by kernel_rfl)) (fun _ _ _ h=>h) (Or.inl ⟨by rfl,?_⟩) hHeld ?_ ?_
    rotate_left
    ·rintro w' ⟨s0,s1,s2⟩
     go_simp
     with_reducible rfl
    rotate_left
    ·exact nf_
    refine pure_ (i:=8) (N:=some 34) (v:=?_) (a':=?_) #[true,true,true,false,true,true,true,true,true,false,false,false] rfl rfl (any_of HT_.out (by kernel_rfl)) (fun _ _ _ h=>h) (Or.inl ⟨by rfl,?_⟩) ?_ ?_
    rotate_left
    ·intro w'
     go_simp
     with_reducible rfl
    rotate_left
    ·exact nf_
    refine pure_ (i:=9) (N:=some 35) (v:=?_) (a':=?_) #[true,true,true,false,true,true,true,true,true,true,false,false] rfl rfl (any_of HT_.out (by kernel_rfl)) (fun _ _ _ h=>h) (Or.inl ⟨by rfl,?_⟩) ?_ ?_
    rotate_left
    ·intro w'
     go_simp
     with_reducible rfl
    rotate_left
    ·exact nf_
    refine one_ (i:=3) (N:=some 29) #[true,true,true,true,true,true,true,true,true,true,false,false] rfl rfl (one_of HT_.out (by kernel_rfl)) (by decide) (fun K hK=>?_)
    refine goes_ Try.func87 (by kernel_rfl) rfl #[.int .u64 (IntKind.u64.wrap ((ji5) + (Int.tmod a1 (ji5))))] (by rfl) rfl rfl (by (try simp only [List.map_toArray,List.map_cons,List.map_nil]);first|done|(simp only [hji5];rfl)|rfl|(simp only [List.length_drop,List.length_take];rfl)) ?_
    with_reducible refine (r02_Of.calls k (IntKind.u64.wrap ((ji5) + (Int.tmod a1 (ji5)))) t422 _ A13.out).mono ?_
    rintro e w17 ⟨v423,rfl,ho0,hb⟩
    refine ⟨_,rfl,?_⟩
    have n0_:=Aside0.mk (Kd.R_lower ho0 (below_size (bl_ HB)))
    have n1_:=kb_ BK418 hb
    have n2_:=bs_ HB hb
    clear BK418
    clear HB
    have HO424:=n0_
    have BK418:=n1_
    have HB:=n2_
    clear n0_ n1_ n2_
    (try clear hb)
    (try clear hb2)
    (try clear hk)
    (try clear hi)
    (try clear ho0)
    refine hK.out _ _ ⟨(bc_ BK418 0),(bc_ BK418 1),(bc_ BK418 2)⟩ (fun hHeld=>?_)
    clear hK K
    refine norm_ (a':=?_) ?_ ?_
    rotate_left
    ·show Act.put _ (some 29) _ = _
     simp only [Act.put,List.setIfInBounds_toArray,List.set_cons_zero,List.set_cons_succ,i64_w,i32_w]
     rfl
    refine pure_ (i:=10) (N:=some 4) (v:=?_) (a':=?_) #[true,true,true,true,true,true,true,true,true,true,true,false] rfl rfl (any_of HT_.out (by kernel_rfl)) (fun _ _ _ h=>h) (Or.inl ⟨by rfl,?_⟩) ?_ ?_
    rotate_left
    ·intro w'
     go_simp
     with_reducible rfl
    rotate_left
    ·exact nf_
    refine pure_ (i:=11) (N:=some 5) (v:=?_) (a':=?_) #[true,true,true,true,true,true,true,true,true,true,true,true] rfl rfl (any_of HT_.out (by kernel_rfl)) (fun _ _ _ h=>h) (Or.inl ⟨by rfl,?_⟩) ?_ ?_
    rotate_left
    ·intro w'
     go_simp
     with_reducible rfl
    rotate_left
    ·exact nf_
    refine done_ (done_of HT_.out (by kernel_rfl)) ?_
    try go_wp2
    go_ret2
    exact ⟨_,by first|rfl|(simp [errW_none,errW_some] <;> rfl)|(simp only [← hji3,← hji5];first|rfl|(simp [errW_none,errW_some] <;> rfl))|(simp [*,errW_none,errW_some] <;> rfl),rr_ HO424,bl_ HB⟩
 ·rw [if_neg c4] at H
  exact absurd H (by simp)

end Go.Proofs.Ytdemanikmaafeaa.Pr
-- written by this session's own program (wip/fprint.py), which widens the kit's print by floats
namespace Go.Proofs.Ytdemanikmaafeaa.Pr
open Go.RowKit Go.Proofs.YtdemanikmaafeaaW.PrintWords Go.Proofs.YtdemanikmaafeaaW.PrintLast Go.Proofs.YtdemanikmaafeaaW.PrintMore
attribute [local go_sem] max2_int min2_int max_two min_two max_three min_three max_four min_four   -- for this text's walks alone
set_option linter.unusedVariables false
set_option linter.unusedSimpArgs false

def r03_Size_Bits.f (k : Nat) (a0_0 : Int) (a0_1 : Int) (a0_2 : Int) (a1 : Bool) (a2 : Int) : Option (Bool × List Int × Int × Bool) := if a2 ≥ a0_2 then (some (false, ([] : List Int), 0, false)) else ((r03_Size_Number.f k a0_0 a0_1 a0_2 a2).bind fun bt427 => ((r03_Form.f k a1 bt427.1 bt427.2).bind fun bt431 => (some (bt431.1, bt431.2.1, bt431.2.2.1, bt431.2.2.2))))
theorem r03_Size_Bits.mono : ∀ a0 a1 a2 a3 a4 k, LeO (r03_Size_Bits.f k a0 a1 a2 a3 a4) (r03_Size_Bits.f (k + 1) a0 a1 a2 a3 a4) := by
 intro a0 a1 a2 a3 a4 k
 unfold r03_Size_Bits.f
 repeat' first
   | (with_reducible exact r03_Form.mono _ _ _ _)
   | (with_reducible exact r03_Size_Number.mono _ _ _ _ _)
   | (with_reducible exact LeO.refl _)
   | (with_reducible exact LeO.none _)
   | (with_reducible refine LeO.ite ?_ ?_)
   | (with_reducible refine LeO.bind ?_ (fun _ => ?_))
   | exact r03_Form.mono _ _ _ _
   | exact r03_Size_Number.mono _ _ _ _ _
   | exact LeO.none _
   | refine LeO.ite ?_ ?_
   | refine LeO.bind ?_ (fun _ => ?_)
set_option maxHeartbeats 3000000 in
set_option maxRecDepth 100000 in
theorem r03_Size_Bits.calls (k : Nat) (a0_0 : Int) (a0_1 : Int) (a0_2 : Int) (a1 : Bool) (a2 : Int) (r1 : Bool) (r2 : List Int) (r3 : Int) (r4 : Bool) (w : World) (h : r03_Size_Bits.f k a0_0 a0_1 a0_2 a1 a2 = some (r1, r2, r3, r4)) :
  Calls Try.prog 72 #[.agg #[.int .i64 a0_0,.int .i64 a0_1,.int .u64 a0_2],.bool a1,.int .u64 a2] w fun e w'=>∃ v1_ : Value,e = .returned (.tuple #[.agg #[.bool r1,v1_,.int .i64 r3],.bool r4]) ∧ Kd.R (Kd.int .u32) 72 w' w.heap.size (fun _=>True) v1_ r2 ∧ Below w.heap.size w w':=by
 have hu83:=Try.underlying83
 have hu43:=Try.underlying43
 have HB:=Aside0.mk (Below.refl w.heap.size w)
 have H : (if a2 ≥ a0_2 then (some (false,([] : List Int),0,false)) else ((r03_Size_Number.f k a0_0 a0_1 a0_2 a2).bind fun bt427=>((r03_Form.f k a1 bt427.1 bt427.2).bind fun bt431=>(some (bt431.1,bt431.2.1,bt431.2.2.1,bt431.2.2.2))))) = some (r1,r2,r3,r4):=h
 clear h
 by_cases c4 : a2 ≥ a0_2
 ·rw [if_pos c4] at H
  have c4b0 : decide (a0_2 ≤ a2) = true:=decide_eq_true c4
  clear c4
  simp only [Option.some.injEq,Prod.mk.injEq] at H
  obtain ⟨rfl,rfl,rfl,rfl⟩:=H
  go_enter Try.func72,Try.ntmps72
  go_wp2_with (first|((with_reducible refine gate_dst (N:=3) rfl ?_);refine box_ev (N:=3) (cs:=#[.int .i64 a0_0,.int .i64 a0_1,.int .u64 a0_2]) (t:=83) ?_;intro gb425 hg w5 hbox hb;have BK425:=Aside0.mk (hbox);have GW425:=ge_ HB hg;have GE425:=ge_ HB hg;replace HB:=bs_ HB hb;clear hb hbox hg)|((with_reducible refine gate_dst (N:=6) rfl ?_);refine box_ev (N:=6) (cs:=#[.bool false,.slice none 0 0,.int .i64 0]) (t:=43) ?_;intro gb426 hg w6 hbox hb;have BK426:=Aside0.mk (hbox);have GW426:=ge_ HB hg;have GE426:=ge_ HB hg;replace HB:=bs_ HB hb;have NB425_426:=nlt_ BK425 hg;have NB426_425:=ngt_ BK425 hg;replace BK425:=kb_ BK425 hb;clear hb hbox hg;have hnb7:=NB425_426.out;have hnc7:=NB426_425.out;have hcz8_0:=bc_ BK425 0;have hcz8_1:=bc_ BK425 1;have hcz8_2:=bc_ BK425 2;have hfz8_0:=bz_ BK425 0;have hfz8_1:=bz_ BK425 1;have hfz8_2:=bz_ BK425 2;have hcz9_0:=bc_ BK426 0;have hcz9_1:=bc_ BK426 1;have hcz9_2:=bc_ BK426 2;have hfz9_0:=bz_ BK426 0;have hfz9_1:=bz_ BK426 1;have hfz9_2:=bz_ BK426 2))
  refine bodyPost_ret (results_ct rfl _ _ gb426 43 #[.bool false,.slice none 0 0,.int .i64 0] (0,0) _ rfl (by (with_reducible repeat (first|apply bN|apply bD|apply bA));refine blk_put (cs:=#[.bool false,.slice none 0 0,.int .i64 0]) ?_ 2 _ rfl;(with_reducible repeat (first|apply bN|apply bD|apply bA));refine blk_put (cs:=#[.bool false,.slice none 0 0,.int .i64 0]) ?_ 1 _ rfl;(with_reducible repeat (first|apply bN|apply bD|apply bA));refine blk_put (cs:=#[.bool false,.slice none 0 0,.int .i64 0]) ?_ 0 _ rfl;exact bk_ BK426) Try.underlying43 rfl (by kernel_rfl)) rfl ?_
  exact ⟨_,rf_,by first|exact Kd.R_nil _ _ _ _ _|exact Kd.N_nil _ _ _ _ _|exact Kd.V_nil _ _ _ _ _|exact Kd.Q_nil _ _ _ _ _|exact Kd.S_nil _ _ _ _ _,bl_ HB⟩
 ·rw [if_neg c4] at H
  have c4b0 : decide (a0_2 ≤ a2) = false:=decide_eq_false c4
  clear c4
  obtain ⟨⟨t427,t430⟩,A10,H⟩:=ob_ H
  try dsimp only at H
  obtain ⟨⟨t431,t432,t435,t436⟩,A11,H⟩:=ob_ H
  try dsimp only at H
  simp only [Option.some.injEq,Prod.mk.injEq] at H
  obtain ⟨rfl,rfl,rfl,rfl⟩:=H
  go_enter Try.func72,Try.ntmps72
  go_wp2_with (first|((with_reducible refine gate_dst (N:=3) rfl ?_);refine box_ev (N:=3) (cs:=#[.int .i64 a0_0,.int .i64 a0_1,.int .u64 a0_2]) (t:=83) ?_;intro gb425 hg w12 hbox hb;have BK425:=Aside0.mk (hbox);have GW425:=ge_ HB hg;have GE425:=ge_ HB hg;replace HB:=bs_ HB hb;clear hb hbox hg)|((with_reducible refine gate_dst (N:=6) rfl ?_);refine box_ev (N:=6) (cs:=#[.bool false,.slice none 0 0,.int .i64 0]) (t:=43) ?_;intro gb426 hg w13 hbox hb;have BK426:=Aside0.mk (hbox);have GW426:=ge_ HB hg;have GE426:=ge_ HB hg;replace HB:=bs_ HB hb;have NB425_426:=nlt_ BK425 hg;have NB426_425:=ngt_ BK425 hg;replace BK425:=kb_ BK425 hb;clear hb hbox hg;have hnb14:=NB425_426.out;have hnc14:=NB426_425.out;have hcz15_0:=bc_ BK425 0;have hcz15_1:=bc_ BK425 1;have hcz15_2:=bc_ BK425 2;have hfz15_0:=bz_ BK425 0;have hfz15_1:=bz_ BK425 1;have hfz15_2:=bz_ BK425 2)|((with_reducible refine gate_callee (f:=82) rfl ?_);refine goesM (some 18) Try.func82 #[.agg #[.int .i64 a0_0,.int .i64 a0_1,.int .u64 a0_2],.int .u64 a2] ?_;(with_reducible refine (r03_Size_Number.calls k a0_0 a0_1 a0_2 a2 t427 t430 _ A10.out).mono ?_);rintro e w16 ⟨v428,rfl,ho0,hb⟩;refine ⟨_,rfl,?_⟩;have HO429:=Aside0.mk (Kd.R_lower ho0 (below_size (bl_ HB)));replace BK425:=kb_ BK425 hb;replace BK426:=kb_ BK426 hb;replace HB:=bs_ HB hb;(try clear hb);(try clear hb2);(try clear hk);(try clear hi);(try clear ho0);obtain ⟨Ao17,co17,eo17⟩:=Kd.R_slice HO429.out;subst eo17)|((with_reducible refine gate_callee (f:=76) rfl ?_);refine goesM (some 24) Try.func76 #[.bool a1,.slice Ao17 t427.length co17,.int .i64 t430] ?_;(with_reducible refine (r03_Form.calls k a1 _ _ t427 t430 t431 t432 t435 t436 _ ?side1 ?side2 A11.out).mono ?_);(case side1=>repeat (first|exact (Kd.R_reads' HO429.out).2.2|(with_reducible first|apply cA|apply cN|apply cD)));(case side2=>exact (Kd.R_reads' HO429.out).2.1);rintro e w18 ⟨v433,rfl,ho0,hb⟩;refine ⟨_,rfl,?_⟩;have HO434:=Aside0.mk (Kd.R_lower (Kd.R_new' ho0 (Kd.R_lt (rr_ HO429))) (below_size (bl_ HB)));replace HO429:=Aside0.mk (Kd.R_elder' (rr_ HO429) (Kd.R_base ho0) hb);replace BK425:=kb_ BK425 hb;replace BK426:=kb_ BK426 hb;replace HB:=bs_ HB hb;(try clear hb);(try clear hb2);(try clear hk);(try clear hi);(try clear ho0);have hcz19_0:=bc_ BK426 0;have hcz19_1:=bc_ BK426 1;have hcz19_2:=bc_ BK426 2;have hfz19_0:=bz_ BK426 0;have hfz19_1:=bz_ BK426 1;have hfz19_2:=bz_ BK426 2;obtain ⟨Ao20,co20,eo20⟩:=Kd.R_slice HO434.out;subst eo20))
  refine bodyPost_ret (results_ct rfl _ _ gb426 43 #[.bool t431,.slice Ao20 t432.length co20,.int .i64 t435] (0,0) _ rfl (by (with_reducible repeat (first|apply bN|apply bD|apply bA));refine blk_put (cs:=#[.bool t431,.slice Ao20 t432.length co20,.int .i64 0]) ?_ 2 _ rfl;(with_reducible repeat (first|apply bN|apply bD|apply bA));refine blk_put (cs:=#[.bool t431,.slice none 0 0,.int .i64 0]) ?_ 1 _ rfl;(with_reducible repeat (first|apply bN|apply bD|apply bA));refine blk_put (cs:=#[.bool false,.slice none 0 0,.int .i64 0]) ?_ 0 _ rfl;exact bk_ BK426) Try.underlying43 rfl (by kernel_rfl)) rfl ?_
  exact ⟨_,rf_,by (with_reducible repeat (first|apply rA|apply rN|apply rD));exact Kd.R_mono (Kd.R_far (p:=⟨gb426,2,none⟩) (Kd.R_far (p:=⟨gb426,1,none⟩) (Kd.R_far (p:=⟨gb426,0,none⟩) (Kd.R_types HO434.out BK426.out (by decide)) (fun _ hk=>hk.2) (.bool t431)) (fun _ hk=>hk.2) (.slice Ao20 t432.length co20)) (fun _ hk=>hk.2) (.int .i64 t435)) (fun _ hk=>trivial),bl_ HB⟩

def r03_Of.f (k : Nat) (a0 : Nat) : Option (Bool × List Int × Int × Int) := (r03_Of64.f).bind fun bt438 => ((r03_Size_Bits.f k bt438.1 bt438.2.1 bt438.2.2 (((a0 : Int) / 9223372036854775808) == 1) ((IntKind.u64.wrap ((a0 : Int) * 2)) / 2)).bind fun bt441 => (if bt441.2.2.2 = true then (some (bt441.1, bt441.2.1, bt441.2.2.1, 0)) else (some (false, ([] : List Int), 0, 30))))
theorem r03_Of.mono : ∀ a0 k, LeO (r03_Of.f k a0) (r03_Of.f (k + 1) a0) := by
 intro a0 k
 unfold r03_Of.f
 repeat' first
   | (with_reducible exact r03_Size_Bits.mono _ _ _ _ _ _)
   | (with_reducible exact LeO.refl _)
   | (with_reducible exact LeO.none _)
   | (with_reducible refine LeO.ite ?_ ?_)
   | (with_reducible refine LeO.bind ?_ (fun _ => ?_))
   | exact r03_Size_Bits.mono _ _ _ _ _ _
   | exact LeO.none _
   | refine LeO.ite ?_ ?_
   | refine LeO.bind ?_ (fun _ => ?_)
set_option maxHeartbeats 3000000 in
set_option maxRecDepth 100000 in
theorem r03_Of.calls (k : Nat) (a0 : Nat) (r1 : Bool) (r2 : List Int) (r3 : Int) (r4 : Int) (w : World) (h : r03_Of.f k a0 = some (r1, r2, r3, r4)) :
  Calls Try.prog 50 #[.float .f64 a0] w fun e w'=>∃ v1_ : Value,e = .returned (.tuple #[.agg #[.bool r1,v1_,.int .i64 r3],.int .i64 r4]) ∧ Kd.R (Kd.int .u32) 72 w' w.heap.size (fun _=>True) v1_ r2 ∧ Below w.heap.size w w':=by
 have hu43:=Try.underlying43
 have HB:=Aside0.mk (Below.refl w.heap.size w)
 have H : ((r03_Of64.f).bind fun bt438=>((r03_Size_Bits.f k bt438.1 bt438.2.1 bt438.2.2 (((a0 : Int) / 9223372036854775808) == 1) ((IntKind.u64.wrap ((a0 : Int) * 2)) / 2)).bind fun bt441=>(if bt441.2.2.2 = true then (some (bt441.1,bt441.2.1,bt441.2.2.1,0)) else (some (false,([] : List Int),0,30))))) = some (r1,r2,r3,r4):=h
 clear h
 obtain ⟨⟨t438,t439,t440⟩,A2,H⟩:=ob_ H
 try dsimp only at H
 obtain ⟨⟨t441,t442,t445,t446⟩,A3,H⟩:=ob_ H
 try dsimp only at H
 by_cases c4 : t446 = true
 ·subst c4
  have H1 : (some (t441,t442,t445,0)) = some (r1,r2,r3,r4):=by rw [if_pos rfl] at H;exact H
  clear H
  have H:=H1
  clear H1
  simp only [Option.some.injEq,Prod.mk.injEq] at H
  obtain ⟨rfl,rfl,rfl,rfl⟩:=H
  go_enter Try.func50,Try.ntmps50
  go_wp2_with (first|((with_reducible refine gate_dst (N:=2) rfl ?_);refine box_ev (N:=2) (cs:=#[.bool false,.slice none 0 0,.int .i64 0]) (t:=43) ?_;intro gb437 hg w5 hbox hb;have BK437:=Aside0.mk (hbox);have GW437:=ge_ HB hg;have GE437:=ge_ HB hg;replace HB:=bs_ HB hb;clear hb hbox hg)|((with_reducible refine gate_callee (f:=71) rfl ?_);refine goesM (some 10) Try.func71 #[] ?_;(with_reducible refine (r03_Of64.calls  t438 t439 t440 _ A2.out).mono ?_);rintro e w6 ⟨rfl,hb⟩;refine ⟨_,rfl,?_⟩;replace BK437:=kb_ BK437 hb;replace HB:=bs_ HB hb;(try clear hb);(try clear hb2);(try clear hk);(try clear hi))|((with_reducible refine gate_callee (f:=72) rfl ?_);refine goesM (some 17) Try.func72 #[.agg #[.int .i64 t438,.int .i64 t439,.int .u64 t440],.bool (((a0 : Int) / 9223372036854775808) == 1),.int .u64 ((IntKind.u64.wrap ((a0 : Int) * 2)) / 2)] ?_;(with_reducible refine (r03_Size_Bits.calls k t438 t439 t440 (((a0 : Int) / 9223372036854775808) == 1) ((IntKind.u64.wrap ((a0 : Int) * 2)) / 2) t441 t442 t445 true _ A3.out).mono ?_);rintro e w7 ⟨v443,rfl,ho0,hb⟩;refine ⟨_,rfl,?_⟩;have HO444:=Aside0.mk (Kd.R_lower ho0 (below_size (bl_ HB)));replace BK437:=kb_ BK437 hb;replace HB:=bs_ HB hb;(try clear hb);(try clear hb2);(try clear hk);(try clear hi);(try clear ho0))|((with_reducible refine gate_dst (N:=5) rfl ?_);refine box_ev (N:=5) (cs:=#[.bool false,.slice none 0 0,.int .i64 0]) (t:=43) ?_;intro gb447 hg w8 hbox hb;replace HO444:=Aside0.mk (Kd.R_below (rr_ HO444) hb);have BK447:=Aside0.mk (hbox);have GW447:=ge_ HB hg;have GE447:=ge_ HB hg;replace HB:=bs_ HB hb;have NB437_447:=nlt_ BK437 hg;have NB447_437:=ngt_ BK437 hg;replace BK437:=kb_ BK437 hb;clear hb hbox hg;have hnb9:=NB447_437.out;have hnc9:=NB437_447.out;have hcz10_0:=bc_ BK447 0;have hcz10_1:=bc_ BK447 1;have hcz10_2:=bc_ BK447 2;have hfz10_0:=bz_ BK447 0;have hfz10_1:=bz_ BK447 1;have hfz10_2:=bz_ BK447 2;obtain ⟨Ao11,co11,eo11⟩:=Kd.R_slice HO444.out;subst eo11;have hcz12_0:=bc_ BK437 0;have hcz12_1:=bc_ BK437 1;have hcz12_2:=bc_ BK437 2;have hfz12_0:=bz_ BK437 0;have hfz12_1:=bz_ BK437 1;have hfz12_2:=bz_ BK437 2))
  refine bodyPost_ret (results_ct rfl _ _ gb437 43 #[.bool t441,.slice Ao11 t442.length co11,.int .i64 t445] (0,0) _ rfl (by (with_reducible repeat (first|apply bN|apply bD|apply bA));refine blk_put (cs:=#[.bool t441,.slice Ao11 t442.length co11,.int .i64 0]) ?_ 2 _ rfl;(with_reducible repeat (first|apply bN|apply bD|apply bA));refine blk_put (cs:=#[.bool t441,.slice none 0 0,.int .i64 0]) ?_ 1 _ rfl;(with_reducible repeat (first|apply bN|apply bD|apply bA));refine blk_put (cs:=#[.bool false,.slice none 0 0,.int .i64 0]) ?_ 0 _ rfl;(with_reducible repeat (first|apply bN|apply bD|apply bA));refine blk_far ?_ NB437_447.out _;(with_reducible repeat (first|apply bN|apply bD|apply bA));refine blk_far ?_ NB437_447.out _;(with_reducible repeat (first|apply bN|apply bD|apply bA));refine blk_far ?_ NB437_447.out _;exact bk_ BK437) Try.underlying43 rfl (by kernel_rfl)) rfl ?_
  exact ⟨_,rf_,by (with_reducible repeat (first|apply rA|apply rN|apply rD));exact Kd.R_mono (Kd.R_far (p:=⟨gb437,2,none⟩) (Kd.R_far (p:=⟨gb437,1,none⟩) (Kd.R_far (p:=⟨gb437,0,none⟩) (Kd.R_far (p:=⟨gb447,2,none⟩) (Kd.R_far (p:=⟨gb447,1,none⟩) (Kd.R_far (p:=⟨gb447,0,none⟩) (Kd.R_types (Kd.R_types HO444.out BK447.out (by decide)) BK437.out (by decide)) (fun _ hk=>hk.1.2) (.bool t441)) (fun _ hk=>hk.1.2) (.slice Ao11 t442.length co11)) (fun _ hk=>hk.1.2) (.int .i64 t445)) (fun _ hk=>hk.2) (.bool t441)) (fun _ hk=>hk.2) (.slice Ao11 t442.length co11)) (fun _ hk=>hk.2) (.int .i64 t445)) (fun _ hk=>trivial),bl_ HB⟩
 ·replace c4:=Bool.eq_false_iff.mpr c4
  subst c4
  have H1 : (some (false,([] : List Int),0,30)) = some (r1,r2,r3,r4):=by rw [if_neg (show ¬ (false = true) by decide)] at H;exact H
  clear H
  have H:=H1
  clear H1
  simp only [Option.some.injEq,Prod.mk.injEq] at H
  obtain ⟨rfl,rfl,rfl,rfl⟩:=H
  go_enter Try.func50,Try.ntmps50
  go_wp2_with (first|((with_reducible refine gate_dst (N:=2) rfl ?_);refine box_ev (N:=2) (cs:=#[.bool false,.slice none 0 0,.int .i64 0]) (t:=43) ?_;intro gb437 hg w13 hbox hb;have BK437:=Aside0.mk (hbox);have GW437:=ge_ HB hg;have GE437:=ge_ HB hg;replace HB:=bs_ HB hb;clear hb hbox hg)|((with_reducible refine gate_callee (f:=71) rfl ?_);refine goesM (some 10) Try.func71 #[] ?_;(with_reducible refine (r03_Of64.calls  t438 t439 t440 _ A2.out).mono ?_);rintro e w14 ⟨rfl,hb⟩;refine ⟨_,rfl,?_⟩;replace BK437:=kb_ BK437 hb;replace HB:=bs_ HB hb;(try clear hb);(try clear hb2);(try clear hk);(try clear hi))|((with_reducible refine gate_callee (f:=72) rfl ?_);refine goesM (some 17) Try.func72 #[.agg #[.int .i64 t438,.int .i64 t439,.int .u64 t440],.bool (((a0 : Int) / 9223372036854775808) == 1),.int .u64 ((IntKind.u64.wrap ((a0 : Int) * 2)) / 2)] ?_;(with_reducible refine (r03_Size_Bits.calls k t438 t439 t440 (((a0 : Int) / 9223372036854775808) == 1) ((IntKind.u64.wrap ((a0 : Int) * 2)) / 2) t441 t442 t445 false _ A3.out).mono ?_);rintro e w15 ⟨v443,rfl,ho0,hb⟩;refine ⟨_,rfl,?_⟩;have HO444:=Aside0.mk (Kd.R_lower ho0 (below_size (bl_ HB)));replace BK437:=kb_ BK437 hb;replace HB:=bs_ HB hb;(try clear hb);(try clear hb2);(try clear hk);(try clear hi);(try clear ho0))|((with_reducible refine gate_dst (N:=5) rfl ?_);refine box_ev (N:=5) (cs:=#[.bool false,.slice none 0 0,.int .i64 0]) (t:=43) ?_;intro gb447 hg w16 hbox hb;replace HO444:=Aside0.mk (Kd.R_below (rr_ HO444) hb);have BK447:=Aside0.mk (hbox);have GW447:=ge_ HB hg;have GE447:=ge_ HB hg;replace HB:=bs_ HB hb;have NB437_447:=nlt_ BK437 hg;have NB447_437:=ngt_ BK437 hg;replace BK437:=kb_ BK437 hb;clear hb hbox hg;have hnb17:=NB447_437.out;have hnc17:=NB437_447.out;have hcz18_0:=bc_ BK447 0;have hcz18_1:=bc_ BK447 1;have hcz18_2:=bc_ BK447 2;have hfz18_0:=bz_ BK447 0;have hfz18_1:=bz_ BK447 1;have hfz18_2:=bz_ BK447 2;obtain ⟨Ao19,co19,eo19⟩:=Kd.R_slice HO444.out;subst eo19;have hcz20_0:=bc_ BK437 0;have hcz20_1:=bc_ BK437 1;have hcz20_2:=bc_ BK437 2;have hfz20_0:=bz_ BK437 0;have hfz20_1:=bz_ BK437 1;have hfz20_2:=bz_ BK437 2))
  refine bodyPost_ret (results_ct rfl _ _ gb437 43 #[.bool false,.slice none 0 0,.int .i64 0] (0,0) _ rfl (by (with_reducible repeat (first|apply bN|apply bD|apply bA));refine blk_put (cs:=#[.bool false,.slice none 0 0,.int .i64 0]) ?_ 2 _ rfl;(with_reducible repeat (first|apply bN|apply bD|apply bA));refine blk_put (cs:=#[.bool false,.slice none 0 0,.int .i64 0]) ?_ 1 _ rfl;(with_reducible repeat (first|apply bN|apply bD|apply bA));refine blk_put (cs:=#[.bool false,.slice none 0 0,.int .i64 0]) ?_ 0 _ rfl;(with_reducible repeat (first|apply bN|apply bD|apply bA));refine blk_far ?_ NB437_447.out _;(with_reducible repeat (first|apply bN|apply bD|apply bA));refine blk_far ?_ NB437_447.out _;(with_reducible repeat (first|apply bN|apply bD|apply bA));refine blk_far ?_ NB437_447.out _;exact bk_ BK437) Try.underlying43 rfl (by kernel_rfl)) rfl ?_
  exact ⟨_,rf_,by first|exact Kd.R_nil _ _ _ _ _|exact Kd.N_nil _ _ _ _ _|exact Kd.V_nil _ _ _ _ _|exact Kd.Q_nil _ _ _ _ _|exact Kd.S_nil _ _ _ _ _,bl_ HB⟩

def r05_IsOdd.f (a0 : Nat) : Option (Bool) := some (decide ((Go.bits .andNot .u64 (a0 : Int) 9223372036854775808) > 9218868437227405312))
set_option maxHeartbeats 3000000 in
set_option maxRecDepth 100000 in
theorem r05_IsOdd.calls (a0 : Nat) (r : Bool) (w : World) (h : r05_IsOdd.f a0 = some r) :
  Calls Try.prog 66 #[.float .f64 a0] w fun e w'=>e = .returned (.bool r) ∧ Drawn0 w w':=by
 have H : (some (decide ((Go.bits .andNot .u64 (a0 : Int) 9223372036854775808) > 9218868437227405312))) = some r:=h
 clear h
 obtain rfl:=Option.some.inj H
 go_enter Try.func66,Try.ntmps66
 go_wp2
 go_ret
 exact ⟨by first|rfl|(simp;done)|(simp [*];done),by repeat (first|exact Drawn0.refl _|apply Drawn0.step)⟩

def r05_IsEndless.f (a0 : Nat) : Option (Bool) := some ((Go.bits .andNot .u64 (a0 : Int) 9223372036854775808) == 9218868437227405312)
set_option maxHeartbeats 3000000 in
set_option maxRecDepth 100000 in
theorem r05_IsEndless.calls (a0 : Nat) (r : Bool) (w : World) (h : r05_IsEndless.f a0 = some r) :
  Calls Try.prog 67 #[.float .f64 a0] w fun e w'=>e = .returned (.bool r) ∧ Drawn0 w w':=by
 have H : (some ((Go.bits .andNot .u64 (a0 : Int) 9223372036854775808) == 9218868437227405312)) = some r:=h
 clear h
 obtain rfl:=Option.some.inj H
 go_enter Try.func67,Try.ntmps67
 go_wp2
 go_ret
 exact ⟨by first|rfl|(simp;done)|(simp [*];done),by repeat (first|exact Drawn0.refl _|apply Drawn0.step)⟩

def r05_Neg.f (a0 : Nat) : Option (Bool) := some ((Go.bits .and .u64 (a0 : Int) 9223372036854775808) != 0)
set_option maxHeartbeats 3000000 in
set_option maxRecDepth 100000 in
theorem r05_Neg.calls (a0 : Nat) (r : Bool) (w : World) (h : r05_Neg.f a0 = some r) :
  Calls Try.prog 68 #[.float .f64 a0] w fun e w'=>e = .returned (.bool r) ∧ Drawn0 w w':=by
 have H : (some ((Go.bits .and .u64 (a0 : Int) 9223372036854775808) != 0)) = some r:=h
 clear h
 obtain rfl:=Option.some.inj H
 go_enter Try.func68,Try.ntmps68
 go_wp2
 go_ret
 exact ⟨by first|rfl|(simp;done)|(simp [*];done),by repeat (first|exact Drawn0.refl _|apply Drawn0.step)⟩

def r05_signed.f (a0 : Int) (a1 : Bool) : Option (Nat) := if a1 = true then (some ((Go.bits .or .u64 a0 9223372036854775808 : Int).toNat)) else (some ((a0 : Int).toNat))
set_option maxHeartbeats 3000000 in
set_option maxRecDepth 100000 in
theorem r05_signed.calls (a0 : Int) (a1 : Bool) (r : Nat) (w : World) (h : r05_signed.f a0 a1 = some r) :
  Calls Try.prog 69 #[.int .u64 a0,.bool a1] w fun e w'=>e = .returned (.float .f64 r) ∧ Drawn0 w w':=by
 have H : (if a1 = true then (some ((Go.bits .or .u64 a0 9223372036854775808 : Int).toNat)) else (some ((a0 : Int).toNat))) = some r:=h
 clear h
 by_cases c3 : a1 = true
 ·subst c3
  have H1 : (some ((Go.bits .or .u64 a0 9223372036854775808 : Int).toNat)) = some r:=by rw [if_pos rfl] at H;exact H
  clear H
  have H:=H1
  clear H1
  obtain rfl:=Option.some.inj H
  go_enter Try.func69,Try.ntmps69
  go_wp2
  go_ret
  exact ⟨by first|rfl|(simp;done)|(simp [*];done),by repeat (first|exact Drawn0.refl _|apply Drawn0.step)⟩
 ·replace c3:=Bool.eq_false_iff.mpr c3
  subst c3
  have H1 : (some ((a0 : Int).toNat)) = some r:=by rw [if_neg (show ¬ (false = true) by decide)] at H;exact H
  clear H
  have H:=H1
  clear H1
  obtain rfl:=Option.some.inj H
  go_enter Try.func69,Try.ntmps69
  go_wp2
  go_ret
  exact ⟨by first|rfl|(simp;done)|(simp [*];done),by repeat (first|exact Drawn0.refl _|apply Drawn0.step)⟩

def r02_Len.l0 : Nat → Int → Int → Option (Int)
 | 0, _, _ => none
 | k + 1, x4, x5 => if x5 > 0 then (r02_Len.l0 k (wrap64 (x4 + 1)) ((Int.tdiv x5 2) % 4294967296)) else (some x4)
def r02_Len.f (k : Nat) (l0 : List Int) : Option (Int) := (r02_size.f k l0).bind fun t448 => (if t448 = 0 then (some 0) else (if 0 ≤ (wrap64 (t448 - 1)) then (if (wrap64 (t448 - 1)) < (l0.length : Int) then (r02_Len.l0 k (wrap64 (32 * (wrap64 (t448 - 1)))) (rd l0 (wrap64 (t448 - 1)))) else (none)) else (none)))
theorem r02_Len.mono_l : ∀ k, (∀ y0 y1, LeO (r02_Len.l0 k y0 y1) (r02_Len.l0 (k + 1) y0 y1))
 | 0 => fun _ _ r h => by simp [r02_Len.l0] at h
 | k + 1 => by
  have ih0:=r02_Len.mono_l k
  ·intro y0 y1
   unfold r02_Len.l0
   repeat' first
   | (with_reducible exact ih0 _ _)
   | (with_reducible exact r02_size.mono _ _)
   | (with_reducible exact LeO.refl _)
   | (with_reducible exact LeO.none _)
   | (with_reducible refine LeO.ite ?_ ?_)
   | (with_reducible refine LeO.bind ?_ (fun _ => ?_))
   | exact ih0 _ _
   | exact r02_size.mono _ _
   | exact LeO.none _
   | refine LeO.ite ?_ ?_
   | refine LeO.bind ?_ (fun _ => ?_)
theorem r02_Len.mono : ∀ a0 k, LeO (r02_Len.f k a0) (r02_Len.f (k + 1) a0) := by
 intro a0 k
 have ih0:=r02_Len.mono_l k
 unfold r02_Len.f
 repeat' first
   | (with_reducible exact ih0 _ _)
   | (with_reducible exact r02_size.mono _ _)
   | (with_reducible exact LeO.refl _)
   | (with_reducible exact LeO.none _)
   | (with_reducible refine LeO.ite ?_ ?_)
   | (with_reducible refine LeO.bind ?_ (fun _ => ?_))
   | exact ih0 _ _
   | exact r02_size.mono _ _
   | exact LeO.none _
   | refine LeO.ite ?_ ?_
   | refine LeO.bind ?_ (fun _ => ?_)
set_option maxHeartbeats 3000000 in
set_option maxRecDepth 100000 in
theorem r02_Len.calls (k : Nat) (A0 : Option Addr) (c0 : Nat) (l0 : List Int) (r : Int) (w : World) (hr0 : Kd.C (Kd.int .u32) w A0 l0.length l0) (hc0 : l0.length ≤ c0) (h : r02_Len.f k l0 = some r) :
  Calls Try.prog 55 #[.slice A0 l0.length c0] w fun e w'=>e = .returned (.int .i64 r) ∧ Drawn0 w w':=by
 have HR0:=Aside0.mk hr0
 have HC0:=Aside0.mk hc0
 clear hr0 hc0
 have H : ((r02_size.f k l0).bind fun t448=>(if t448 = 0 then (some 0) else (if 0 ≤ (wrap64 (t448 - 1)) then (if (wrap64 (t448 - 1)) < (l0.length : Int) then (r02_Len.l0 k (wrap64 (32 * (wrap64 (t448 - 1)))) (rd l0 (wrap64 (t448 - 1)))) else (none)) else (none)))) = some r:=h
 clear h
 obtain ⟨t448,A2,H⟩:=ob_ H
 try dsimp only at H
 by_cases c3 : t448 = 0
 ·rw [if_pos c3] at H
  have c3b0 : (t448 == 0) = true:=beq_iff_eq.mpr c3
  have c3b1 : (t448 != 0) = false:=bne_eq_false_iff_eq.mpr c3
  clear c3
  obtain rfl:=Option.some.inj H
  go_enter Try.func55,Try.ntmps55
  go_wp2_with (first|((with_reducible refine gate_callee (f:=75) rfl ?_);refine goesM (some 7) Try.func75 #[.slice A0 l0.length c0] ?_;(with_reducible refine (r02_size.calls k _ _ l0 t448 _ ?side1 ?side2 A2.out).mono ?_);(case side1=>repeat (first|exact HR0.out|(with_reducible first|apply cA|apply cN|apply cD)));(case side2=>exact HC0.out);rintro e w' ⟨rfl,⟨nd,rfl⟩⟩;refine ⟨_,rfl,?_⟩))
  go_ret
  exact ⟨by first|rfl|(simp;done)|(simp [*];done),by repeat (first|exact Drawn0.refl _|apply Drawn0.step)⟩
 ·rw [if_neg c3] at H
  have c3b0 : (t448 == 0) = false:=beq_eq_false_iff_ne.mpr c3
  have c3b1 : (t448 != 0) = true:=bne_iff_ne.mpr c3
  obtain ⟨ji4,hji4⟩ : ∃ j_ : Int,(wrap64 (t448 - 1)) = j_:=⟨_,rfl⟩
  replace H : (if 0 ≤ (ji4) then (if (ji4) < (l0.length : Int) then (r02_Len.l0 k (wrap64 (32 * (ji4))) (rd l0 (ji4))) else (none)) else (none)) = some r:=by first|(rw [hji4] at H;exact H)|(simp only [hji4] at H ⊢;exact H)
  (try rw [hji4] at A2)
  have hji4w : (IntKind.i64.wrap (t448 - 1)) = ji4:=(i64_w _).trans hji4
  by_cases c5 : 0 ≤ (ji4)
  ·rw [if_pos c5] at H
   have c5b0 : decide (0 ≤ (ji4)) = true:=decide_eq_true c5
   clear c5
   by_cases c6 : (ji4) < (l0.length : Int)
   ·rw [if_pos c6] at H
    have c6b0 : decide ((ji4) < (l0.length : Int)) = true:=decide_eq_true c6
    clear c6
    have H':=Aside0.mk H
    clear H
    go_enter Try.func55,Try.ntmps55
    go_wp2_with (first|((with_reducible refine gate_callee (f:=75) rfl ?_);refine goesM (some 7) Try.func75 #[.slice A0 l0.length c0] ?_;(with_reducible refine (r02_size.calls k _ _ l0 t448 _ ?side1 ?side2 A2.out).mono ?_);(case side1=>repeat (first|exact HR0.out|(with_reducible first|apply cA|apply cN|apply cD)));(case side2=>exact HC0.out);rintro e w' ⟨rfl,⟨nd,rfl⟩⟩;refine ⟨_,rfl,?_⟩;have p449 : 0 ≤ ((ji4) : Int):=of_decide_eq_true (by first|(with_reducible assumption)|assumption);have q449 : (ji4) < (l0.length : Int):=of_decide_eq_true (by first|(with_reducible assumption)|assumption);obtain ⟨ad449,e449,hx449_0⟩:=Kd.at_int HR0.out (ji4) p449 q449;cases e449;replace p449:=eq_true p449;replace q449:=eq_true q449))
    go_loopg [4,5] k (fun kq v4 v5 w'=>∃ (x4_1 : Int) (x5_1 : Int),v4 = .int .i64 x4_1 ∧ v5 = .int .u32 x5_1 ∧ Aside0 (r02_Len.l0 kq x4_1 x5_1 = some r) ∧ Aside0 (kq ≤ k) ∧ Drawn0 w w')
    case atStart=>exact ⟨(wrap64 (32 * (ji4))),(rd l0 (ji4)),(by first|rfl|(simp;done)|(simp only [← hji4] <;> (first|rfl|simp))|(simp [*];done)),(by first|rfl|(simp;done)|(simp only [← hji4] <;> (first|rfl|simp))|(simp [*];done)),H',⟨Nat.le_refl _⟩,by repeat (first|exact Drawn0.refl _|apply Drawn0.step)⟩
    case round =>
     clear H'
     try clear p2
     try clear c3
     try clear c3b0
     try clear c3b1
     try clear p4
     try clear q4
     try clear hx4
     try clear c5
     try clear c5b0
     try clear c6
     try clear c6b0
     try clear p6
     try clear hx449_0
     try clear p449
     try clear q449
     obtain ⟨x4_1,x5_1,rfl,rfl,HA,HK1,⟨m1,rfl⟩⟩:=hrel
     cases gk with
     | zero => exact absurd HA.out (by simp [r02_Len.l0])
     | succ k1 =>
      have H:=HA.out
      clear HA
      simp only [r02_Len.l0] at H
      by_cases c7 : x5_1 > 0
      ·rw [if_pos c7] at H
       have c7b0 : decide (0 < x5_1) = true:=decide_eq_true c7
       clear c7
       have H':=Aside0.mk H
       clear H
       go_wp2
       go_roundg k1
       case measure=>have:=HK1.out;omega
       case rel=>exact ⟨(wrap64 (x4_1 + 1)),((Int.tdiv x5_1 2) % 4294967296),(by first|rfl|(simp;done)|(simp [*];done)),(by first|rfl|(simp;done)|(simp [*];done)),H',⟨by have:=HK1.out;omega⟩,by repeat (first|exact Drawn0.refl _|apply Drawn0.step)⟩
      ·rw [if_neg c7] at H
       have c7b0 : decide (0 < x5_1) = false:=decide_eq_false c7
       clear c7
       obtain rfl:=Option.some.inj H
       go_wp2
       go_ret
       exact ⟨by first|rfl|(simp;done)|(simp only [← hji4] <;> (first|rfl|simp))|(simp [*];done),by repeat (first|exact Drawn0.refl _|apply Drawn0.step)⟩
   ·rw [if_neg c6] at H
    exact absurd H (by simp)
  ·rw [if_neg c5] at H
   exact absurd H (by simp)

end Go.Proofs.Ytdemanikmaafeaa.Pr
