-- Written by a program of this work, over the kit's print of the translation. Not trusted: Lean checks it.
import Derived.Test.YtcbmmhedefigeaaXx0
import Derived.Test.YtcbmmhedefigeaaXx1
import Derived.Test.YtcbmmhedefigeaaPc8
import Derived.Test.YtcbmmhedefigeaaChk8
import Derived.Test.YtcbmmhedefigeaaRv8
import Derived.Test.YtcbmmhedefigeaaGr8
namespace Go.Proofs.Ytcbmmhedefigeaa.X
open Go.RowKit Go.Proofs.YtcbmmhedefigeaaW.PrintWords Go.Proofs.YtcbmmhedefigeaaW.PrintLast Go.Proofs.YtcbmmhedefigeaaW.PrintMore
attribute [local go_sem] max2_int min2_int max_two min_two max_three min_three max_four min_four   -- for this text's walks alone
set_option linter.unusedVariables false
set_option linter.unusedSimpArgs false

/-! ### profile_Turn: function 25 -/
def profile_Turn.l0 : Nat → List (S30) → List (S30) → Int → Int → Option ((List (S30)) × Int)
  | 0, _, _, _, _ => none
  | k + 1, x0, x5, x19, x20 => if x20 < x19 then ((profile_length.f x0).bind fun t132 => (if 0 ≤ x20 then (if x20 < (x5.length : Int) then (profile_Turn.l0 k x0 (x5.set (x20 : Int).toNat (⟨wrap64 (t132 - ((rd_T30 x5 x20).f0)), (rd_T30 x5 x20).f1⟩ : S30)) x19 (wrap64 (x20 + 1))) else (none)) else (none))) else (some (x5, 0))
def profile_Turn.f (k : Nat) (l0 : List (S30)) : Option ((List (S30)) × Int) := (profile_Check.f l0).bind fun t124 => (if t124 = 0 then ((some (([] : List (S30)) : List (S30))).bind fun y125 => (if y125.length + l0.length < 8796093022208 then ((some (y125 ++ l0 : List (S30))).bind fun y128 => ((api_Point_34.f k y128).bind fun t131 => (profile_Turn.l0 k l0 t131 (y128.length : Int) 0))) else (none))) else (some (([] : List (S30)), t124)))
theorem profile_Turn.mono_l : ∀ k, (∀ y0 y1 y2 y3, LeO (profile_Turn.l0 k y0 y1 y2 y3) (profile_Turn.l0 (k + 1) y0 y1 y2 y3))
  | 0 => fun _ _ _ _ r h => by simp [profile_Turn.l0] at h
  | k + 1 => by
    have ih0 := profile_Turn.mono_l k
    · intro y0 y1 y2 y3
      unfold profile_Turn.l0
      repeat' first
      | (with_reducible exact ih0 _ _ _ _)
      | (with_reducible exact api_Point_34.mono _ _)
      | (with_reducible exact LeO.refl _)
      | (with_reducible exact LeO.none _)
      | (with_reducible refine LeO.ite ?_ ?_)
      | (with_reducible refine LeO.bind ?_ (fun _ => ?_))
      | exact ih0 _ _ _ _
      | exact api_Point_34.mono _ _
      | exact LeO.none _
      | refine LeO.ite ?_ ?_
      | refine LeO.bind ?_ (fun _ => ?_)
theorem profile_Turn.mono : ∀ a0 k, LeO (profile_Turn.f k a0) (profile_Turn.f (k + 1) a0) := by
  intro a0 k
  have ih0 := profile_Turn.mono_l k
  unfold profile_Turn.f
  repeat' first
      | (with_reducible exact ih0 _ _ _ _)
      | (with_reducible exact api_Point_34.mono _ _)
      | (with_reducible exact LeO.refl _)
      | (with_reducible exact LeO.none _)
      | (with_reducible refine LeO.ite ?_ ?_)
      | (with_reducible refine LeO.bind ?_ (fun _ => ?_))
      | exact ih0 _ _ _ _
      | exact api_Point_34.mono _ _
      | exact LeO.none _
      | refine LeO.ite ?_ ?_
      | refine LeO.bind ?_ (fun _ => ?_)
def profile_Turn.T9 : Bool × List (List Nat × List Nat) := (true, [([], []), ([], []), ([], []), ([2], [2]), ([], []), ([], []), ([4, 5], [4, 5]), ([6], [6]), ([7], [7]), ([3, 8], [3, 8]), ([0, 1, 0, 1, 2, 3, 4, 5, 6, 7, 8, 9], [0, 1]), ([10, 0, 1, 2, 3, 4, 5, 6, 7, 8, 9], [10]), ([11, 9, 3, 0, 1, 2, 3, 4, 5, 6, 7, 8, 9], [9, 11])])
def profile_Turn.B9 : List Nat := [0, 0, 0, 4, 0, 0, 48, 112, 240, 508, 1023, 2047, 4095]
theorem profile_Turn.tab9 : rtab .any (opsOf Try.f15 9) = profile_Turn.T9 := by kernel_rfl
theorem profile_Turn.bits9 : waitsOk profile_Turn.T9.2 profile_Turn.B9 = true := by kernel_rfl
set_option maxHeartbeats 8000000 in
set_option maxRecDepth 100000 in
theorem profile_Turn.calls (k : Nat) (A0 : Option Addr) (c0 : Nat) (l0 : List (S30)) (r1 : List (S30)) (r2 : Int) (w : World) (hr0 : Kd.C k30 w A0 l0.length l0) (hc0 : l0.length ≤ c0) (h : profile_Turn.f k l0 = some (r1, r2)) :
    Calls Try.prog 15 #[.slice A0 l0.length c0] w fun e w' => ∃ v0_ : Value, e = .returned (.tuple #[v0_, .int .i64 r2]) ∧ Kd.R k30 30 w' w.heap.size (fun _ => True) v0_ r1 ∧ Below w.heap.size w w' := by
  have HR0 := Aside0.mk hr0
  have HC0 := Aside0.mk hc0
  clear hr0 hc0
  have HB := Aside0.mk (Below.refl w.heap.size w)
  have H : ((profile_Check.f l0).bind fun t124 => (if t124 = 0 then ((some (([] : List (S30)) : List (S30))).bind fun y125 => (if y125.length + l0.length < 8796093022208 then ((some (y125 ++ l0 : List (S30))).bind fun y128 => ((api_Point_34.f k y128).bind fun t131 => (profile_Turn.l0 k l0 t131 (y128.length : Int) 0))) else (none))) else (some (([] : List (S30)), t124)))) = some (r1, r2) := h
  clear h
  replace H := Option.bind_eq_some_iff.mp H
  obtain ⟨t124, A20, H⟩ := H
  replace H : (if t124 = 0 then ((some (([] : List (S30)) : List (S30))).bind fun y125 => (if y125.length + l0.length < 8796093022208 then ((some (y125 ++ l0 : List (S30))).bind fun y128 => ((api_Point_34.f k y128).bind fun t131 => (profile_Turn.l0 k l0 t131 (y128.length : Int) 0))) else (none))) else (some (([] : List (S30)), t124))) = some (r1, r2) := H
  have A2 := Aside0.mk A20
  clear A20
  by_cases c3 : t124 = 0
  · rw [if_pos c3] at H
    have c3b0 : (t124 == 0) = true := beq_iff_eq.mpr c3
    have c3b1 : (t124 != 0) = false := bne_eq_false_iff_eq.mpr c3
    clear c3
    obtain ⟨y125, hy125⟩ : ∃ y_ : List (S30), y_ = (([] : List (S30))) := ⟨_, rfl⟩
    replace H : (if y125.length + l0.length < 8796093022208 then ((some (y125 ++ l0 : List (S30))).bind fun y128 => ((api_Point_34.f k y128).bind fun t131 => (profile_Turn.l0 k l0 t131 (y128.length : Int) 0))) else (none)) = some (r1, r2) := by first | (rw [hy125]; with_reducible exact H) | (have H2_ := (Option.bind_some _ _).symm.trans H; rw [hy125]; with_reducible exact H2_) | (have H2_ := (Option.bind_some _ _).symm.trans H; with_reducible exact H2_) | with_reducible exact H | (rw [hy125]; exact H) | exact H
    have Ny125 := Aside0.mk hy125
    clear hy125
    by_cases c4 : y125.length + l0.length < 8796093022208
    · rw [if_pos c4] at H
      have LMc4 := Aside0.mk c4
      clear c4
      obtain ⟨y128, hy128⟩ : ∃ y_ : List (S30), y_ = (y125 ++ l0) := ⟨_, rfl⟩
      replace H : ((api_Point_34.f k y128).bind fun t131 => (profile_Turn.l0 k l0 t131 (y128.length : Int) 0)) = some (r1, r2) := by first | (rw [hy128]; with_reducible exact H) | (have H2_ := (Option.bind_some _ _).symm.trans H; rw [hy128]; with_reducible exact H2_) | (have H2_ := (Option.bind_some _ _).symm.trans H; with_reducible exact H2_) | with_reducible exact H | (rw [hy128]; exact H) | exact H
      have Ny128 := Aside0.mk hy128
      clear hy128
      replace H := Option.bind_eq_some_iff.mp H
      obtain ⟨t131, A50, H⟩ := H
      replace H : (profile_Turn.l0 k l0 t131 (y128.length : Int) 0) = some (r1, r2) := H
      have A5 := Aside0.mk A50
      clear A50
      have H' := Aside0.mk H
      clear H
      have hlen2 : 2 ≤ l0.length := by
        false_or_by_contra
        have h_ := A2.out
        unfold profile_Check.f sCheck at h_
        rw [if_pos (by omega)] at h_
        have h_ := Option.some.inj h_
        subst h_
        simp at c3b0
      obtain ⟨ad0, e0_⟩ : ∃ ad0, A0 = some ad0 := by obtain ⟨ad0, e_, _⟩ := HR0.out.2.2 (by omega); exact ⟨ad0, e_⟩
      subst e0_
      go_enter Try.func15, Try.ntmps15
      go_wp2_with (first | ((with_reducible refine gate_callee (f := 32) rfl ?_); refine goesL_ (some 8) rfl rfl Try.func32 (by kernel_rfl) rfl #[.slice (some ad0) l0.length c0] rfl (by (try simp only [List.map_toArray, List.map_cons, List.map_nil]); first | done | rfl | (simp only [List.length_drop, List.length_take]; rfl)) ?_; (with_reducible refine (profile_Check.calls _ _ l0 t124 _ ?side1 ?side2 A2.out).mono ?_); (case side1 => repeat (first | exact HR0.out | (with_reducible refine Kd.C_alloc ?_ _) | (with_reducible refine Kd.C_drewN ?_ _) | (with_reducible refine Kd.C_drew ?_))); (case side2 => exact HC0.out); rintro e w6 ⟨rfl, hb⟩; refine ⟨_, rfl, ?_⟩; have n0_ := Aside0.mk (below_step (by repeat (first | (with_reducible first | exact HB.out | apply below_alloc | apply pw_below_drewN | apply below_drew1) | exact HB.out)) hb); clear HB; have HB := n0_; clear n0_; (try clear hb); (try clear hb2); (try clear hk); (try clear hi)) | ((with_reducible refine gate_builtin (b := .append) (xs := #[.tmp 13, .tmp 14]) rfl ?_); at_builtin; refine grow30 (w0 := w) w.heap.size rfl (.tmp 13) (.tmp 14) rfl (some ad0) 0 0 ad0 l0.length c0 [] l0 rfl (by simp) rfl ⟨rfl, by omega, fun h_ => absurd h_ (by omega)⟩ (Kd.C_below HR0.out HB.out) (by omega) (by have := LMc4.out; omega) HB.out HB.out.size ?_; intro v129 w9 ho0 hb hg; have ho : Kd.R k30 30 w9 w.heap.size (fun _ => True) v129 y128 := (by rw [Ny128.out, Ny125.out]; exact ho0); have n0_ := Aside0.mk (hb); have n1_ := Aside0.mk (ho); clear HB; have HB := n0_; have HO130 := n1_; clear n0_ n1_; clear ho0 ho hb hg; obtain ⟨Ao10, co10, eo10⟩ := Kd.R_slice HO130.out; subst eo10) | ((with_reducible refine gate_callee (f := 34) rfl ?_); refine goesL_ (some 17) rfl rfl Try.func34 (by kernel_rfl) rfl #[.slice Ao10 y128.length co10] rfl (by (try simp only [List.map_toArray, List.map_cons, List.map_nil]); first | done | rfl | (simp only [List.length_drop, List.length_take]; rfl)) ?_; (with_reducible refine (api_Point_34.calls k (fun k_ => some k_ = (.slice Ao10 y128.length co10 : Value).ownBlock) (.slice Ao10 y128.length co10) y128 t131 w _ ?side1 ?side2 A5.out).mono ?_); (case side1 => repeat (first | (with_reducible first | exact HB.out | apply below_alloc | apply pw_below_drewN | apply below_drew1) | exact HB.out)); (case side2 => exact Kd.R_tight rfl HO130.out); rintro e w11 ⟨rfl, hy0, hb, hkp⟩; refine ⟨_, rfl, ?_⟩; have n0_ := Aside0.mk (Kd.R_reok rfl hy0 (fun k_ e_ => HO130.out.1 k_ e_)); have n1_ := Aside0.mk (hb); clear HO130; clear HB; have HO130 := n0_; have HB := n1_; clear n0_ n1_; (try clear hb); (try clear hkp); (try clear hy0)))
      go_loopg [20] k (fun kq v20 w' => ∃ (x5_1 : List (S30)) (x20_1 : Int), v20 = .int .i64 x20_1 ∧ Aside0 (profile_Turn.l0 kq l0 x5_1 (y128.length : Int) x20_1 = some (r1, r2)) ∧ Aside0 (kq ≤ k) ∧ Aside0 (Kd.R k30 30 w' w.heap.size (fun _ => True) (.slice Ao10 y128.length co10) x5_1) ∧ Aside0 (Below w.heap.size w w'))
      case atStart => exact ⟨(t131), (0), (by first | rfl | (simp; done) | (simp [*]; done)), H', ⟨Nat.le_refl _⟩, ⟨by (with_reducible repeat (first | apply Kd.R_alloc | apply Kd.R_drewN | apply Kd.R_drew)); exact HO130.out⟩, ⟨by repeat (first | (with_reducible first | exact HB.out | apply below_alloc | apply pw_below_drewN | apply below_drew1) | exact HB.out)⟩⟩
      case round =>
        clear H'
        try clear c1
        try clear c2
        try clear p2
        try clear c3
        try clear c3b0
        try clear c3b1
        try clear c4
        obtain ⟨x5_1, x20_1, rfl, HA, HK1, HO_5, HB⟩ := hrel
        have hl5_1 := (Kd.R_reads' HO_5.out).1
        rw [hl5_1] at HO_5
        (try simp only [hl5_1])
        cases gk with
        | zero => exact absurd HA.out (by simp [profile_Turn.l0])
        | succ k1 =>
          have H := HA.out
          clear HA
          simp only [profile_Turn.l0] at H
          by_cases c12 : x20_1 < (y128.length : Int)
          · rw [if_pos c12] at H
            have c12b0 : decide (x20_1 < (y128.length : Int)) = true := decide_eq_true c12
            clear c12
            replace H := Option.bind_eq_some_iff.mp H
            obtain ⟨t132, A130, H⟩ := H
            replace H : (if 0 ≤ x20_1 then (if x20_1 < (x5_1.length : Int) then (profile_Turn.l0 k1 l0 (x5_1.set (x20_1 : Int).toNat (⟨wrap64 (t132 - ((rd_T30 x5_1 x20_1).f0)), (rd_T30 x5_1 x20_1).f1⟩ : S30)) (y128.length : Int) (wrap64 (x20_1 + 1))) else (none)) else (none)) = some (r1, r2) := H
            have A13 := Aside0.mk A130
            clear A130
            by_cases c14 : 0 ≤ x20_1
            · rw [if_pos c14] at H
              have c14b0 : decide (0 ≤ x20_1) = true := decide_eq_true c14
              clear c14
              by_cases c15 : x20_1 < (x5_1.length : Int)
              · rw [if_pos c15] at H
                have c15b0 : decide (x20_1 < (x5_1.length : Int)) = true := decide_eq_true c15
                clear c15
                obtain ⟨y134, hy134⟩ : ∃ y_ : List (S30), y_ = (x5_1.set (x20_1 : Int).toNat (⟨wrap64 (t132 - ((rd_T30 x5_1 x20_1).f0)), (rd_T30 x5_1 x20_1).f1⟩ : S30)) := ⟨_, rfl⟩
                replace H : (profile_Turn.l0 k1 l0 y134 (y128.length : Int) (wrap64 (x20_1 + 1))) = some (r1, r2) := by first | (rw [hy134]; with_reducible exact H) | (have H2_ := (Option.bind_some _ _).symm.trans H; rw [hy134]; with_reducible exact H2_) | (have H2_ := (Option.bind_some _ _).symm.trans H; with_reducible exact H2_) | with_reducible exact H | (rw [hy134]; exact H) | exact H
                have Ny134 := Aside0.mk hy134
                clear hy134
                have H' := Aside0.mk H
                clear H
                try go_wp2
                have n0_ := Aside0.mk (Kd.R_drew HO_5.out)
                have n1_ := Aside0.mk (below_drew1 HB.out)
                clear HO_5
                clear HB
                have HO_5 := n0_
                have HB := n1_
                clear n0_ n1_
                have p133 : 0 ≤ (x20_1 : Int) := of_decide_eq_true (by first | (with_reducible assumption) | assumption)
                have q133 : x20_1 < (x5_1.length : Int) := of_decide_eq_true (by first | (with_reducible assumption) | assumption)
                obtain ⟨ad133, e133, hx133_0, hx133_1⟩ := at_T30 (Kd.R_reads' HO_5.out).2.2 x20_1 p133 q133
                cases e133
                replace p133 := eq_true p133
                replace q133 := eq_true q133
                refine start_ (n := 13) (S := fun w' => w'.cell? (ad133.add ((x20_1).toNat * 2)) = some (.int .i64 ((rd_T30 x5_1 x20_1).f0)) ∧ w'.cell? ⟨(ad133.add ((x20_1).toNat * 2)).block, (ad133.add ((x20_1).toNat * 2)).off + 1, none⟩ = some (.int .i64 ((rd_T30 x5_1 x20_1).f1))) (ds := [12]) #[false, false, false, false, false, false, false, false, false, false, false, false, false] (by kernel_rfl) rfl rfl ⟨hx133_0, hx133_1⟩ (fun hHeld => ?_); refine with_tabW profile_Turn.tab9 profile_Turn.bits9 (fun HT_ HW_ => ?_)
                generalize wr.drew = w17 at HO_5 HB hx133_0 hx133_1 hHeld ⊢
                refine pure_ (i := 0) (N := some 23) (v := ?_) (a' := ?_) #[true, false, false, false, false, false, false, false, false, false, false, false, false] rfl rfl (any_of HT_.out (by kernel_rfl)) (fun _ _ _ h => h) (Or.inl ⟨by rfl, ?_⟩) ?_ ?_
                rotate_left
                · intro w'
                  go_simp
                  with_reducible rfl
                rotate_left
                · simp only [Act.put, List.setIfInBounds_toArray, List.set_cons_zero, List.set_cons_succ, i64_w, i32_w]
                  rfl
                refine pure_ (i := 1) (N := some 24) (v := ?_) (a' := ?_) #[true, true, false, false, false, false, false, false, false, false, false, false, false] rfl rfl (any_of HT_.out (by kernel_rfl)) (fun _ _ _ h => h) (Or.inl ⟨by rfl, ?_⟩) ?_ ?_
                rotate_left
                · intro w'
                  go_simp
                  with_reducible rfl
                rotate_left
                · simp only [Act.put, List.setIfInBounds_toArray, List.set_cons_zero, List.set_cons_succ, i64_w, i32_w]
                  rfl
                refine pure_ (i := 2) (N := some 25) (v := ?_) (a' := ?_) #[true, true, true, false, false, false, false, false, false, false, false, false, false] rfl rfl (any_of HT_.out (by kernel_rfl)) (fun _ _ _ h => h) (Or.inl ⟨by rfl, ?_⟩) ?_ ?_
                rotate_left
                · intro w'
                  go_simp
                  with_reducible rfl
                rotate_left
                · simp only [Act.put, List.setIfInBounds_toArray, List.set_cons_zero, List.set_cons_succ, i64_w, i32_w]
                  rfl
                refine pure_ (i := 4) (N := some 27) (v := ?_) (a' := ?_) #[true, true, true, false, true, false, false, false, false, false, false, false, false] rfl rfl (any_of HT_.out (by kernel_rfl)) (fun _ _ _ h => h) (Or.inl ⟨by rfl, ?_⟩) ?_ ?_
                rotate_left
                · intro w'
                  go_simp
                  with_reducible rfl
                rotate_left
                · simp only [Act.put, List.setIfInBounds_toArray, List.set_cons_zero, List.set_cons_succ, i64_w, i32_w]
                  rfl
                refine pure_ (i := 5) (N := some 28) (v := ?_) (a' := ?_) #[true, true, true, false, true, true, false, false, false, false, false, false, false] rfl rfl (any_of HT_.out (by kernel_rfl)) (fun _ _ _ h => h) (Or.inl ⟨by rfl, ?_⟩) ?_ ?_
                rotate_left
                · intro w'
                  go_simp
                  with_reducible rfl
                rotate_left
                · simp only [Act.put, List.setIfInBounds_toArray, List.set_cons_zero, List.set_cons_succ, i64_w, i32_w]
                  rfl
                refine pure_ (i := 6) (N := some 29) (v := ?_) (a' := ?_) #[true, true, true, false, true, true, true, false, false, false, false, false, false] rfl rfl (any_of HT_.out (by kernel_rfl)) (fun _ _ _ h => h) (Or.inl ⟨by rfl, ?_⟩) ?_ ?_
                rotate_left
                · intro w'
                  go_simp
                  with_reducible rfl
                rotate_left
                · simp only [Act.put, List.setIfInBounds_toArray, List.set_cons_zero, List.set_cons_succ, i64_w, i32_w]
                  rfl
                refine pure_ (i := 7) (N := some 30) (v := ?_) (a' := ?_) #[true, true, true, false, true, true, true, true, false, false, false, false, false] rfl rfl (any_of HT_.out (by kernel_rfl)) (fun _ _ _ h => h) (Or.inl ⟨by rfl, ?_⟩) ?_ ?_
                rotate_left
                · intro w'
                  go_simp
                  with_reducible rfl
                rotate_left
                · simp only [Act.put, List.setIfInBounds_toArray, List.set_cons_zero, List.set_cons_succ, i64_w, i32_w]
                  rfl
                refine take_ (i := 8) (N := some 31) (v := ?_) (a' := ?_) #[true, true, true, false, true, true, true, true, true, false, false, false, false] rfl rfl (take_ofW HT_.out HW_.out (by kernel_rfl)) (fun _ _ _ h => h) (Or.inl ⟨by rfl, ?_⟩) hHeld ?_ ?_
                rotate_left
                · rintro w' ⟨s0, s1⟩
                  go_simp
                  with_reducible rfl
                rotate_left
                · simp only [Act.put, List.setIfInBounds_toArray, List.set_cons_zero, List.set_cons_succ, i64_w, i32_w]
                  rfl
                refine one_ (i := 3) (N := some 26) #[true, true, true, true, true, true, true, true, true, false, false, false, false] rfl rfl (one_of HT_.out (by kernel_rfl)) (by decide) (fun K hK => ?_)
                refine goes_ Try.func35 (by kernel_rfl) rfl #[.slice (some ad0) l0.length c0] (by rfl) rfl rfl (by (try simp only [List.map_toArray, List.map_cons, List.map_nil]); first | done | rfl | (simp only [List.length_drop, List.length_take]; rfl)) ?_
                with_reducible refine (profile_length.calls _ _ l0 t132 _ ?side1 ?side2 A13.out).mono ?_
                (case side1 => repeat (first | exact (Kd.C_below HR0.out HB.out) | (with_reducible refine Kd.C_alloc ?_ _) | (with_reducible refine Kd.C_drewN ?_ _) | (with_reducible refine Kd.C_drew ?_)))
                (case side2 => exact HC0.out)
                rintro e w' ⟨rfl, ⟨nd, rfl⟩⟩
                refine ⟨_, rfl, ?_⟩
                have p16 : 0 ≤ (x20_1 : Int) := of_decide_eq_true (by first | (with_reducible assumption) | assumption)
                have q16 : (x20_1 : Int) < ((x5_1.length : Int) : Int) := of_decide_eq_true (by first | (with_reducible assumption) | assumption)
                obtain ⟨go16, co16, eo16, gb16, gl16, cl16, HG16⟩ := Kd.R_form HO_5.out (by omega)
                (first | cases eo16 | (injection eo16 with ea_ en_ ec_; (first | subst ea_ | (injection ea_ with ea_; subst ea_)); subst ec_; clear en_))
                have GB16 := Aside0.mk gb16
                have GG16 := Aside0.mk HG16
                clear gb16 gl16 HG16
                (first | simp only [add_plain] at hx133_0 | skip)
                (first | simp only [add_plain] at hx133_1 | skip)
                obtain ⟨ce16, hcl16, hM16, hcc16, hfr16⟩ := Kd.R_elem HO_5.out z30 (x20_1 : Int) p16 q16
                obtain rfl := k30_openM hM16
                have hx16_0 : World.cell? _ ⟨go16, (x20_1 : Int).toNat * 2, none⟩ = some (.int .i64 ((rd_T30 x5_1 x20_1).f0)) := hcc16 0 _ rfl
                have hx16_1 : World.cell? _ ⟨go16, (x20_1 : Int).toNat * 2 + 1, none⟩ = some (.int .i64 ((rd_T30 x5_1 x20_1).f1)) := hcc16 1 _ rfl
                have hf16_0 : World.frozen? _ ⟨go16, (x20_1 : Int).toNat * 2, none⟩ = false := hfr16 0
                have hf16_1 : World.frozen? _ ⟨go16, (x20_1 : Int).toNat * 2 + 1, none⟩ = false := hfr16 1
                clear hcl16 hcc16 hfr16 hM16
                replace p16 := eq_true p16
                replace q16 := eq_true q16
                obtain ⟨ce18, hcl18, hM18, hcc18, hfr18⟩ := Kd.R_elem HO_5.out z30 (x20_1 : Int) (of_decide_eq_true (by first | (with_reducible assumption) | assumption)) (by have h_ : (x20_1 : Int) < ((x5_1.length : Int) : Int) := of_decide_eq_true (by first | (with_reducible assumption) | assumption); first | exact h_ | (have e_ := (Kd.R_reads' HO_5.out).1; omega) | simpa using h_)
                obtain rfl := k30_openM hM18
                have HP18 := (Kd.R_seg HO_5.out (x20_1 : Int) (of_decide_eq_true (by first | (with_reducible assumption) | assumption)) (by have h_ : (x20_1 : Int) < ((x5_1.length : Int) : Int) := of_decide_eq_true (by first | (with_reducible assumption) | assumption); first | exact h_ | (have e_ := (Kd.R_reads' HO_5.out).1; omega) | simpa using h_) (seg := [.int .i64 (wrap64 (t132 - ((rd_T30 x5_1 x20_1).f0)))]) (j := 0) hcl18 hcc18 (show 1 ≤ 2 from by decide) (x' := (⟨wrap64 (t132 - ((rd_T30 x5_1 x20_1).f0)), (rd_T30 x5_1 x20_1).f1⟩ : S30)) (k30_mkM _ _ _ (⟨wrap64 (t132 - ((rd_T30 x5_1 x20_1).f0)), (rd_T30 x5_1 x20_1).f1⟩ : S30) ) (fun _ hk => hk)).1
                rw [← Ny134.out] at HP18
                have HQ18 := Aside0.mk HP18
                clear hcl18 hcc18 hfr18 hM18 HP18
                refine hK.out _ _ ⟨hHeld.1, hHeld.2⟩ (fun hHeld => ?_)
                clear hK K
                refine norm_ (a' := ?_) ?_ ?_
                rotate_left
                · show Act.put _ (some 26) _ = _
                  simp only [Act.put, List.setIfInBounds_toArray, List.set_cons_zero, List.set_cons_succ, i64_w, i32_w]
                  rfl
                refine pure_ (i := 9) (N := some 32) (v := ?_) (a' := ?_) #[true, true, true, true, true, true, true, true, true, true, false, false, false] rfl rfl (any_of HT_.out (by kernel_rfl)) (fun _ _ _ h => h) (Or.inl ⟨by rfl, ?_⟩) ?_ ?_
                rotate_left
                · intro w'
                  go_simp
                  with_reducible rfl
                rotate_left
                · simp only [Act.put, List.setIfInBounds_toArray, List.set_cons_zero, List.set_cons_succ, i64_w, i32_w]
                  rfl
                refine pure_ (i := 10) (N := some 33) (v := ?_) (a' := ?_) #[true, true, true, true, true, true, true, true, true, true, true, false, false] rfl rfl (any_of HT_.out (by kernel_rfl)) (fun _ _ _ h => h) (Or.inl ⟨by rfl, ?_⟩) ?_ ?_
                rotate_left
                · intro w'
                  go_simp
                  with_reducible rfl
                rotate_left
                · simp only [Act.put, List.setIfInBounds_toArray, List.set_cons_zero, List.set_cons_succ, i64_w, i32_w]
                  rfl
                refine pure_ (i := 11) (N := some 34) (v := ?_) (a' := ?_) #[true, true, true, true, true, true, true, true, true, true, true, true, false] rfl rfl (any_of HT_.out (by kernel_rfl)) (fun _ _ _ h => h) (Or.inl ⟨by rfl, ?_⟩) ?_ ?_
                rotate_left
                · intro w'
                  go_simp
                  with_reducible rfl
                rotate_left
                · simp only [Act.put, List.setIfInBounds_toArray, List.set_cons_zero, List.set_cons_succ, i64_w, i32_w]
                  rfl
                refine last_ (i := 12) (N := none) #[true, true, true, true, true, true, true, true, true, true, true, true, true] rfl rfl (one_of HT_.out (by kernel_rfl)) (by decide) (fun K hK => ?_)
                refine skip_ (w1 := ?_) (by rfl) rfl ?_ ?_
                rotate_left
                · go_simp
                  rfl
                refine hK.out _ _ ?_
                clear hK K
                refine done_ (done_of HT_.out (by kernel_rfl)) ?_
                try go_wp2
                (try simp only [← hl5_1])
                go_roundg k1
                case measure => have := HK1.out; omega
                case rel => exact ⟨(y134), (wrap64 (x20_1 + 1)), (by first | rfl | (simp; done) | (simp [*]; done)), H', ⟨by have := HK1.out; omega⟩, ⟨by (try simp only [hl5_1]); (with_reducible repeat (first | apply Kd.R_alloc | apply Kd.R_drewN | apply Kd.R_drew)); exact HQ18.out⟩, ⟨by repeat (first | (with_reducible first | exact HB.out | apply below_alloc | apply pw_below_drewN | apply below_drew1 | refine below_set ?_ GB16.out) | exact HB.out)⟩⟩
              · rw [if_neg c15] at H
                exact absurd H (by simp)
            · rw [if_neg c14] at H
              exact absurd H (by simp)
          · rw [if_neg c12] at H
            have c12b0 : decide (x20_1 < (y128.length : Int)) = false := decide_eq_false c12
            have c12z := c12b0
            (first | rw [← hl5_1] at c12z | rw [hl5_1] at c12z)
            clear c12
            simp only [Option.some.injEq, Prod.mk.injEq] at H
            obtain ⟨rfl, rfl⟩ := H
            go_wp2
            go_ret2
            exact ⟨_, by first | rfl | (simp [errW_none, errW_some] <;> rfl) | (simp [*, errW_none, errW_some] <;> rfl), by (with_reducible repeat (first | apply Kd.R_alloc | apply Kd.R_drewN | apply Kd.R_drew)); exact HO_5.out, by repeat (first | (with_reducible first | exact HB.out | apply below_alloc | apply pw_below_drewN | apply below_drew1) | exact HB.out)⟩
    · rw [if_neg c4] at H
      exact absurd H (by simp)
  · rw [if_neg c3] at H
    have c3b0 : (t124 == 0) = false := beq_eq_false_iff_ne.mpr c3
    have c3b1 : (t124 != 0) = true := bne_iff_ne.mpr c3
    simp only [Option.some.injEq, Prod.mk.injEq] at H
    obtain ⟨rfl, rfl⟩ := H
    go_enter Try.func15, Try.ntmps15
    go_wp2_with (first | ((with_reducible refine gate_callee (f := 32) rfl ?_); refine goesL_ (some 8) rfl rfl Try.func32 (by kernel_rfl) rfl #[.slice A0 l0.length c0] rfl (by (try simp only [List.map_toArray, List.map_cons, List.map_nil]); first | done | rfl | (simp only [List.length_drop, List.length_take]; rfl)) ?_; (with_reducible refine (profile_Check.calls _ _ l0 t124 _ ?side1 ?side2 A2.out).mono ?_); (case side1 => repeat (first | exact HR0.out | (with_reducible refine Kd.C_alloc ?_ _) | (with_reducible refine Kd.C_drewN ?_ _) | (with_reducible refine Kd.C_drew ?_))); (case side2 => exact HC0.out); rintro e w19 ⟨rfl, hb⟩; refine ⟨_, rfl, ?_⟩; have n0_ := Aside0.mk (below_step (by repeat (first | (with_reducible first | exact HB.out | apply below_alloc | apply pw_below_drewN | apply below_drew1) | exact HB.out)) hb); clear HB; have HB := n0_; clear n0_; (try clear hb); (try clear hb2); (try clear hk); (try clear hi)))
    go_ret2
    exact ⟨_, by first | rfl | (simp [errW_none, errW_some] <;> rfl) | (simp [*, errW_none, errW_some] <;> rfl), by first | exact Kd.R_nil _ _ _ _ _ | exact Kd.N_nil _ _ _ _ _ | exact Kd.V_nil _ _ _ _ _ | exact Kd.Q_nil _ _ _ _ _ | exact Kd.S_nil _ _ _ _ _, by repeat (first | (with_reducible first | exact HB.out | apply below_alloc | apply pw_below_drewN | apply below_drew1) | exact HB.out)⟩

end Go.Proofs.Ytcbmmhedefigeaa.X
