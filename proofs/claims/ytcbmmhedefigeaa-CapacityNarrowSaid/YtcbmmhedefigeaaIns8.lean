-- Written by a program of this work, over the kit's print of the translation. Not trusted: Lean checks it.
import Derived.Test.YtcbmmhedefigeaaXx0
import Derived.Test.YtcbmmhedefigeaaXx1
import Derived.Test.YtcbmmhedefigeaaXx6
import Derived.Test.YtcbmmhedefigeaaGr8
namespace Go.Proofs.Ytcbmmhedefigeaa.X
open Go.RowKit Go.Proofs.YtcbmmhedefigeaaW.PrintWords Go.Proofs.YtcbmmhedefigeaaW.PrintLast Go.Proofs.YtcbmmhedefigeaaW.PrintMore
attribute [local go_sem] max2_int min2_int max_two min_two max_three min_three max_four min_four   -- for this text's walks alone
set_option linter.unusedVariables false
set_option linter.unusedSimpArgs false

/-! ### profile_Insert: function 20 -/
mutual
def profile_Insert.j1 : Nat → List (S30) → Int → Int → Int → Int → Option ((List (S30)) × Int)
  | 0, _, _, _, _, _ => none
  | k + 1, x0, x1, x8, x116000, x116001 => if x8 < (x0.length : Int) then (if 0 ≤ x8 then (profile_Insert.j2 k x0 x1 x8 (((rd_T30 x0 x8).f0) == x1) x116000 x116001) else (none)) else (profile_Insert.j2 k x0 x1 x8 false x116000 x116001)
def profile_Insert.j2 : Nat → List (S30) → Int → Int → Bool → Int → Int → Option ((List (S30)) × Int)
  | 0, _, _, _, _, _, _ => none
  | k + 1, x0, x1, x8, x33, x116000, x116001 => if x33 = true then (some (([] : List (S30)), 6)) else (if x116000 = x116001 then (if (x0.length : Int) = 32 then (some (([] : List (S30)), 12)) else ((some (x0.take (x8 : Int).toNat : List (S30))).bind fun y118 => ((some (([(⟨x1, x116000⟩ : S30)] : List (S30)) : List (S30))).bind fun y121 => (if y118.length + y121.length < 8796093022208 then ((some (y118 ++ y121 : List (S30))).bind fun y124 => (if 0 ≤ x8 then (if x8 ≤ (x0.length : Int) then ((some (x0.drop (x8 : Int).toNat : List (S30))).bind fun y127 => (if y124.length + y127.length < 8796093022208 then (some ((y124 ++ y127), 0)) else (none))) else (none)) else (none))) else (none))))) else (some (([] : List (S30)), 10)))
def profile_Insert.l0 : Nat → List (S30) → Int → Int → Int → Int → Option ((List (S30)) × Int)
  | 0, _, _, _, _, _ => none
  | k + 1, x0, x1, x8, x116000, x116001 => if x8 < (x0.length : Int) then (if 0 ≤ x8 then (if ((rd_T30 x0 x8).f0) < x1 then (profile_Insert.l0 k x0 x1 (wrap64 (x8 + 1)) x116000 x116001) else (profile_Insert.j1 k x0 x1 x8 x116000 x116001)) else (none)) else (profile_Insert.j1 k x0 x1 x8 x116000 x116001)
end
def profile_Insert.f (k : Nat) (l0 : List (S30)) (a1 : Int) : Option ((List (S30)) × Int) := (profile_At.f l0 a1).bind fun bt112 => (if bt112.2.2 = 0 then (profile_Insert.l0 k l0 a1 0 bt112.1 bt112.2.1) else (some (([] : List (S30)), bt112.2.2)))
theorem profile_Insert.mono_l : ∀ k, (∀ y0 y1 y2 y3 y4, LeO (profile_Insert.j1 k y0 y1 y2 y3 y4) (profile_Insert.j1 (k + 1) y0 y1 y2 y3 y4)) ∧ (∀ y0 y1 y2 y3 y4 y5, LeO (profile_Insert.j2 k y0 y1 y2 y3 y4 y5) (profile_Insert.j2 (k + 1) y0 y1 y2 y3 y4 y5)) ∧ (∀ y0 y1 y2 y3 y4, LeO (profile_Insert.l0 k y0 y1 y2 y3 y4) (profile_Insert.l0 (k + 1) y0 y1 y2 y3 y4))
  | 0 => ⟨fun _ _ _ _ _ r h => by simp [profile_Insert.j1] at h, fun _ _ _ _ _ _ r h => by simp [profile_Insert.j2] at h, fun _ _ _ _ _ r h => by simp [profile_Insert.l0] at h⟩
  | k + 1 => by
    obtain ⟨ih0, ih1, ih2⟩ := profile_Insert.mono_l k
    refine ⟨?_, ?_, ?_⟩
    · intro y0 y1 y2 y3 y4
      unfold profile_Insert.j1
      repeat' first
      | (with_reducible exact ih0 _ _ _ _ _)
      | (with_reducible exact ih1 _ _ _ _ _ _)
      | (with_reducible exact ih2 _ _ _ _ _)
      | (with_reducible exact LeO.refl _)
      | (with_reducible exact LeO.none _)
      | (with_reducible refine LeO.ite ?_ ?_)
      | (with_reducible refine LeO.bind ?_ (fun _ => ?_))
      | exact ih0 _ _ _ _ _
      | exact ih1 _ _ _ _ _ _
      | exact ih2 _ _ _ _ _
      | exact LeO.none _
      | refine LeO.ite ?_ ?_
      | refine LeO.bind ?_ (fun _ => ?_)
    · intro y0 y1 y2 y3 y4 y5
      unfold profile_Insert.j2
      repeat' first
      | (with_reducible exact ih0 _ _ _ _ _)
      | (with_reducible exact ih1 _ _ _ _ _ _)
      | (with_reducible exact ih2 _ _ _ _ _)
      | (with_reducible exact LeO.refl _)
      | (with_reducible exact LeO.none _)
      | (with_reducible refine LeO.ite ?_ ?_)
      | (with_reducible refine LeO.bind ?_ (fun _ => ?_))
      | exact ih0 _ _ _ _ _
      | exact ih1 _ _ _ _ _ _
      | exact ih2 _ _ _ _ _
      | exact LeO.none _
      | refine LeO.ite ?_ ?_
      | refine LeO.bind ?_ (fun _ => ?_)
    · intro y0 y1 y2 y3 y4
      unfold profile_Insert.l0
      repeat' first
      | (with_reducible exact ih0 _ _ _ _ _)
      | (with_reducible exact ih1 _ _ _ _ _ _)
      | (with_reducible exact ih2 _ _ _ _ _)
      | (with_reducible exact LeO.refl _)
      | (with_reducible exact LeO.none _)
      | (with_reducible refine LeO.ite ?_ ?_)
      | (with_reducible refine LeO.bind ?_ (fun _ => ?_))
      | exact ih0 _ _ _ _ _
      | exact ih1 _ _ _ _ _ _
      | exact ih2 _ _ _ _ _
      | exact LeO.none _
      | refine LeO.ite ?_ ?_
      | refine LeO.bind ?_ (fun _ => ?_)
theorem profile_Insert.mono : ∀ a0 a1 k, LeO (profile_Insert.f k a0 a1) (profile_Insert.f (k + 1) a0 a1) := by
  intro a0 a1 k
  obtain ⟨ih0, ih1, ih2⟩ := profile_Insert.mono_l k
  unfold profile_Insert.f
  repeat' first
      | (with_reducible exact ih0 _ _ _ _ _)
      | (with_reducible exact ih1 _ _ _ _ _ _)
      | (with_reducible exact ih2 _ _ _ _ _)
      | (with_reducible exact LeO.refl _)
      | (with_reducible exact LeO.none _)
      | (with_reducible refine LeO.ite ?_ ?_)
      | (with_reducible refine LeO.bind ?_ (fun _ => ?_))
      | exact ih0 _ _ _ _ _
      | exact ih1 _ _ _ _ _ _
      | exact ih2 _ _ _ _ _
      | exact LeO.none _
      | refine LeO.ite ?_ ?_
      | refine LeO.bind ?_ (fun _ => ?_)
def profile_Insert.T13 : Bool × List (List Nat × List Nat) := (true, [([], []), ([], []), ([], []), ([0, 1, 2], [0, 1, 2]), ([], []), ([], []), ([5], [5]), ([4, 6], [4, 6]), ([7], [7]), ([3, 8], [3, 8]), ([], []), ([], []), ([10, 11], [10, 11]), ([9, 12, 9], [9, 12]), ([13, 13, 0, 1, 2, 3, 4, 5, 6, 7, 8, 9, 10, 11, 12, 13], [13]), ([14, 0, 1, 2, 3, 4, 5, 6, 7, 8, 9, 10, 11, 12, 13, 14], [])])
def profile_Insert.B13 : List Nat := [0, 0, 0, 7, 0, 0, 32, 112, 240, 511, 0, 0, 3072, 8191, 16383, 32767]
theorem profile_Insert.tab13 : rtab .any (opsOf Try.f16 13) = profile_Insert.T13 := by kernel_rfl
theorem profile_Insert.bits13 : waitsOk profile_Insert.T13.2 profile_Insert.B13 = true := by kernel_rfl
set_option maxHeartbeats 8000000 in
set_option maxRecDepth 100000 in
theorem profile_Insert.calls (k : Nat) (A0 : Option Addr) (c0 : Nat) (l0 : List (S30)) (a1 : Int) (r1 : List (S30)) (r2 : Int) (w : World) (hr0 : Kd.C k30 w A0 l0.length l0) (hc0 : l0.length ≤ c0) (h : profile_Insert.f k l0 a1 = some (r1, r2)) :
    Calls Try.prog 16 #[.slice A0 l0.length c0, .int .i64 a1] w fun e w' => ∃ v0_ : Value, e = .returned (.tuple #[v0_, .int .i64 r2]) ∧ Kd.R k30 30 w' w.heap.size (fun _ => True) v0_ r1 ∧ Below w.heap.size w w' := by
  have hu32 := Try.underlying32
  have hu30 := Try.underlying30
  have HR0 := Aside0.mk hr0
  have HC0 := Aside0.mk hc0
  clear hr0 hc0
  have HB := Aside0.mk (Below.refl w.heap.size w)
  have H : ((profile_At.f l0 a1).bind fun bt112 => (if bt112.2.2 = 0 then (profile_Insert.l0 k l0 a1 0 bt112.1 bt112.2.1) else (some (([] : List (S30)), bt112.2.2)))) = some (r1, r2) := h
  clear h
  replace H := Option.bind_eq_some_iff.mp H
  obtain ⟨⟨t112, t113, t114⟩, A30, H⟩ := H
  replace H : (if t114 = 0 then (profile_Insert.l0 k l0 a1 0 t112 t113) else (some (([] : List (S30)), t114))) = some (r1, r2) := H
  have A3 := Aside0.mk A30
  clear A30
  by_cases c4 : t114 = 0
  · rw [if_pos c4] at H
    have c4b0 : (t114 == 0) = true := beq_iff_eq.mpr c4
    have c4b1 : (t114 != 0) = false := bne_eq_false_iff_eq.mpr c4
    have hlen2 : 2 ≤ l0.length := by
      false_or_by_contra
      have h_ := A3.out
      unfold profile_At.f profile_Check.f sCheck at h_
      rw [if_pos (by omega), Option.bind_some, if_neg (by decide)] at h_
      have h_ := Option.some.inj h_
      simp only [Prod.mk.injEq] at h_
      have h2_ := h_.2.2
      subst h2_
      simp at c4b0
    obtain ⟨ad0, e0_⟩ : ∃ ad0, A0 = some ad0 := by obtain ⟨ad0, e_, _⟩ := HR0.out.2.2 (by omega); exact ⟨ad0, e_⟩
    subst e0_
    clear c4
    have HC5 := Aside0.mk H
    clear H
    go_enter Try.func16, Try.ntmps16
    go_upto_block 0 with (first | ((with_reducible refine gate_callee (f := 36) rfl ?_); refine goesL_ (some 12) rfl rfl Try.func36 (by kernel_rfl) rfl #[.slice (some ad0) l0.length c0, .int .i64 a1] rfl (by (try simp only [List.map_toArray, List.map_cons, List.map_nil]); first | done | rfl | (simp only [List.length_drop, List.length_take]; rfl)) ?_; (with_reducible refine (profile_At.calls _ _ l0 a1 t112 t113 t114 _ ?side1 ?side2 A3.out).mono ?_); (case side1 => repeat (first | exact HR0.out | (with_reducible refine Kd.C_alloc ?_ _) | (with_reducible refine Kd.C_drewN ?_ _) | (with_reducible refine Kd.C_drew ?_))); (case side2 => exact HC0.out); rintro e w6 ⟨rfl, hb⟩; refine ⟨_, rfl, ?_⟩; have n0_ := Aside0.mk (below_step (by repeat (first | (with_reducible first | exact HB.out | apply below_alloc | apply pw_below_drewN | apply below_drew1) | exact HB.out)) hb); clear HB; have HB := n0_; clear n0_; (try clear hb); (try clear hb2); (try clear hk); (try clear hi)) | ((with_reducible refine gate_dst (N := 6) rfl ?_); refine box_event ?hg (N := 6) ?hd (cs := #[.int .i64 0, .int .i64 0]) (t := 32) ?hr ?_; (case hd => rfl); (case hg => rfl); (case hr => first | (go_simp; done) | (go_simp; rfl)); intro gb115 hg w7 hbox hb; have n0_ := Aside0.mk (below_step (by repeat (first | (with_reducible first | exact HB.out | apply below_alloc | apply pw_below_drewN | apply below_drew1) | exact HB.out)) hb); have n1_ := Aside0.mk (hbox); have n2_ := Aside0.mk ((by rw [hg]; exact (below_size (by repeat (first | (with_reducible first | exact HB.out | apply below_alloc | apply pw_below_drewN | apply below_drew1) | exact HB.out))) : w.heap.size ≤ gb115)); have n3_ := Aside0.mk ((by rw [hg]; exact (below_size (by repeat (first | (with_reducible first | exact HB.out | apply below_alloc | apply pw_below_drewN | apply below_drew1) | exact HB.out))) : w.heap.size ≤ gb115)); clear HB; have HB := n0_; have BK115 := n1_; have GW115 := n2_; have GE115 := n3_; clear n0_ n1_ n2_ n3_; clear hb hbox hg; have hcz8_0 : w7.cell? ⟨gb115, 0, none⟩ = some (.int .i64 0) := (blk_cell BK115.out 0).trans rfl; have hcz8_1 : w7.cell? ⟨gb115, 1, none⟩ = some (.int .i64 0) := (blk_cell BK115.out 1).trans rfl; have hfz8_0 := blk_frozen BK115.out 0; have hfz8_1 := blk_frozen BK115.out 1))
    (try simp only [Act.put, List.setIfInBounds_toArray, List.set_cons_zero, List.set_cons_succ])
    go_cut [8] (fun v8 wc => ∃ (kq : Nat) (x8_4 : Int), v8 = .int .i64 x8_4 ∧ Aside0 (profile_Insert.j1 kq l0 a1 x8_4 t112 t113 = some (r1, r2)) ∧ Aside0 (kq ≤ k) ∧ Aside0 (wc.heap[gb115]? = some (.cells #[.int .i64 t112, .int .i64 t113] 32 (0, 0))) ∧ Aside0 (Below w.heap.size w wc))
    case first =>
      have H := HC5.out
      clear HC5
      have H' := Aside0.mk H
      clear H
      go_wp2
      go_loopg [8] k (fun kq v8 w' => ∃ (x8_1 : Int), v8 = .int .i64 x8_1 ∧ Aside0 (profile_Insert.l0 kq l0 a1 x8_1 t112 t113 = some (r1, r2)) ∧ Aside0 (kq ≤ k) ∧ Aside0 (w'.heap[gb115]? = some (.cells #[.int .i64 t112, .int .i64 t113] 32 (0, 0))) ∧ Aside0 (Below w.heap.size w w'))
      case atStart => exact ⟨(0), (by first | rfl | (simp; done) | (simp [*]; done)), H', ⟨Nat.le_refl _⟩, ⟨by (with_reducible repeat (first | refine blk_drewN ?_ _ | refine blk_drew ?_ | refine blk_alloc ?_ _)); refine blk_put (cs := #[.int .i64 t112, .int .i64 0]) ?_ 1 _ rfl; (with_reducible repeat (first | refine blk_drewN ?_ _ | refine blk_drew ?_ | refine blk_alloc ?_ _)); refine blk_put (cs := #[.int .i64 0, .int .i64 0]) ?_ 0 _ rfl; (with_reducible repeat (first | refine blk_drewN ?_ _ | refine blk_drew ?_ | refine blk_alloc ?_ _)); exact BK115.out⟩, ⟨by repeat (first | (with_reducible first | exact HB.out | apply below_alloc | apply pw_below_drewN | apply below_drew1 | refine below_set ?_ GE115.out) | exact HB.out)⟩⟩
      case round =>
        clear H'
        try clear c1
        try clear c2
        try clear p2
        try clear c4
        try clear c4b0
        try clear c4b1
        try clear hcz8_0
        try clear hcz8_1
        try clear hfz8_0
        try clear hfz8_1
        obtain ⟨x8_1, rfl, HA, HK1, BK115, HB⟩ := hrel
        cases gk with
        | zero => exact absurd HA.out (by simp [profile_Insert.l0])
        | succ k1 =>
          have H := HA.out
          clear HA
          simp only [profile_Insert.l0] at H
          by_cases c9 : x8_1 < (l0.length : Int)
          · rw [if_pos c9] at H
            have c9b0 : decide (x8_1 < (l0.length : Int)) = true := decide_eq_true c9
            clear c9
            (first | rw [c9b0] | (simp only [i64_w, i32_w]; rw [c9b0]) | skip)
            by_cases c10 : 0 ≤ x8_1
            · rw [if_pos c10] at H
              have c10b0 : decide (0 ≤ x8_1) = true := decide_eq_true c10
              clear c10
              by_cases c11 : ((rd_T30 l0 x8_1).f0) < a1
              · rw [if_pos c11] at H
                have c11b0 : decide (((rd_T30 l0 x8_1).f0) < a1) = true := decide_eq_true c11
                clear c11
                have H' := Aside0.mk H
                clear H
                have p116 : 0 ≤ (x8_1 : Int) := of_decide_eq_true (by first | (with_reducible assumption) | assumption)
                have q116 : x8_1 < (l0.length : Int) := of_decide_eq_true (by first | (with_reducible assumption) | assumption)
                obtain ⟨ad116, e116, hx116_0, hx116_1⟩ := at_T30 HR0.out x8_1 p116 q116
                cases e116
                replace hx116_0 := (HB.out.cell (World.block_lt_of_cell? w _ hx116_0)).trans hx116_0
                replace hx116_1 := (HB.out.cell (World.block_lt_of_cell? w _ hx116_1)).trans hx116_1
                replace p116 := eq_true p116
                replace q116 := eq_true q116
                go_wp2
                go_roundg k1
                case measure => have := HK1.out; omega
                case rel => exact ⟨(wrap64 (x8_1 + 1)), (by first | rfl | (simp; done) | (simp [*]; done)), H', ⟨by have := HK1.out; omega⟩, ⟨by (with_reducible repeat (first | refine blk_drewN ?_ _ | refine blk_drew ?_ | refine blk_alloc ?_ _)); exact BK115.out⟩, ⟨by repeat (first | (with_reducible first | exact HB.out | apply below_alloc | apply pw_below_drewN | apply below_drew1 | refine below_set ?_ GE115.out) | exact HB.out)⟩⟩
              · rw [if_neg c11] at H
                have c11b0 : decide (((rd_T30 l0 x8_1).f0) < a1) = false := decide_eq_false c11
                clear c11
                have H' := Aside0.mk H
                clear H
                have p116 : 0 ≤ (x8_1 : Int) := of_decide_eq_true (by first | (with_reducible assumption) | assumption)
                have q116 : x8_1 < (l0.length : Int) := of_decide_eq_true (by first | (with_reducible assumption) | assumption)
                obtain ⟨ad116, e116, hx116_0, hx116_1⟩ := at_T30 HR0.out x8_1 p116 q116
                cases e116
                replace hx116_0 := (HB.out.cell (World.block_lt_of_cell? w _ hx116_0)).trans hx116_0
                replace hx116_1 := (HB.out.cell (World.block_lt_of_cell? w _ hx116_1)).trans hx116_1
                replace p116 := eq_true p116
                replace q116 := eq_true q116
                go_wp2
                go_meet
                case rel => exact ⟨_, (x8_1), (by first | rfl | (simp; done) | (simp [*]; done)), H', ⟨by have := HK1.out; first | omega | exact Nat.le_refl _⟩, ⟨by (with_reducible repeat (first | refine blk_drewN ?_ _ | refine blk_drew ?_ | refine blk_alloc ?_ _)); exact BK115.out⟩, ⟨by repeat (first | (with_reducible first | exact HB.out | apply below_alloc | apply pw_below_drewN | apply below_drew1 | refine below_set ?_ GE115.out) | exact HB.out)⟩⟩
            · rw [if_neg c10] at H
              exact absurd H (by simp)
          · rw [if_neg c9] at H
            have c9b0 : decide (x8_1 < (l0.length : Int)) = false := decide_eq_false c9
            clear c9
            (first | rw [c9b0] | (simp only [i64_w, i32_w]; rw [c9b0]) | skip)
            have H' := Aside0.mk H
            clear H
            go_wp2
            go_meet
            case rel => exact ⟨_, (x8_1), (by first | rfl | (simp; done) | (simp [*]; done)), H', ⟨by have := HK1.out; first | omega | exact Nat.le_refl _⟩, ⟨by (with_reducible repeat (first | refine blk_drewN ?_ _ | refine blk_drew ?_ | refine blk_alloc ?_ _)); exact BK115.out⟩, ⟨by repeat (first | (with_reducible first | exact HB.out | apply below_alloc | apply pw_below_drewN | apply below_drew1 | refine below_set ?_ GE115.out) | exact HB.out)⟩⟩
    case rest =>
      clear HC5
      try clear c1
      try clear p1
      try clear q1
      try clear hx1
      try clear c2
      try clear p2
      try clear c4
      try clear c4b0
      try clear c4b1
      try clear p6
      try clear c9
      try clear c9b0
      try clear c10
      try clear c10b0
      try clear c11
      try clear c11b0
      try clear p11
      try clear q11
      try clear hx11
      try clear hcz8_0
      try clear hcz8_1
      try clear hfz8_0
      try clear hfz8_1
      try clear hx116_0
      try clear hx116_1
      try clear p116
      try clear p2
      try clear q116
      obtain ⟨kq, x8_4, rfl, HA, HJ4, BK115, HB⟩ := hcut
      cases kq with
      | zero => exact absurd HA.out (by simp [profile_Insert.j1])
      | succ kj4 =>
        have H := HA.out
        clear HA
        simp only [profile_Insert.j1] at H
        have HC12 := Aside0.mk H
        clear H
        go_upto_region 7 with (fail)
        go_cut [33] (fun v33 wc => ∃ (kq : Nat) (x33_11 : Bool), v33 = .bool x33_11 ∧ Aside0 (profile_Insert.j2 kq l0 a1 x8_4 x33_11 t112 t113 = some (r1, r2)) ∧ Aside0 (kq ≤ kj4) ∧ Aside0 (wc.heap[gb115]? = some (.cells #[.int .i64 t112, .int .i64 t113] 32 (0, 0))) ∧ Aside0 (Below w.heap.size w wc))
        case first =>
          have H := HC12.out
          clear HC12
          by_cases c13 : x8_4 < (l0.length : Int)
          · rw [if_pos c13] at H
            have c13b0 : decide (x8_4 < (l0.length : Int)) = true := decide_eq_true c13
            clear c13
            (first | rw [c13b0] | (simp only [i64_w, i32_w]; rw [c13b0]) | skip)
            by_cases c14 : 0 ≤ x8_4
            · rw [if_pos c14] at H
              have c14b0 : decide (0 ≤ x8_4) = true := decide_eq_true c14
              clear c14
              have H' := Aside0.mk H
              clear H
              have p117 : 0 ≤ (x8_4 : Int) := of_decide_eq_true (by first | (with_reducible assumption) | assumption)
              have q117 : x8_4 < (l0.length : Int) := of_decide_eq_true (by first | (with_reducible assumption) | assumption)
              obtain ⟨ad117, e117, hx117_0, hx117_1⟩ := at_T30 HR0.out x8_4 p117 q117
              cases e117
              replace hx117_0 := (HB.out.cell (World.block_lt_of_cell? w _ hx117_0)).trans hx117_0
              replace hx117_1 := (HB.out.cell (World.block_lt_of_cell? w _ hx117_1)).trans hx117_1
              replace p117 := eq_true p117
              replace q117 := eq_true q117
              go_wp2
              go_meet
              case rel => exact ⟨_, ((((rd_T30 l0 x8_4).f0) == a1)), (by first | rfl | (simp; done) | (simp [*]; done)), H', ⟨by have := HJ4.out; first | omega | exact Nat.le_refl _⟩, ⟨by (with_reducible repeat (first | refine blk_drewN ?_ _ | refine blk_drew ?_ | refine blk_alloc ?_ _)); exact BK115.out⟩, ⟨by repeat (first | (with_reducible first | exact HB.out | apply below_alloc | apply pw_below_drewN | apply below_drew1 | refine below_set ?_ GE115.out) | exact HB.out)⟩⟩
            · rw [if_neg c14] at H
              exact absurd H (by simp)
          · rw [if_neg c13] at H
            have c13b0 : decide (x8_4 < (l0.length : Int)) = false := decide_eq_false c13
            clear c13
            (first | rw [c13b0] | (simp only [i64_w, i32_w]; rw [c13b0]) | skip)
            have H' := Aside0.mk H
            clear H
            go_wp2
            go_meet
            case rel => exact ⟨_, (false), (by first | rfl | (simp; done) | (simp [*]; done)), H', ⟨by have := HJ4.out; first | omega | exact Nat.le_refl _⟩, ⟨by (with_reducible repeat (first | refine blk_drewN ?_ _ | refine blk_drew ?_ | refine blk_alloc ?_ _)); exact BK115.out⟩, ⟨by repeat (first | (with_reducible first | exact HB.out | apply below_alloc | apply pw_below_drewN | apply below_drew1 | refine below_set ?_ GE115.out) | exact HB.out)⟩⟩
        case rest =>
          clear HC12
          try clear c1
          try clear p1
          try clear q1
          try clear hx1
          try clear c2
          try clear p2
          try clear c4
          try clear c4b0
          try clear c4b1
          try clear p6
          try clear c9
          try clear c9b0
          try clear c10
          try clear c10b0
          try clear c11
          try clear c11b0
          try clear p11
          try clear q11
          try clear hx11
          try clear c13
          try clear c13b0
          try clear c14
          try clear c14b0
          try clear hcz8_0
          try clear hcz8_1
          try clear hfz8_0
          try clear hfz8_1
          try clear hx116_0
          try clear hx116_1
          try clear hx117_0
          try clear hx117_1
          try clear p1
          try clear p11
          try clear p116
          try clear p117
          try clear p2
          try clear p6
          try clear q1
          try clear q11
          try clear q116
          try clear q117
          obtain ⟨kq, x33_11, rfl, HA, HJ11, BK115, HB⟩ := hcut
          cases kq with
          | zero => exact absurd HA.out (by simp [profile_Insert.j2])
          | succ kj11 =>
            have H := HA.out
            clear HA
            simp only [profile_Insert.j2] at H
            by_cases c15 : x33_11 = true
            · subst c15
              have H1 : (some (([] : List (S30)), 6)) = some (r1, r2) := by rw [if_pos rfl] at H; exact H
              clear H
              have H := H1
              clear H1
              simp only [Option.some.injEq, Prod.mk.injEq] at H
              obtain ⟨rfl, rfl⟩ := H
              go_wp2
              go_ret2
              exact ⟨_, by first | rfl | (simp [errW_none, errW_some] <;> rfl) | (simp [*, errW_none, errW_some] <;> rfl), by first | exact Kd.R_nil _ _ _ _ _ | exact Kd.N_nil _ _ _ _ _ | exact Kd.V_nil _ _ _ _ _ | exact Kd.Q_nil _ _ _ _ _ | exact Kd.S_nil _ _ _ _ _, by repeat (first | (with_reducible first | exact HB.out | apply below_alloc | apply pw_below_drewN | apply below_drew1 | refine below_set ?_ GE115.out) | exact HB.out)⟩
            · replace c15 := Bool.eq_false_iff.mpr c15
              subst c15
              have H1 : (if t112 = t113 then (if (l0.length : Int) = 32 then (some (([] : List (S30)), 12)) else ((some (l0.take (x8_4 : Int).toNat : List (S30))).bind fun y118 => ((some (([(⟨a1, t112⟩ : S30)] : List (S30)) : List (S30))).bind fun y121 => (if y118.length + y121.length < 8796093022208 then ((some (y118 ++ y121 : List (S30))).bind fun y124 => (if 0 ≤ x8_4 then (if x8_4 ≤ (l0.length : Int) then ((some (l0.drop (x8_4 : Int).toNat : List (S30))).bind fun y127 => (if y124.length + y127.length < 8796093022208 then (some ((y124 ++ y127), 0)) else (none))) else (none)) else (none))) else (none))))) else (some (([] : List (S30)), 10))) = some (r1, r2) := by rw [if_neg (show ¬ (false = true) by decide)] at H; exact H
              clear H
              have H := H1
              clear H1
              by_cases c16 : t112 = t113
              · rw [if_pos c16] at H
                have c16b0 : (t112 == t113) = true := beq_iff_eq.mpr c16
                have c16b1 : (t112 != t113) = false := bne_eq_false_iff_eq.mpr c16
                clear c16
                by_cases c17 : (l0.length : Int) = 32
                · rw [if_pos c17] at H
                  have c17b0 : ((l0.length : Int) == 32) = true := beq_iff_eq.mpr c17
                  have c17b1 : ((l0.length : Int) != 32) = false := bne_eq_false_iff_eq.mpr c17
                  clear c17
                  simp only [Option.some.injEq, Prod.mk.injEq] at H
                  obtain ⟨rfl, rfl⟩ := H
                  have hcz18_0 : wc.cell? ⟨gb115, 0, none⟩ = some (.int .i64 t112) := (blk_cell BK115.out 0).trans rfl
                  have hcz18_1 : wc.cell? ⟨gb115, 1, none⟩ = some (.int .i64 t113) := (blk_cell BK115.out 1).trans rfl
                  have hfz18_0 := blk_frozen BK115.out 0
                  have hfz18_1 := blk_frozen BK115.out 1
                  go_wp2
                  go_ret2
                  exact ⟨_, by first | rfl | (simp [errW_none, errW_some] <;> rfl) | (simp [*, errW_none, errW_some] <;> rfl), by first | exact Kd.R_nil _ _ _ _ _ | exact Kd.N_nil _ _ _ _ _ | exact Kd.V_nil _ _ _ _ _ | exact Kd.Q_nil _ _ _ _ _ | exact Kd.S_nil _ _ _ _ _, by repeat (first | (with_reducible first | exact HB.out | apply below_alloc | apply pw_below_drewN | apply below_drew1 | refine below_set ?_ GE115.out) | exact HB.out)⟩
                · rw [if_neg c17] at H
                  have c17b0 : ((l0.length : Int) == 32) = false := beq_eq_false_iff_ne.mpr c17
                  have c17b1 : ((l0.length : Int) != 32) = true := bne_iff_ne.mpr c17
                  obtain ⟨y118, hy118⟩ : ∃ y_ : List (S30), y_ = (l0.take (x8_4 : Int).toNat) := ⟨_, rfl⟩
                  replace H : ((some (([(⟨a1, t112⟩ : S30)] : List (S30)) : List (S30))).bind fun y121 => (if y118.length + y121.length < 8796093022208 then ((some (y118 ++ y121 : List (S30))).bind fun y124 => (if 0 ≤ x8_4 then (if x8_4 ≤ (l0.length : Int) then ((some (l0.drop (x8_4 : Int).toNat : List (S30))).bind fun y127 => (if y124.length + y127.length < 8796093022208 then (some ((y124 ++ y127), 0)) else (none))) else (none)) else (none))) else (none))) = some (r1, r2) := by first | (rw [hy118]; with_reducible exact H) | (have H2_ := (Option.bind_some _ _).symm.trans H; rw [hy118]; with_reducible exact H2_) | (have H2_ := (Option.bind_some _ _).symm.trans H; with_reducible exact H2_) | with_reducible exact H | (rw [hy118]; exact H) | exact H
                  have Ny118 := Aside0.mk hy118
                  clear hy118
                  obtain ⟨y121, hy121⟩ : ∃ y_ : List (S30), y_ = (([(⟨a1, t112⟩ : S30)] : List (S30))) := ⟨_, rfl⟩
                  replace H : (if y118.length + y121.length < 8796093022208 then ((some (y118 ++ y121 : List (S30))).bind fun y124 => (if 0 ≤ x8_4 then (if x8_4 ≤ (l0.length : Int) then ((some (l0.drop (x8_4 : Int).toNat : List (S30))).bind fun y127 => (if y124.length + y127.length < 8796093022208 then (some ((y124 ++ y127), 0)) else (none))) else (none)) else (none))) else (none)) = some (r1, r2) := by first | (rw [hy121]; with_reducible exact H) | (have H2_ := (Option.bind_some _ _).symm.trans H; rw [hy121]; with_reducible exact H2_) | (have H2_ := (Option.bind_some _ _).symm.trans H; with_reducible exact H2_) | with_reducible exact H | (rw [hy121]; exact H) | exact H
                  have Ny121 := Aside0.mk hy121
                  clear hy121
                  by_cases c19 : y118.length + y121.length < 8796093022208
                  · rw [if_pos c19] at H
                    have LMc19 := Aside0.mk c19
                    clear c19
                    obtain ⟨y124, hy124⟩ : ∃ y_ : List (S30), y_ = (y118 ++ y121) := ⟨_, rfl⟩
                    replace H : (if 0 ≤ x8_4 then (if x8_4 ≤ (l0.length : Int) then ((some (l0.drop (x8_4 : Int).toNat : List (S30))).bind fun y127 => (if y124.length + y127.length < 8796093022208 then (some ((y124 ++ y127), 0)) else (none))) else (none)) else (none)) = some (r1, r2) := by first | (rw [hy124]; with_reducible exact H) | (have H2_ := (Option.bind_some _ _).symm.trans H; rw [hy124]; with_reducible exact H2_) | (have H2_ := (Option.bind_some _ _).symm.trans H; with_reducible exact H2_) | with_reducible exact H | (rw [hy124]; exact H) | exact H
                    have Ny124 := Aside0.mk hy124
                    clear hy124
                    by_cases c20 : 0 ≤ x8_4
                    · rw [if_pos c20] at H
                      have c20b0 := eq_true c20
                      have c20b1 : decide (0 ≤ x8_4) = true := decide_eq_true c20
                      clear c20
                      by_cases c21 : x8_4 ≤ (l0.length : Int)
                      · rw [if_pos c21] at H
                        have c21b0 := eq_true c21
                        have c21b1 : decide (x8_4 ≤ (l0.length : Int)) = true := decide_eq_true c21
                        clear c21
                        obtain ⟨y127, hy127⟩ : ∃ y_ : List (S30), y_ = (l0.drop (x8_4 : Int).toNat) := ⟨_, rfl⟩
                        replace H : (if y124.length + y127.length < 8796093022208 then (some ((y124 ++ y127), 0)) else (none)) = some (r1, r2) := by first | (rw [hy127]; with_reducible exact H) | (have H2_ := (Option.bind_some _ _).symm.trans H; rw [hy127]; with_reducible exact H2_) | (have H2_ := (Option.bind_some _ _).symm.trans H; with_reducible exact H2_) | with_reducible exact H | (rw [hy127]; exact H) | exact H
                        have Ny127 := Aside0.mk hy127
                        clear hy127
                        by_cases c22 : y124.length + y127.length < 8796093022208
                        · rw [if_pos c22] at H
                          have LMc22 := Aside0.mk c22
                          clear c22
                          obtain ⟨y131, hy131⟩ : ∃ y_ : List (S30), y_ = (y124 ++ y127) := ⟨_, rfl⟩
                          replace H : (some (y131, 0)) = some (r1, r2) := by first | (rw [hy131]; with_reducible exact H) | (have H2_ := (Option.bind_some _ _).symm.trans H; rw [hy131]; with_reducible exact H2_) | (have H2_ := (Option.bind_some _ _).symm.trans H; with_reducible exact H2_) | with_reducible exact H | (rw [hy131]; exact H) | exact H
                          have Ny131 := Aside0.mk hy131
                          clear hy131
                          simp only [Option.some.injEq, Prod.mk.injEq] at H
                          obtain ⟨rfl, rfl⟩ := H
                          have hcz23_0 : wc.cell? ⟨gb115, 0, none⟩ = some (.int .i64 t112) := (blk_cell BK115.out 0).trans rfl
                          have hcz23_1 : wc.cell? ⟨gb115, 1, none⟩ = some (.int .i64 t113) := (blk_cell BK115.out 1).trans rfl
                          have hfz23_0 := blk_frozen BK115.out 0
                          have hfz23_1 := blk_frozen BK115.out 1
                          try go_wp2
                          have n0_ := Aside0.mk (blk_drew BK115.out)
                          have n1_ := Aside0.mk (below_drew1 HB.out)
                          clear BK115
                          clear HB
                          have BK115 := n0_
                          have HB := n1_
                          clear n0_ n1_
                          have q25 : (x8_4 : Int) ≤ ((l0.length : Int) : Int) := of_decide_eq_true (by first | (with_reducible assumption) | assumption)
                          obtain ⟨i025, hi025, _, hsz25, _⟩ := info_parts info30
                          have hroom25 : l0.length ≤ c0 := HC0.out
                          have hC25 : Kd.C k30 _ (some ad0) l0.length l0 := HR0.out
                          have q025 : (0 : Int) ≤ (x8_4 : Int) := of_decide_eq_true (by first | (with_reducible assumption) | assumption)
                          have hcut25 := cut_from (P := Try.prog) 22 30 .i64 Try.underlying22 hi025 2 hsz25 (some ad0) l0.length c0 x8_4 q025 q25
                          have hr25 := Kd.C_drop (m := (x8_4 : Int).toNat) (c := c0) hC25 (by omega) hroom25
                          obtain ⟨A25, hA25⟩ : ∃ A1, A1 = (if c0 = (x8_4 : Int).toNat then (some ad0) else ((some ad0) : Option Addr).map (·.add ((x8_4 : Int).toNat * 2))) := ⟨_, rfl⟩
                          obtain ⟨c25, hc25⟩ : ∃ c1, c1 = c0 - (x8_4 : Int).toNat := ⟨_, rfl⟩
                          have hy25 : y127.length = l0.length - (x8_4 : Int).toNat := (by rw [Ny127.out, List.length_drop] <;> omega)
                          rw [show (l0).drop (x8_4 : Int).toNat = y127 from Ny127.out.symm] at hr25
                          replace hr25 : Kd.C k30 _ A25 y127.length y127 := (by rw [hA25]; exact hr25)
                          rw [← hy25, ← hA25, ← hc25] at hcut25
                          have HR130 := Aside0.mk hr25
                          have HC130 := Aside0.mk (show y127.length ≤ c25 from by rw [hy25, hc25]; exact Nat.sub_le_sub_right hroom25 _)
                          clear hr25 hC25 hroom25 hi025 hsz25 hc25
                          have KY25 := Aside0.mk hy25
                          have KA25 := Aside0.mk hA25
                          clear hy25 hA25
                          replace q25 := eq_true q25
                          refine start_ (n := 16) (S := fun w' => w'.cell? ⟨gb115, 0, none⟩ = some (.int .i64 t112) ∧ w'.cell? ⟨gb115, 1, none⟩ = some (.int .i64 t113)) (ds := []) #[false, false, false, false, false, false, false, false, false, false, false, false, false, false, false, false] (by kernel_rfl) rfl rfl ⟨(blk_cell BK115.out 0).trans rfl, (blk_cell BK115.out 1).trans rfl⟩ (fun hHeld => ?_); refine with_tabW profile_Insert.tab13 profile_Insert.bits13 (fun HT_ HW_ => ?_)
                          generalize wc.drew = w24 at BK115 HB HR130 hHeld ⊢
                          refine pure_ (i := 0) (N := some 57) (v := ?_) (a' := ?_) #[true, false, false, false, false, false, false, false, false, false, false, false, false, false, false, false] rfl rfl (any_of HT_.out (by kernel_rfl)) (fun _ _ _ h => h) (Or.inl ⟨by rfl, ?_⟩) ?_ ?_
                          rotate_left
                          · intro w'
                            go_simp
                            with_reducible rfl
                          rotate_left
                          · simp only [Act.put, List.setIfInBounds_toArray, List.set_cons_zero, List.set_cons_succ, i64_w, i32_w]
                            rfl
                          refine pure_ (i := 1) (N := some 58) (v := ?_) (a' := ?_) #[true, true, false, false, false, false, false, false, false, false, false, false, false, false, false, false] rfl rfl (any_of HT_.out (by kernel_rfl)) (fun _ _ _ h => h) (Or.inl ⟨by rfl, ?_⟩) ?_ ?_
                          rotate_left
                          · intro w'
                            go_simp
                            with_reducible rfl
                          rotate_left
                          · simp only [Act.put, List.setIfInBounds_toArray, List.set_cons_zero, List.set_cons_succ, i64_w, i32_w]
                            rfl
                          refine pure_ (i := 2) (N := some 59) (v := ?_) (a' := ?_) #[true, true, true, false, false, false, false, false, false, false, false, false, false, false, false, false] rfl rfl (any_of HT_.out (by kernel_rfl)) (fun _ _ _ h => h) (Or.inl ⟨by rfl, ?_⟩) ?_ ?_
                          rotate_left
                          · intro w'
                            go_simp
                            with_reducible rfl
                          rotate_left
                          · simp only [Act.put, List.setIfInBounds_toArray, List.set_cons_zero, List.set_cons_succ, i64_w, i32_w]
                            rfl
                          refine pure_ (i := 4) (N := some 61) (v := ?_) (a' := ?_) #[true, true, true, false, true, false, false, false, false, false, false, false, false, false, false, false] rfl rfl (any_of HT_.out (by kernel_rfl)) (fun _ _ _ h => h) (Or.inl ⟨by rfl, ?_⟩) ?_ ?_
                          rotate_left
                          · intro w'
                            go_simp
                            with_reducible rfl
                          rotate_left
                          · simp only [Act.put, List.setIfInBounds_toArray, List.set_cons_zero, List.set_cons_succ, i64_w, i32_w]
                            rfl
                          refine pure_ (i := 5) (N := some 62) (v := ?_) (a' := ?_) #[true, true, true, false, true, true, false, false, false, false, false, false, false, false, false, false] rfl rfl (any_of HT_.out (by kernel_rfl)) (fun _ _ _ h => h) (Or.inl ⟨by rfl, ?_⟩) ?_ ?_
                          rotate_left
                          · intro w'
                            go_simp
                            with_reducible rfl
                          rotate_left
                          · simp only [Act.put, List.setIfInBounds_toArray, List.set_cons_zero, List.set_cons_succ, i64_w, i32_w]
                            rfl
                          refine pure_ (i := 10) (N := some 67) (v := ?_) (a' := ?_) #[true, true, true, false, true, true, false, false, false, false, true, false, false, false, false, false] rfl rfl (any_of HT_.out (by kernel_rfl)) (fun _ _ _ h => h) (Or.inl ⟨by rfl, ?_⟩) ?_ ?_
                          rotate_left
                          · intro w'
                            go_simp
                            with_reducible rfl
                          rotate_left
                          · simp only [Act.put, List.setIfInBounds_toArray, List.set_cons_zero, List.set_cons_succ, i64_w, i32_w]
                            rfl
                          refine pure_ (i := 11) (N := some 68) (v := ?_) (a' := ?_) #[true, true, true, false, true, true, false, false, false, false, true, true, false, false, false, false] rfl rfl (any_of HT_.out (by kernel_rfl)) (fun _ _ _ h => h) (Or.inl ⟨by rfl, ?_⟩) ?_ ?_
                          rotate_left
                          · intro w'
                            go_simp
                            with_reducible rfl
                          rotate_left
                          · simp only [Act.put, List.setIfInBounds_toArray, List.set_cons_zero, List.set_cons_succ, i64_w, i32_w]
                            rfl
                          refine pure_ (i := 12) (N := some 69) (v := ?_) (a' := ?_) #[true, true, true, false, true, true, false, false, false, false, true, true, true, false, false, false] rfl rfl (any_of HT_.out (by kernel_rfl)) (fun _ _ _ h => h) (Or.inl ⟨by rfl, ?_⟩) ?_ ?_
                          rotate_left
                          · intro w'
                            go_simp
                            with_reducible rfl
                          rotate_left
                          · simp only [Act.put, List.setIfInBounds_toArray, List.set_cons_zero, List.set_cons_succ, i64_w, i32_w]
                            rfl
                          refine take_ (i := 6) (N := some 63) (v := ?_) (a' := ?_) #[true, true, true, false, true, true, true, false, false, false, true, true, true, false, false, false] rfl rfl (take_ofW HT_.out HW_.out (by kernel_rfl)) (fun _ _ _ h => h) (Or.inl ⟨by rfl, ?_⟩) hHeld ?_ ?_
                          rotate_left
                          · rintro w' ⟨s0, s1⟩
                            go_simp
                            with_reducible rfl
                          rotate_left
                          · simp only [Act.put, List.setIfInBounds_toArray, List.set_cons_zero, List.set_cons_succ, i64_w, i32_w]
                            rfl
                          refine pure_ (i := 7) (N := some 64) (v := ?_) (a' := ?_) #[true, true, true, false, true, true, true, true, false, false, true, true, true, false, false, false] rfl rfl (any_of HT_.out (by kernel_rfl)) (fun _ _ _ h => h) (Or.inl ⟨by rfl, ?_⟩) ?_ ?_
                          rotate_left
                          · intro w'
                            go_simp
                            with_reducible rfl
                          rotate_left
                          · simp only [Act.put, List.setIfInBounds_toArray, List.set_cons_zero, List.set_cons_succ, i64_w, i32_w]
                            rfl
                          have q26 : (x8_4 : Int) ≤ (l0.length : Int) := of_decide_eq_true (by first | (with_reducible assumption) | assumption)
                          have q026 : (0 : Int) ≤ (x8_4 : Int) := of_decide_eq_true (by first | (with_reducible assumption) | assumption)
                          have hcc0 := HC0.out
                          have q27 : (x8_4 : Int) ≤ (c0 : Int) := by omega
                          refine pure_ (i := 3) (N := some 60) (v := ?_) (a' := ?_) #[true, true, true, true, true, true, true, true, false, false, true, true, true, false, false, false] rfl rfl (any_of HT_.out (by kernel_rfl)) (fun _ _ _ h => h) (Or.inl ⟨by rfl, ?_⟩) ?_ ?_
                          rotate_left
                          · intro w'
                            go_simp
                            with_reducible rfl
                          rotate_left
                          · simp only [Act.put, List.setIfInBounds_toArray, List.set_cons_zero, List.set_cons_succ, i64_w, i32_w]
                            rfl
                          refine one_ (i := 8) (N := some 65) #[true, true, true, true, true, true, true, true, true, false, true, true, true, false, false, false] rfl rfl (one_of HT_.out (by kernel_rfl)) (by decide) (fun K hK => ?_)
                          refine Kd.R_lit_step k30 _ 30 ?hg (N := 65) ?hd (xs := ([(⟨a1, t112⟩ : S30)] : List (S30))) (inner := [.int .i64 a1, .int .i64 t112]) (ok := fun _ => True) (okp := fun _ => True) ?hr ?hp (fun _ hk => hk) trivial (Below.refl _ _) (Nat.le_refl _) (by simp) ?_; (case hd => rfl); (case hg => rfl); (case hr => first | (go_simp; done) | (go_simp; rfl)); (case hp => exact (Reps.c2 (show Kd.M k30 _ _ _ (⟨a1, t112⟩ : S30) [.int .i64 a1, .int .i64 t112] from (k30_mkM _ _ _ (⟨a1, t112⟩ : S30) )) (Reps.none _ _)))
                          intro v122 w26 ho27 hb hg_ hnew_
                          clear hg_ hnew_
                          (first | rw [← Ny121.out] at ho27 | (simp only [Int.reduceToNat] at ho27; rw [← Ny121.out] at ho27))
                          have n0_ := Aside0.mk (Kd.R_lower ho27 (below_size (by repeat (first | (with_reducible first | exact HB.out | apply below_alloc | apply pw_below_drewN | apply below_drew1 | refine below_set ?_ GE115.out) | exact HB.out))))
                          have n1_ := Aside0.mk (blk_below (g := gb115) (o := .cells #[.int .i64 t112, .int .i64 t113] 32 (0, 0)) (by (with_reducible repeat (first | refine blk_drewN ?_ _ | refine blk_drew ?_ | refine blk_alloc ?_ _)); exact BK115.out) hb)
                          have n2_ := Aside0.mk (below_step (by repeat (first | (with_reducible first | exact HB.out | apply below_alloc | apply pw_below_drewN | apply below_drew1 | refine below_set ?_ GE115.out) | exact HB.out)) hb)
                          clear BK115
                          clear HB
                          have HO123 := n0_
                          have BK115 := n1_
                          have HB := n2_
                          clear n0_ n1_ n2_
                          clear hb ho27
                          refine hK.out _ _ ⟨(blk_cell BK115.out 0).trans rfl, (blk_cell BK115.out 1).trans rfl⟩ (fun hHeld => ?_)
                          clear hK K
                          refine norm_ (a' := ?_) ?_ ?_
                          rotate_left
                          · show Act.put _ (some 65) _ = _
                            simp only [Act.put, List.setIfInBounds_toArray, List.set_cons_zero, List.set_cons_succ, i64_w, i32_w]
                            rfl
                          obtain ⟨Ao32, co32, eo32⟩ := Kd.R_slice HO123.out
                          (first | subst eo32 | (injection eo32 with f1_ f2_ f3_; have f4_ := f1_.symm; have f5_ := f3_.symm; clear f1_ f2_ f3_; subst f4_; subst f5_))
                          have hl121 : y121.length = 1 := by rw [Ny121.out]; rfl
                          obtain ⟨adP, eP_⟩ : ∃ adP, Ao32 = some adP := by obtain ⟨ad_, e_, _⟩ := (Kd.R_reads' HO123.out).2.2.2.2 (by omega); exact ⟨ad_, e_⟩
                          subst eP_
                          refine one_ (i := 9) (N := some 66) #[true, true, true, true, true, true, true, true, true, true, true, true, true, false, false, false] rfl rfl (one_of HT_.out (by kernel_rfl)) (by decide) (fun K hK => ?_)
                          refine grow30_step (w0 := w) w.heap.size (by rfl) (.tmp 60) (.tmp 65) rfl ad0 (x8_4 : Int).toNat (x8_4 : Int).toNat adP y121.length co32 y118 y121 rfl rfl (by rw [Ny118.out]; exact take30 (Kd.C_below HR0.out HB.out) (by omega)) (Kd.R_reads' HO123.out).2.2 (by omega) (by have := LMc19.out; rw [Ny118.out, List.length_take] at this; omega) HB.out HB.out.size (fun k_ => some k_ ≠ (.slice (some adP) y121.length co32 : Value).ownBlock) (fun k_ hk => Kd.fresh' (Kd.R_lt HO123.out) k_ hk) ?_
                          intro v125 w31 ho hb hg hat
                          rw [← Ny124.out] at ho
                          have n0_ := Aside0.mk (blk_grown (g := gb115) (o := .cells #[.int .i64 t112, .int .i64 t113] 32 (0, 0)) (by (with_reducible repeat (first | refine blk_drewN ?_ _ | refine blk_drew ?_ | refine blk_alloc ?_ _)); exact BK115.out) hg (by simp))
                          have n1_ := Aside0.mk (Kd.R_mono (Kd.R_move (Kd.R_bound HO123.out) (fun k_ hk => hg.block k_ hk.2.2.1 (by simp))) (fun k_ hk => ⟨trivial, fun e_ => by obtain ⟨g_, hg1_, hg2_⟩ := hat; rw [hg1_] at e_; cases e_; exact absurd hk.2.2.1 (Nat.not_lt.2 hg2_)⟩) : Kd.R k30 30 w31 w.heap.size (fun k_ => True ∧ some k_ ≠ v125.ownBlock) (.slice (some adP) y121.length co32) y121)
                          have n2_ := Aside0.mk (hb)
                          have n3_ := Aside0.mk (ho)
                          clear BK115
                          clear HO123
                          clear HB
                          skip
                          have BK115 := n0_
                          have HO123 := n1_
                          have HB := n2_
                          have HO126 := n3_
                          clear n0_ n1_ n2_ n3_
                          clear ho hb hg hat
                          refine hK.out _ _ ⟨(blk_cell BK115.out 0).trans rfl, (blk_cell BK115.out 1).trans rfl⟩ (fun hHeld => ?_)
                          clear hK K
                          refine norm_ (a' := ?_) ?_ ?_
                          rotate_left
                          · show Act.put _ (some 66) _ = _
                            simp only [Act.put, List.setIfInBounds_toArray, List.set_cons_zero, List.set_cons_succ, i64_w, i32_w]
                            rfl
                          refine one_ (i := 13) (N := some 70) #[true, true, true, true, true, true, true, true, true, true, true, true, true, true, false, false] rfl rfl (one_of HT_.out (by kernel_rfl)) (by decide) (fun K hK => ?_)
                          refine Kd.R_append_rows_step k30 (w0 := w) w.heap.size (by rfl) (.tmp 66) (.tmp 69) 22 30 (.agg #[(.int .i64 0), (.int .i64 0)]) 16 rfl Try.underlying22 info30 rfl (by decide) (by omega) v125 y124 y127 _ _ _ (fun k_ => some k_ ≠ (.slice (some adP) y121.length co32 : Value).ownBlock) (fun _ => False) rfl rfl ?aO ?aR (fun _ _ h => h) (fun _ h => h.elim) ?aF ?aB ?aS ?aL ?_
                          (case aR => repeat (first | exact (Kd.C_below HR130.out HB.out) | (with_reducible refine Kd.C_alloc ?_ _) | (with_reducible refine Kd.C_drewN ?_ _) | (with_reducible refine Kd.C_drew ?_)))
                          (case aB => exact (by repeat (first | (with_reducible first | exact HB.out | apply below_alloc | apply pw_below_drewN | apply below_drew1 | refine below_set ?_ GE115.out) | exact HB.out)))
                          (case aF => exact (fun k_ hk => Kd.fresh' (Kd.R_lt (by (with_reducible repeat (first | apply Kd.R_alloc | apply Kd.R_drewN | apply Kd.R_drew)); exact HO123.out)) k_ hk))
                          (case aO => exact (by (with_reducible repeat (first | apply Kd.R_alloc | apply Kd.R_drewN | apply Kd.R_drew)); exact HO126.out))
                          (case aS => exact (below_size (by repeat (first | (with_reducible first | exact HB.out | apply below_alloc | apply pw_below_drewN | apply below_drew1 | refine below_set ?_ GE115.out) | exact HB.out))))
                          (case aL => have := LMc22.out; omega)
                          intro v132 w33 ho hb hg hat
                          rw [← Ny131.out] at ho
                          have n0_ := Aside0.mk (blk_grown (g := gb115) (o := .cells #[.int .i64 t112, .int .i64 t113] 32 (0, 0)) (by (with_reducible repeat (first | refine blk_drewN ?_ _ | refine blk_drew ?_ | refine blk_alloc ?_ _)); exact BK115.out) hg (Kd.R_ne HO126.out BK115.out (by decide)))
                          have n1_ := Aside0.mk (Kd.R_after (ok := (fun _ => True)) (by (with_reducible repeat (first | apply Kd.R_alloc | apply Kd.R_drewN | apply Kd.R_drew)); exact HO123.out) hg hat)
                          have n2_ := Aside0.mk (hb)
                          have n3_ := Aside0.mk (ho)
                          clear BK115
                          clear HO123
                          clear HB
                          clear HO126
                          have BK115 := n0_
                          have HO123 := n1_
                          have HB := n2_
                          have HO133 := n3_
                          clear n0_ n1_ n2_ n3_
                          clear ho hb hg hat
                          refine hK.out _ _ ⟨(blk_cell BK115.out 0).trans rfl, (blk_cell BK115.out 1).trans rfl⟩ (fun hHeld => ?_)
                          clear hK K
                          refine norm_ (a' := ?_) ?_ ?_
                          rotate_left
                          · show Act.put _ (some 70) _ = _
                            simp only [Act.put, List.setIfInBounds_toArray, List.set_cons_zero, List.set_cons_succ, i64_w, i32_w]
                            rfl
                          refine pure_ (i := 14) (N := some 4) (v := ?_) (a' := ?_) #[true, true, true, true, true, true, true, true, true, true, true, true, true, true, true, false] rfl rfl (any_of HT_.out (by kernel_rfl)) (fun _ _ _ h => h) (Or.inl ⟨by rfl, ?_⟩) ?_ ?_
                          rotate_left
                          · intro w'
                            go_simp
                            with_reducible rfl
                          rotate_left
                          · simp only [Act.put, List.setIfInBounds_toArray, List.set_cons_zero, List.set_cons_succ, i64_w, i32_w]
                            rfl
                          refine pure_ (i := 15) (N := some 5) (v := ?_) (a' := ?_) #[true, true, true, true, true, true, true, true, true, true, true, true, true, true, true, true] rfl rfl (any_of HT_.out (by kernel_rfl)) (fun _ _ _ h => h) (Or.inl ⟨by rfl, ?_⟩) ?_ ?_
                          rotate_left
                          · intro w'
                            go_simp
                            with_reducible rfl
                          rotate_left
                          · simp only [Act.put, List.setIfInBounds_toArray, List.set_cons_zero, List.set_cons_succ, i64_w, i32_w]
                            rfl
                          refine done_ (done_of HT_.out (by kernel_rfl)) ?_
                          try go_wp2
                          go_ret2
                          exact ⟨_, by first | rfl | (simp [errW_none, errW_some] <;> rfl) | (simp [*, errW_none, errW_some] <;> rfl), by (with_reducible repeat (first | apply Kd.R_alloc | apply Kd.R_drewN | apply Kd.R_drew)); exact Kd.R_mono HO133.out (fun _ hk => trivial), by repeat (first | (with_reducible first | exact HB.out | apply below_alloc | apply pw_below_drewN | apply below_drew1 | refine below_set ?_ GE115.out) | exact HB.out)⟩
                        · rw [if_neg c22] at H
                          exact absurd H (by simp)
                      · rw [if_neg c21] at H
                        exact absurd H (by simp)
                    · rw [if_neg c20] at H
                      exact absurd H (by simp)
                  · rw [if_neg c19] at H
                    exact absurd H (by simp)
              · rw [if_neg c16] at H
                have c16b0 : (t112 == t113) = false := beq_eq_false_iff_ne.mpr c16
                have c16b1 : (t112 != t113) = true := bne_iff_ne.mpr c16
                simp only [Option.some.injEq, Prod.mk.injEq] at H
                obtain ⟨rfl, rfl⟩ := H
                have hcz34_0 : wc.cell? ⟨gb115, 0, none⟩ = some (.int .i64 t112) := (blk_cell BK115.out 0).trans rfl
                have hcz34_1 : wc.cell? ⟨gb115, 1, none⟩ = some (.int .i64 t113) := (blk_cell BK115.out 1).trans rfl
                have hfz34_0 := blk_frozen BK115.out 0
                have hfz34_1 := blk_frozen BK115.out 1
                go_wp2
                go_ret2
                exact ⟨_, by first | rfl | (simp [errW_none, errW_some] <;> rfl) | (simp [*, errW_none, errW_some] <;> rfl), by first | exact Kd.R_nil _ _ _ _ _ | exact Kd.N_nil _ _ _ _ _ | exact Kd.V_nil _ _ _ _ _ | exact Kd.Q_nil _ _ _ _ _ | exact Kd.S_nil _ _ _ _ _, by repeat (first | (with_reducible first | exact HB.out | apply below_alloc | apply pw_below_drewN | apply below_drew1 | refine below_set ?_ GE115.out) | exact HB.out)⟩
  · rw [if_neg c4] at H
    have c4b0 : (t114 == 0) = false := beq_eq_false_iff_ne.mpr c4
    have c4b1 : (t114 != 0) = true := bne_iff_ne.mpr c4
    simp only [Option.some.injEq, Prod.mk.injEq] at H
    obtain ⟨rfl, rfl⟩ := H
    go_enter Try.func16, Try.ntmps16
    go_wp2_with (first | ((with_reducible refine gate_callee (f := 36) rfl ?_); refine goesL_ (some 12) rfl rfl Try.func36 (by kernel_rfl) rfl #[.slice A0 l0.length c0, .int .i64 a1] rfl (by (try simp only [List.map_toArray, List.map_cons, List.map_nil]); first | done | rfl | (simp only [List.length_drop, List.length_take]; rfl)) ?_; (with_reducible refine (profile_At.calls _ _ l0 a1 t112 t113 t114 _ ?side1 ?side2 A3.out).mono ?_); (case side1 => repeat (first | exact HR0.out | (with_reducible refine Kd.C_alloc ?_ _) | (with_reducible refine Kd.C_drewN ?_ _) | (with_reducible refine Kd.C_drew ?_))); (case side2 => exact HC0.out); rintro e w35 ⟨rfl, hb⟩; refine ⟨_, rfl, ?_⟩; have n0_ := Aside0.mk (below_step (by repeat (first | (with_reducible first | exact HB.out | apply below_alloc | apply pw_below_drewN | apply below_drew1) | exact HB.out)) hb); clear HB; have HB := n0_; clear n0_; (try clear hb); (try clear hb2); (try clear hk); (try clear hi)) | ((with_reducible refine gate_dst (N := 6) rfl ?_); refine box_event ?hg (N := 6) ?hd (cs := #[.int .i64 0, .int .i64 0]) (t := 32) ?hr ?_; (case hd => rfl); (case hg => rfl); (case hr => first | (go_simp; done) | (go_simp; rfl)); intro gb115 hg w36 hbox hb; have n0_ := Aside0.mk (below_step (by repeat (first | (with_reducible first | exact HB.out | apply below_alloc | apply pw_below_drewN | apply below_drew1) | exact HB.out)) hb); have n1_ := Aside0.mk (hbox); have n2_ := Aside0.mk ((by rw [hg]; exact (below_size (by repeat (first | (with_reducible first | exact HB.out | apply below_alloc | apply pw_below_drewN | apply below_drew1) | exact HB.out))) : w.heap.size ≤ gb115)); have n3_ := Aside0.mk ((by rw [hg]; exact (below_size (by repeat (first | (with_reducible first | exact HB.out | apply below_alloc | apply pw_below_drewN | apply below_drew1) | exact HB.out))) : w.heap.size ≤ gb115)); clear HB; have HB := n0_; have BK115 := n1_; have GW115 := n2_; have GE115 := n3_; clear n0_ n1_ n2_ n3_; clear hb hbox hg; have hcz37_0 : w36.cell? ⟨gb115, 0, none⟩ = some (.int .i64 0) := (blk_cell BK115.out 0).trans rfl; have hcz37_1 : w36.cell? ⟨gb115, 1, none⟩ = some (.int .i64 0) := (blk_cell BK115.out 1).trans rfl; have hfz37_0 := blk_frozen BK115.out 0; have hfz37_1 := blk_frozen BK115.out 1))
    go_ret2
    exact ⟨_, by first | rfl | (simp [errW_none, errW_some] <;> rfl) | (simp [*, errW_none, errW_some] <;> rfl), by first | exact Kd.R_nil _ _ _ _ _ | exact Kd.N_nil _ _ _ _ _ | exact Kd.V_nil _ _ _ _ _ | exact Kd.Q_nil _ _ _ _ _ | exact Kd.S_nil _ _ _ _ _, by repeat (first | (with_reducible first | exact HB.out | apply below_alloc | apply pw_below_drewN | apply below_drew1 | refine below_set ?_ GE115.out) | exact HB.out)⟩

end Go.Proofs.Ytcbmmhedefigeaa.X
