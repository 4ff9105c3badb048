import Derived.Test.YthbkbokfngbocaaXx0
import Derived.Lib.Hide
import Derived.Test.YthbkbokfngbocaaIt
/-! segment.Check: what it comes to, and the walk. -/
namespace Go.Proofs.Ythbkbokfngbocaa.X
set_option linter.unusedVariables false
set_option linter.unusedSimpArgs false
open Go.RowKit Go.Shelf Go.Proofs.YthbkbokfngbocaaW.PrintWords Go.Proofs.YthbkbokfngbocaaW.PrintLast
open Go.Proofs.Ythbkbokfngbocaa.It
attribute [local go_sem] Oper.semAt_some

theorem lt_of_cell {w : World} {x : Addr} {v : Value} (h : w.cell? x = some v) : x.block < w.heap.size := by
  false_or_by_contra
  rename_i hn
  have : w.heap[x.block]? = none := by simp; omega
  unfold World.cell? at h
  rw [this] at h
  simp at h

/-- what is read, as the iterator's contract wants it -/
theorem holds_of_reads {w : World} {A : Option Addr} {zs : List Int} (h : Kd.C (Kd.int .i64) w A zs.length zs) : Holds w.heap.size w A zs := by
  cases zs with
  | nil => exact .inl rfl
  | cons z zs =>
    obtain ⟨_, _, h3⟩ := h
    obtain ⟨ad, e, hc⟩ := h3 (by simp)
    have key : ∀ j, j < (z :: zs).length → w.cell? (ad.add j) = some (.int .i64 ((z :: zs)[j]?.getD 0)) := by
      intro j hj
      have hj' : (z :: zs)[j]? = some ((z :: zs)[j]?.getD 0) := by rw [List.getElem?_eq_getElem hj]; rfl
      obtain ⟨c, hl, hr, hu⟩ := hc j _ hj'
      have hr' : c = [.int .i64 ((z :: zs)[j]?.getD 0)] := hr
      subst hr'
      have := hu 0 _ rfl
      simpa [Kd.int, Kd.scalar] using this
    refine .inr ⟨ad, e, ?_, key⟩
    have := lt_of_cell (key 0 (by simp))
    rwa [It.add_block] at this

def inRange (h : Int) : Bool := decide (0 ≤ h ∧ h ≤ 200000)
def rising (p : Int × Int) : Bool := decide (p.1 ≤ p.2)
structure Fell (pre : List (Int × Int)) : Prop where
  out : pre.all rising = false
theorem Fell.of (pre : List (Int × Int)) (x : Int × Int) (h : rising x = false) : Fell (pre ++ [x]) := ⟨by simp [h]⟩
def segment_Check.f (l0 : List Int) : Option Int :=
  if l0.length < 2 then some 9 else if 65 < l0.length then some 8 else if l0.all inRange = true then (if (upto (nb l0) (l0.length - 1)).all rising = true then some 0 else some 5) else some 2

theorem all_snoc {α : Type} (p : α → Bool) (l : List α) (x : α) : (l ++ [x]).all p = (l.all p && p x) := by simp

theorem upto_get {α : Type} (f : Nat → α) {k j : Nat} (h : j < k) : f j ∈ upto f k := by
  unfold upto
  exact List.mem_map.2 ⟨j, List.mem_range.2 h, rfl⟩
theorem all_upto_false {α : Type} {f : Nat → α} {p : α → Bool} {k j : Nat} (h : j < k) (hp : p (f j) = false) : (upto f k).all p = false := by
  rw [Bool.eq_false_iff]
  intro hc
  have := List.all_eq_true.1 hc _ (upto_get f h)
  rw [hp] at this; cases this

theorem all_upto_mono {α : Type} {f : Nat → α} {p : α → Bool} {k m : Nat} (h : k ≤ m) (hp : (upto f k).all p = false) : (upto f m).all p = false := by
  rw [Bool.eq_false_iff] at hp ⊢
  intro hc
  apply hp
  rw [List.all_eq_true] at hc ⊢
  intro x hx
  unfold upto at hx
  obtain ⟨j, hj, rfl⟩ := List.mem_map.1 hx
  exact hc _ (upto_get f (by have := List.mem_range.1 hj; omega))

theorem rangeOk_fail {l : List Int} {k : Nat} (hk : k < l.length) (h : inRange (l[k]?.getD 0) = false) : l.all inRange = false := by
  rw [Bool.eq_false_iff]
  intro hc
  rw [List.getElem?_eq_getElem hk] at h
  have := List.all_eq_true.1 hc _ (List.getElem_mem hk)
  rw [Option.getD_some] at h
  rw [h] at this; cases this
theorem rangeOk_all {l : List Int} (h : ∀ j, j < l.length → inRange (l[j]?.getD 0) = true) : l.all inRange = true := by
  rw [List.all_eq_true]
  intro x hx
  obtain ⟨j, hj, rfl⟩ := List.mem_iff_getElem.1 hx
  have := h j hj
  rwa [List.getElem?_eq_getElem hj, Option.getD_some] at this

set_option maxRecDepth 100000 in
set_option maxHeartbeats 400000 in
theorem segment_Check.calls (A0 : Option Addr) (c0 : Nat) (l0 : List Int) (r : Int) (w : World) (hr0 : Kd.C (Kd.int .i64) w A0 l0.length l0) (hc0 : l0.length ≤ c0) (h : segment_Check.f l0 = some r) :
    Calls Try.prog 18 #[.slice A0 l0.length c0] w fun e w' => e = .returned (.int .i64 r) ∧ Below w.heap.size w w' := by
  have hI := holds_of_reads hr0
  clear hr0
  refine (callsIn_wide (n := 5)).1 ?_
  refine callsIn_of_wp_marks Try.func18 rfl trivial ?_
  simp only [Try.ntmps18, List.size_toArray, List.length_cons, List.length_nil, Nat.reduceAdd, Nat.reduceSub, Array.replicate_succ, Array.replicate_zero, List.push_toArray, List.append_toArray, List.nil_append, List.cons_append]
  unfold segment_Check.f at h
  by_cases h2 : l0.length < 2
  · rw [if_pos h2] at h
    obtain rfl := Option.some.inj h
    have hd : decide ((l0.length : Int) < 2) = true := decide_eq_true (by omega)
    gi_wp2
    exact ⟨.int .i64 9, by simp [results, Try.f18, go_sem], rfl, (Below.refl _ w).alloc (Nat.le_refl _) _⟩
  · rw [if_neg h2] at h
    have hd : decide ((l0.length : Int) < 2) = false := decide_eq_false (by omega)
    by_cases h65 : 65 < l0.length
    · rw [if_pos h65] at h
      obtain rfl := Option.some.inj h
      have hd : decide (65 < (l0.length : Int)) = true := decide_eq_true (by omega)
      gi_wp2
      exact ⟨.int .i64 8, by simp [results, Try.f18, go_sem], rfl, (Below.refl _ w).alloc (Nat.le_refl _) _⟩
    · rw [if_neg h65] at h
      have hd2 : decide (65 < (l0.length : Int)) = false := decide_eq_false (by omega)
      have HH := Lib.hid h
      clear h
      rcases hI with hnil | ⟨ad, rfl, hb, hcs⟩
      · simp [hnil] at h2
      have HC := Lib.hid hcs
      clear hcs
      have hB1 : Below w.heap.size w (w.alloc (.cells #[.int .i64 0] 25)) := (Below.refl _ w).alloc (Nat.le_refl _) _
      gi_wp2
      gi_loopw [4, 15] (fun _ i wr => ∃ k : Nat, k ≤ l0.length ∧ i = .int .i64 (k : Int) ∧ (∀ j, j < k → inRange (l0[j]?.getD 0) = true) ∧ wr = w.alloc (.cells #[.int .i64 0] 25))
        (fun _ i _ => l0.length - (intOf i).toNat)
      case atStart => exact ⟨0, Nat.zero_le _, rfl, fun j hj => by omega, rfl⟩
      case round =>
        obtain ⟨k, hk, rfl, hok, rfl⟩ := hrel
        have HO := Lib.hid hok
        clear hok
        by_cases hlt : k < l0.length
        · have hdk : decide ((k : Int) < (l0.length : Int)) = true := decide_eq_true (by omega)
          have hk0 : (k : Int) < l0.length := by omega
          have hck0 : (w.alloc (.cells #[.int .i64 0] 25)).cell? (ad.add k) = some (.int .i64 (l0[k]?.getD 0)) := (hB1.cell (p := ad.add k) (by rw [It.add_block]; exact hb)).trans (HC.out k hlt)
          obtain ⟨z, hzk⟩ : ∃ z, l0[k]?.getD 0 = z := ⟨_, rfl⟩
          have hck : (w.alloc (.cells #[.int .i64 0] 25)).cell? (ad.add k) = some (.int .i64 z) := by rw [← hzk]; exact hck0
          clear hck0
          have HZ := Lib.hid hzk
          clear hzk
          by_cases hin : inRange z = true
          · have hi2 : 0 ≤ z ∧ z ≤ 200000 := by unfold inRange at hin; exact of_decide_eq_true hin
            have HI := Lib.hid hin
            clear hin
            have hz1 : decide (z < 0) = false := decide_eq_false (by omega)
            have hz2 : decide (200000 < z) = false := decide_eq_false (by omega)
            gi_wp2
            go_roundw
            case rel =>
              refine ⟨k + 1, by omega, by go_num, fun j hj => ?_, by first | rfl | trivial⟩
              rcases Nat.lt_or_eq_of_le (Nat.le_of_lt_succ hj) with hj | rfl
              · exact HO.out j hj
              · rw [HZ.out]; exact HI.out
            case measure => simp [intOf]; omega
          · have hf : inRange z = false := by simpa using hin
            have hr : r = 2 := by
              have h := HH.out
              rw [rangeOk_fail hlt (by rw [HZ.out]; exact hf), if_neg (by simp)] at h
              exact (Option.some.inj h).symm
            subst hr
            have hi2 : ¬ (0 ≤ z ∧ z ≤ 200000) := by unfold inRange at hf; exact of_decide_eq_false hf
            clear hf hin
            by_cases hz : z < 0
            · have hz1 : decide (z < 0) = true := decide_eq_true hz
              gi_wp2
              exact ⟨.int .i64 2, by simp [results, Try.f18, go_sem], rfl, (Below.refl _ w).alloc (Nat.le_refl _) _⟩
            · have hz1 : decide (z < 0) = false := decide_eq_false hz
              have hz2 : decide (200000 < z) = true := decide_eq_true (by omega)
              gi_wp2
              exact ⟨.int .i64 2, by simp [results, Try.f18, go_sem], rfl, (Below.refl _ w).alloc (Nat.le_refl _) _⟩
        · obtain rfl : k = l0.length := by omega
          gi_wp2_with (refine ⟨trivial, ?_⟩; gi_at_call 26; refine (strips_in _ _ _ _ _).mono ?_; rintro e w' ⟨rfl, rfl⟩)
          have hreach : l0.length * 8 ≤ 140737488355328 := by omega
          have hB2 : Below w.heap.size w ((w.alloc (.cells #[.int .i64 0] 25)).alloc (.cells #[.slice (some ad) l0.length c0] 28)) := hB1.alloc (by simp) _
          have bR := (Boxed.new w 25 (.int .i64 0)).alloc (.cells #[.slice (some ad) l0.length c0] 28)
          have bN := Boxed.new (w.alloc (.cells #[.int .i64 0] 25)) 28 (.slice (some ad) l0.length c0)
          rw [World.size_alloc] at bN
          have HOL : l0.all inRange = true := rangeOk_all HO.out
          have HRes := HH.out
          rw [HOL, if_pos rfl] at HRes
          have HR := Lib.hid HRes
          clear HRes HOL
          have HN := Lib.hid bN.cell
          clear bN
          refine wpIn_rangeFunc_ownG rfl (by omega) (gf := 30) (lb := #[.pointer (some ⟨w.heap.size + 1, 0, none⟩)]) rfl trivial (enters_of Try.func30 (by kernel_rfl) rfl)
            (strips_stops 4 (by omega) (w.heap.size + 1) w.heap.size c0 (some ad) l0 hreach _ (by simp) (by simp; omega) HN.out (Holds.below hB2 (.inr ⟨ad, rfl, hb, HC.out⟩))) kb_t (kb_b (by simp; omega) (by simp)) (Below.refl _ _) (fun _ => rfl)
            (fun pre W => (pre.all rising = true ∧ W.cell? ⟨w.heap.size, 0, none⟩ = some (.int .i64 0) ∧ W.frozen? ⟨w.heap.size, 0, none⟩ = false) ∧ Below w.heap.size w W)
            (fun c pre W => (c = .ret ∧ Fell pre ∧ W.cell? ⟨w.heap.size, 0, none⟩ = some (.int .i64 5)) ∧ Below w.heap.size w W)
            (OwnFrom.and (Own.from (fun s A B row hs hg hr => ⟨hs.1, cell_kept hs.2.1 hg hr, (frozen_kept hs.2.1 hg hr).trans hs.2.2⟩) _) (ownFrom_below (Nat.le_refl _) (by simp; omega)))
            (fun c => OwnFrom.and (Own.from (fun s A B row hs hg hr => ⟨hs.1, hs.2.1, cell_kept hs.2.2 hg hr⟩) _) (ownFrom_below (Nat.le_refl _) (by simp; omega)))
            ⟨⟨rfl, bR.cell, bR.frozen⟩, hB2⟩
            (fun x => { tmps := #[.slice (some ad) l0.length c0, undef, .pointer (some ⟨w.heap.size, 0, none⟩), undef, u4, .int .i64 x.1, .int .i64 x.2, .slice (some ad) l0.length c0, .int .i64 (l0.length : Int), .bool false, .slice (some ad) l0.length c0, .int .i64 (l0.length : Int), .bool false,
              .slice (some ad) l0.length c0, .int .i64 (l0.length : Int), .int .i64 (l0.length : Int), .bool false, u17, u18, u19, u20, u21, u22, u23, u24, u25, .slice (some ad) l0.length c0, .func (.func 30) #[] #[.pointer (some ⟨w.heap.size + 1, 0, none⟩)], .int .i64 x.1, .int .i64 x.2, undef, undef, undef], defers := [] }) ?assign ?body ?done ?stop
          case assign =>
            intro l x W K hK
            gi_wp2
            exact hK
          case body =>
            rintro l pre x W ⟨⟨hp, hcr, hfr⟩, hB⟩ _
            have HP := Lib.hid hp
            clear hp
            by_cases hx : x.1 ≤ x.2
            · have hxd : decide (x.2 < x.1) = false := decide_eq_false (by omega)
              have HX : Hid (rising x = true) := Lib.hid (by unfold rising; exact decide_eq_true hx)
              gi_wp2
              exact ⟨KeepsFrom.refl _ _, KB.refl _ _ _, ⟨by rw [all_snoc, HP.out, HX.out]; rfl, hcr, hfr⟩, hB⟩
            · have hxd : decide (x.2 < x.1) = true := decide_eq_true (by omega)
              have HX : Hid (rising x = false) := Lib.hid (by unfold rising; exact decide_eq_false hx)
              gi_wp2
              exact ⟨(KeepsOthers.setCell _ _ _).from _, ⟨rfl, Fell.of pre x HX.out, World.cell?_setCell_same' _ _ _ (by rw [hcr]; rfl)⟩, hB.setCell (p := ⟨w.heap.size, 0, none⟩) (Nat.le_refl _) _⟩
          case done =>
            rintro D ys W hD rfl ⟨⟨hne, hcr, hfr⟩, hB⟩ hK
            have h := HR.out
            rw [hne, if_pos rfl] at h
            obtain rfl := Option.some.inj h
            clear h hne
            gi_wp2
            have hK' := (KeepsOthers.setCell W ⟨w.heap.size, 0, none⟩ (.int .i64 0)).same D _ hK rfl
            refine ⟨by simp, .inl ⟨_, _, rfl, run_takeDeferred hK', ?_⟩⟩
            have hc5 := cell_kept (World.cell?_setCell_same' W ⟨w.heap.size, 0, none⟩ (.int .i64 0) (by rw [hcr]; rfl)) (grownBy_putObj' _ D (.deferred none)) (fun r e => by cases e; exact ⟨_, hK', rfl⟩)
            refine ⟨.int .i64 0, ?_, rfl, (hB.setCell (p := ⟨w.heap.size, 0, none⟩) (Nat.le_refl _) _).trans (belowK_b (w := w) (Nat.le_refl _) _ D _ _ (by simp at hD; omega) hK' rfl rfl)⟩
            simp [results, Try.f18, go_sem, hc5]
          case stop =>
            rintro D c pre W hD ⟨k, hk, rfl⟩ ⟨⟨rfl, hne, hcr⟩, hB⟩ hK
            have h := HR.out
            rw [all_upto_mono hk hne.out, if_neg (by simp)] at h
            obtain rfl := Option.some.inj h
            clear h hne
            gi_wp2
            refine ⟨by simp, .inl ⟨_, _, rfl, run_takeDeferred hK, ?_⟩⟩
            have hc5 := cell_kept hcr (grownBy_putObj' _ D (.deferred none)) (fun r e => by cases e; exact ⟨_, hK, rfl⟩)
            refine ⟨.int .i64 5, ?_, rfl, hB.trans (belowK_b (w := w) (Nat.le_refl _) W D _ _ (by simp at hD; omega) hK rfl rfl)⟩
            simp [results, Try.f18, go_sem, hc5]
end Go.Proofs.Ythbkbokfngbocaa.X
