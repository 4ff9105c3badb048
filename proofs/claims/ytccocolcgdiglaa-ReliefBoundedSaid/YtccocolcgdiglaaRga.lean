import Derived.Test.YtccocolcgdiglaaChr
import Derived.Test.YtccocolcgdiglaaItm
import Derived.Test.YtccocolcgdiglaaXx3
/-! What the checks of reliefs and items come to, in plain numbers; the reference's are the same. -/
namespace Go.Proofs.Ytccocolcgdiglaa.Rel
set_option linter.unusedVariables false
set_option linter.unusedSimpArgs false
open Go.RowKit Go.Proofs.Ytccocolcgdiglaa.X Go.Proofs.YtccocolcgdiglaaW.PrintWords Go.Proofs.YtccocolcgdiglaaW.PrintLast Go.Proofs.YtccocolcgdiglaaW.PrintMore

theorem wid {a : Int} (h0 : -9223372036854775808 ≤ a) (h1 : a ≤ 9223372036854775807) : wrap64 a = a := by unfold wrap64; omega
theorem wsucc {i : Nat} (h : i < 9223372036854775807) : wrap64 ((i : Int) + 1) = ((i + 1 : Nat) : Int) := by rw [wid (by omega) (by omega)]; omega
theorem wpred {i : Nat} (h0 : 1 ≤ i) (h : i < 9223372036854775807) : wrap64 ((i : Int) - 1) = ((i - 1 : Nat) : Int) := by rw [wid (by omega) (by omega)]; omega
def R (l : List S33) (i : Nat) : S33 := l.getD i z33
def I (l : List S25) (i : Nat) : S25 := l.getD i z25
theorem rdR (l : List S33) (i : Nat) : rd_T33 l (i : Int) = R l i := rfl
theorem rdI (l : List S25) (i : Nat) : rd_T25 l (i : Int) = I l i := rfl

/-- from one number to another -/
def btw (a b c : Int) : Bool := decide (b ≤ a) && decide (a ≤ c)
theorem within_f (a b c : Int) : relief_within.f a b c = some (btw a b c) := by
  unfold relief_within.f btw
  by_cases h : a ≥ b
  · rw [if_pos h, decide_eq_true (show b ≤ a from h)]; simp
  · rw [if_neg h, decide_eq_false (show ¬ b ≤ a from h)]; simp
theorem between_f (a b c : Int) : spileref47_Between.f a b c = some (btw a b c) := by
  unfold spileref47_Between.f btw
  by_cases h : a ≥ b
  · rw [if_pos h, decide_eq_true (show b ≤ a from h)]; simp
  · rw [if_neg h, decide_eq_false (show ¬ b ≤ a from h)]; simp
theorem btw_true {a b c : Int} : btw a b c = true ↔ b ≤ a ∧ a ≤ c := by unfold btw; simp

/-! ### names -/
/-- the last d bytes can be printed -/
def prt (x : ByteArray) : Nat → Bool
  | 0 => true
  | d + 1 => if bt x ((x.size - (d + 1) : Nat) : Int) < 32 then false else if bt x ((x.size - (d + 1) : Nat) : Int) > 126 then false else prt x d
theorem prt_succ (x : ByteArray) (d : Nat) : prt x (d + 1) = (if bt x ((x.size - (d + 1) : Nat) : Int) < 32 then false else if bt x ((x.size - (d + 1) : Nat) : Int) > 126 then false else prt x d) := rfl
def ends (x : ByteArray) : Bool := if 1 ≤ x.size ∧ x.size ≤ 64 then (if bt x 0 = 32 then false else bt x ((x.size - 1 : Nat) : Int) != 32) else false
def nameS (x : ByteArray) : Bool := ends x && prt x x.size
theorem name_l0 {x : ByteArray} (hx : x.size ≤ 70) : ∀ d i k, i + d = x.size → d < k → relief_name.l0 k x (x.size : Int) (i : Int) = some (prt x d)
  | 0, i, k, hd, hk => by
    obtain ⟨k, rfl⟩ : ∃ m, k = m + 1 := ⟨k - 1, by omega⟩
    simp only [relief_name.l0]
    rw [if_neg (by omega)]
    rfl
  | d + 1, i, k, hd, hk => by
    obtain ⟨k, rfl⟩ : ∃ m, k = m + 1 := ⟨k - 1, by omega⟩
    have ih := name_l0 hx d (i + 1) k (by omega) (by omega)
    simp only [relief_name.l0]
    rw [if_pos (by omega), if_pos (by omega), if_pos (by omega), wsucc (by omega), ih, prt_succ, show x.size - (d + 1) = i by omega]
    split
    · rfl
    · split <;> rfl
theorem named_l0 {x : ByteArray} (hx : x.size ≤ 70) : ∀ d i k, i + d = x.size → d < k → spileref47_Named.l0 k x (i : Int) = some (prt x d && ends x)
  | 0, i, k, hd, hk => by
    obtain ⟨k, rfl⟩ : ∃ m, k = m + 1 := ⟨k - 1, by omega⟩
    simp only [spileref47_Named.l0]
    rw [if_neg (by omega)]
    show _ = some (true && ends x)
    by_cases h1 : 1 ≤ x.size
    · rw [if_pos (by omega)]
      by_cases h2 : x.size ≤ 64
      · rw [if_pos (by omega), if_pos (by omega), show ends x = _ from if_pos ⟨h1, h2⟩]
        by_cases h3 : bt x 0 = 32
        · rw [if_pos h3, if_pos h3]; rfl
        · rw [if_neg h3, if_neg h3, wpred h1 (by omega), if_pos (by omega), if_pos (by omega)]; rfl
      · rw [if_neg (by omega), show ends x = _ from if_neg (show ¬ (1 ≤ x.size ∧ x.size ≤ 64) by omega)]; rfl
    · rw [if_neg (by omega), show ends x = _ from if_neg (show ¬ (1 ≤ x.size ∧ x.size ≤ 64) by omega)]; rfl
  | d + 1, i, k, hd, hk => by
    obtain ⟨k, rfl⟩ : ∃ m, k = m + 1 := ⟨k - 1, by omega⟩
    have ih := named_l0 hx d (i + 1) k (by omega) (by omega)
    simp only [spileref47_Named.l0]
    rw [if_pos (by omega), if_pos (by omega), wsucc (by omega), ih]
    rw [prt_succ, show x.size - (d + 1) = i by omega]
    split
    · rfl
    · split <;> rfl
theorem named_f {x : ByteArray} (hx : x.size ≤ 70) {k : Nat} (hk : 100 ≤ k) : spileref47_Named.f k x = some (nameS x) := by
  unfold spileref47_Named.f nameS
  have h := named_l0 hx x.size 0 k (by omega) (by omega)
  rw [Bool.and_comm]
  exact h
theorem toList_nil (x : ByteArray) : x.toList = ([] : List UInt8) ↔ x.size = 0 := by
  rw [ByteArray.toList_eq]
  show x.data.toList = [] ↔ x.data.size = 0
  rw [← Array.length_toList, List.length_eq_zero_iff]
theorem name_f {x : ByteArray} (hx : x.size ≤ 70) {k : Nat} (hk : 100 ≤ k) : relief_name.f k x = some (nameS x) := by
  unfold relief_name.f nameS ends
  obtain ⟨m, rfl⟩ : ∃ m, k = m + 1 := ⟨k - 1, by omega⟩
  have h := name_l0 hx x.size 0 m (by omega) (by omega)
  by_cases h0 : x.size = 0
  · rw [if_pos ((toList_nil x).2 h0), if_neg (show ¬ (1 ≤ x.size ∧ x.size ≤ 64) by omega)]
    simp only [relief_name.j0]
    rw [if_pos trivial]; rfl
  · rw [if_neg (fun e => h0 ((toList_nil x).1 e))]
    by_cases h1 : x.size ≤ 64
    · rw [if_neg (by omega), if_pos (by omega), if_pos (show 1 ≤ x.size ∧ x.size ≤ 64 by omega)]
      by_cases h3 : bt x 0 = 32
      · rw [if_pos h3, if_pos h3]
        simp only [relief_name.j0]
        rw [if_pos trivial]; rfl
      · rw [if_neg h3, if_neg h3, wpred (by omega) (by omega), if_pos (by omega), if_pos (by omega)]
        simp only [relief_name.j0]
        by_cases h4 : bt x ((x.size - 1 : Nat) : Int) = 32
        · simp [h4]
        · have e1 : (bt x ((x.size - 1 : Nat) : Int) == 32) = false := beq_eq_false_iff_ne.mpr h4
          have e2 : (bt x ((x.size - 1 : Nat) : Int) != 32) = true := bne_iff_ne.mpr h4
          rw [e1, e2, if_neg (by simp), Bool.true_and]
          exact h
    · rw [if_pos (by omega), if_neg (by omega)]
      simp only [relief_name.j0]
      rw [if_pos trivial]; rfl

/-! ### reliefs -/
def okR (r : S33) : Bool := btw r.f0 1 1073741824 && (btw r.f2 0 9 && (btw r.f3 0 100000 && (btw r.f4 r.f3 100000 && (btw r.f5 1 10000 && btw r.f6 0 10737418240000))))
def errR (l : List S33) (i : Nat) : Option (Int × Int) :=
  if okR (R l i) = true then (if nameS (R l i).f1 = true then (if 0 < i ∧ (R l i).f0 ≤ (R l (i - 1)).f0 then some ((i : Int), 5) else none) else some ((i : Int), 4)) else some ((i : Int), 2)
/-- the first fault among the last d -/
def chkF (l : List S33) : Nat → Int × Int
  | 0 => (-1, 0)
  | d + 1 => match errR l (l.length - (d + 1)) with | some e => e | none => chkF l d
theorem chkF_succ (l : List S33) (d : Nat) : chkF l (d + 1) = (match errR l (l.length - (d + 1)) with | some e => e | none => chkF l d) := rfl
def chkS (l : List S33) : Int × Int := if 16 < l.length then (-1, 8) else chkF l l.length
def small (l : List S33) : Prop := ∀ i, i < l.length → (R l i).f1.size ≤ 70

theorem chain6 {α : Type} (g : Bool → α) (b1 b2 b3 b4 b5 b6 : Bool) : (if b1 = true then (if b2 = true then (if b3 = true then (if b4 = true then (if b5 = true then g (!b6) else g true) else g true) else g true) else g true) else g true) = g (!(b1 && (b2 && (b3 && (b4 && (b5 && b6)))))) := by
  cases b1 <;> cases b2 <;> cases b3 <;> cases b4 <;> cases b5 <;> cases b6 <;> rfl
theorem chain5 {α : Type} (g : Bool → α) (b1 b2 b3 b4 b5 : Bool) : (if b1 = true then (if b2 = true then (if b3 = true then (if b4 = true then g (!b5) else g true) else g true) else g true) else g true) = g (!(b1 && (b2 && (b3 && (b4 && b5))))) := by
  cases b1 <;> cases b2 <;> cases b3 <;> cases b4 <;> cases b5 <;> rfl
theorem check_l0 {l : List S33} (hl : l.length ≤ 16) (hs : small l) : ∀ d i k, i + d = l.length → 2 * d + 102 < k → relief_Check.l0 k l l (l.length : Int) (i : Int) = some (chkF l d)
  | 0, i, k, hd, hk => by
    obtain ⟨k, rfl⟩ : ∃ m, k = m + 1 := ⟨k - 1, by omega⟩
    simp only [relief_Check.l0]
    rw [if_neg (by omega)]
    rfl
  | d + 1, i, k, hd, hk => by
    obtain ⟨k, rfl⟩ : ∃ m, k = m + 2 := ⟨k - 2, by omega⟩
    have ih := check_l0 hl hs d (i + 1) k (by omega) (by omega)
    have hi : i < l.length := by omega
    simp only [relief_Check.l0]
    rw [if_pos (by omega), if_pos (by omega), if_pos (by omega)]
    simp only [within_f, Option.bind_some, rdR]
    refine (chain6 (fun b => relief_Check.j1 (k + 1) l (i : Int) l (l.length : Int) (i : Int) b (R l i).f0 (R l i).f1 (R l i).f2 (R l i).f3 (R l i).f4 (R l i).f5 (R l i).f6) _ _ _ _ _ _).trans ?_
    show relief_Check.j1 (k + 1) l (i : Int) l (l.length : Int) (i : Int) (!okR (R l i)) (R l i).f0 (R l i).f1 (R l i).f2 (R l i).f3 (R l i).f4 (R l i).f5 (R l i).f6 = _
    simp only [relief_Check.j1]
    rw [name_f (hs i hi) (by omega), Option.bind_some, wsucc (by omega), ih]
    rw [chkF_succ, show l.length - (d + 1) = i by omega]
    unfold errR
    cases h1 : okR (R l i) with
    | false => rfl
    | true =>
      rw [if_neg (by simp), if_pos rfl]
      cases h2 : nameS (R l i).f1 with
      | false => rfl
      | true =>
        rw [if_pos rfl, if_pos rfl]
        by_cases h3 : 0 < i
        · rw [if_pos (by omega), wpred h3 (by omega), if_pos (by omega), if_pos (by omega), rdR]
          by_cases h4 : (R l i).f0 ≤ (R l (i - 1)).f0
          · rw [if_pos h4, if_pos ⟨h3, h4⟩]
          · rw [if_neg h4, if_neg (fun h => h4 h.2)]
        · rw [if_neg (by omega), if_neg (fun h => h3 h.1)]
theorem check_f {l : List S33} (hs : small l) {k : Nat} (hk : 300 ≤ k) : relief_Check.f k l = some (chkS l) := by
  unfold relief_Check.f chkS
  by_cases h : 16 < l.length
  · rw [if_pos (by omega), if_pos h]
  · rw [if_neg (by omega), if_neg h]
    exact check_l0 (by omega) hs l.length 0 k (by omega) (by omega)
/-! ### items -/
def okI (x : S25) : Bool := btw x.f0 1 1073741824 && (btw x.f1 1 9 && (btw x.f2 0 100000 && (btw x.f3 0 10737418240000 && btw x.f4 0 1073741824)))
def behind (x p : S25) : Bool := if x.f2 < p.f2 then true else if x.f2 = p.f2 then decide (x.f0 ≤ p.f0) else false
def twice (l : List S25) (i : Nat) : Bool := (l.take i).any fun y => y.f0 == (I l i).f0
def errI (l : List S25) (i : Nat) : Option (Int × Int) :=
  if okI (I l i) = true then (if (if 0 < i then behind (I l i) (I l (i - 1)) else false) = true then some ((i : Int), 5) else if twice l i = true then some ((i : Int), 6) else none) else some ((i : Int), 2)
def itmF (l : List S25) : Nat → Int × Int
  | 0 => (-1, 0)
  | d + 1 => match errI l (l.length - (d + 1)) with | some e => e | none => itmF l d
theorem itmF_succ (l : List S25) (d : Nat) : itmF l (d + 1) = (match errI l (l.length - (d + 1)) with | some e => e | none => itmF l d) := rfl
def itmS (l : List S25) : Int × Int := if 64 < l.length then (-1, 8) else itmF l l.length

theorem seen_twice (l : List S25) (i : Nat) : seen25 l (i : Int) (I l i).f0 = twice l i := by
  unfold seen25 keys25 twice
  rw [List.any_map, show ((i : Int).toNat) = i by simp]
  congr 1
  funext y
  show decide (IntKind.i64 = IntKind.i64 ∧ y.f0 = (I l i).f0) = _
  by_cases h : y.f0 = (I l i).f0
  · simp [h]
  · simp [h]
theorem items_l0 {l : List S25} (hl : l.length ≤ 64) : ∀ d i k, i + d = l.length → 3 * d + 2 < k → relief_Items.l0 k l l (l.length : Int) (i : Int) = some (itmF l d)
  | 0, i, k, hd, hk => by
    obtain ⟨k, rfl⟩ : ∃ m, k = m + 1 := ⟨k - 1, by omega⟩
    simp only [relief_Items.l0]
    rw [if_neg (by omega)]
    rfl
  | d + 1, i, k, hd, hk => by
    obtain ⟨k, rfl⟩ : ∃ m, k = m + 3 := ⟨k - 3, by omega⟩
    have ih := items_l0 hl d (i + 1) k (by omega) (by omega)
    have hi : i < l.length := by omega
    simp only [relief_Items.l0]
    rw [if_pos (by omega), if_pos (by omega), if_pos (by omega)]
    simp only [within_f, Option.bind_some, rdI]
    refine (chain5 (fun b => relief_Items.j1 (k + 2) l (i : Int) l (l.length : Int) (i : Int) b (I l i).f0 (I l i).f1 (I l i).f2 (I l i).f3 (I l i).f4) _ _ _ _ _).trans ?_
    show relief_Items.j1 (k + 2) l (i : Int) l (l.length : Int) (i : Int) (!okI (I l i)) (I l i).f0 (I l i).f1 (I l i).f2 (I l i).f3 (I l i).f4 = _
    rw [itmF_succ, show l.length - (d + 1) = i by omega]
    unfold errI
    cases h1 : okI (I l i) with
    | false => simp only [relief_Items.j1]; rfl
    | true =>
      have hid : 0 ≤ (I l i).f0 ∧ (I l i).f0 ≤ 1073741824 := by
        unfold okI at h1
        simp only [Bool.and_eq_true, btw_true] at h1
        omega
      have hj2 : ∀ b, relief_Items.j2 (k + 1) l (i : Int) l (l.length : Int) (i : Int) b (I l i).f0 (I l i).f1 (I l i).f2 (I l i).f3 (I l i).f4 = if b = true then some ((i : Int), 5) else if twice l i = true then some ((i : Int), 6) else some (itmF l d) := by
        intro b
        simp only [relief_Items.j2]
        rw [if_pos hid, seen_twice, wsucc (by omega), ih]
      simp only [relief_Items.j1]
      rw [if_neg (by simp), if_pos trivial]
      by_cases h3 : 0 < i
      · rw [if_pos (by omega), wpred h3 (by omega), if_pos (by omega), if_pos (by omega), rdI, hj2, hj2, hj2, if_pos h3]
        unfold behind
        by_cases h4 : (I l i).f2 < (I l (i - 1)).f2
        · rw [if_pos h4, if_pos h4]; rfl
        · rw [if_neg h4, if_neg h4]
          by_cases h5 : (I l i).f2 = (I l (i - 1)).f2
          · rw [if_pos h5, if_pos h5]
            by_cases h6 : (I l i).f0 ≤ (I l (i - 1)).f0
            · rw [decide_eq_true h6]; rfl
            · rw [decide_eq_false h6]
              cases twice l i <;> rfl
          · rw [if_neg h5, if_neg h5]
            cases twice l i <;> rfl
      · rw [if_neg (by omega), hj2, if_neg h3]
        cases twice l i <;> rfl
theorem items_f (l : List S25) {k : Nat} (hk : 300 ≤ k) : relief_Items.f k l = some (itmS l) := by
  unfold relief_Items.f itmS
  by_cases h : 64 < l.length
  · rw [if_pos (by omega), if_pos h]
  · rw [if_neg (by omega), if_neg h]
    exact items_l0 (by omega) l.length 0 k (by omega) (by omega)
/-! ### few -/
def fewS (l : List S33) (x : List S25) : Bool := if l.length ≤ 8 ∨ l.length = 17 then (if x.length ≤ 12 then true else x.length == 65) else false
def smallB (l : List S33) : Nat → Bool
  | 0 => true
  | d + 1 => if (R l (l.length - (d + 1))).f1.size > 70 then false else smallB l d
theorem smallB_succ (l : List S33) (d : Nat) : smallB l (d + 1) = (if (R l (l.length - (d + 1))).f1.size > 70 then false else smallB l d) := rfl
theorem few_l0 {l : List S33} {x : List S25} (hl : l.length ≤ 9223372036854775807) : ∀ d i k, i + d = l.length → d < k → spileref47_Few.l0 k l x (i : Int) = some (smallB l d && fewS l x)
  | 0, i, k, hd, hk => by
    obtain ⟨k, rfl⟩ : ∃ m, k = m + 1 := ⟨k - 1, by omega⟩
    simp only [spileref47_Few.l0]
    rw [if_neg (by omega)]
    show _ = some (true && fewS l x)
    have e : ((x.length : Int) == 65) = (x.length == 65) := by
      by_cases c : x.length = 65
      · simp [c]
      · rw [beq_eq_false_iff_ne.mpr c, beq_eq_false_iff_ne.mpr (by omega)]
    rw [e, Bool.true_and]
    have h : (if (x.length : Int) ≤ 12 then some true else some (x.length == 65)) = some (if x.length ≤ 12 then true else x.length == 65) := by
      by_cases h2 : x.length ≤ 12
      · rw [if_pos (by omega), if_pos h2]
      · rw [if_neg (by omega), if_neg h2]
    rw [h]
    by_cases h1 : l.length ≤ 8
    · rw [if_pos (by omega), show fewS l x = _ from if_pos (.inl h1)]
    · rw [if_neg (by omega)]
      by_cases h3 : l.length = 17
      · rw [if_pos (by omega), show fewS l x = _ from if_pos (.inr h3)]
      · rw [if_neg (by omega), show fewS l x = _ from if_neg (show ¬ (l.length ≤ 8 ∨ l.length = 17) by omega)]
  | d + 1, i, k, hd, hk => by
    obtain ⟨k, rfl⟩ : ∃ m, k = m + 1 := ⟨k - 1, by omega⟩
    have ih := few_l0 (x := x) hl d (i + 1) k (by omega) (by omega)
    simp only [spileref47_Few.l0]
    rw [if_pos (by omega), if_pos (by omega), wsucc (by omega), ih, rdR]
    rw [smallB_succ, show l.length - (d + 1) = i by omega]
    by_cases c : (R l i).f1.size > 70
    · rw [if_pos (by omega), if_pos c]; rfl
    · rw [if_neg (by omega), if_neg c]
theorem few_f {l : List S33} {x : List S25} (hl : l.length ≤ 9223372036854775807) {k : Nat} (hk : l.length < k) : spileref47_Few.f k l x = some (smallB l l.length && fewS l x) := few_l0 hl l.length 0 k (by omega) hk
theorem small_of {l : List S33} : ∀ d, d ≤ l.length → smallB l d = true → ∀ i, i < l.length → l.length - d ≤ i → (R l i).f1.size ≤ 70
  | 0, _, _, i, h1, h2 => by omega
  | d + 1, hd, h, i, h1, h2 => by
    rw [smallB_succ] at h
    by_cases c : (R l (l.length - (d + 1))).f1.size > 70
    · rw [if_pos c] at h; cases h
    · rw [if_neg c] at h
      by_cases e : i = l.length - (d + 1)
      · subst e; omega
      · exact small_of d (by omega) h i h1 (by omega)
theorem few_true {l : List S33} {x : List S25} (h : (smallB l l.length && fewS l x) = true) : small l ∧ l.length ≤ 17 ∧ x.length ≤ 65 := by
  rw [Bool.and_eq_true] at h
  obtain ⟨h1, h2⟩ := h
  refine ⟨fun i hi => small_of l.length (Nat.le_refl _) h1 i hi (by omega), ?_⟩
  unfold fewS at h2
  by_cases c : l.length ≤ 8 ∨ l.length = 17
  · rw [if_pos c] at h2
    by_cases c2 : x.length ≤ 12
    · omega
    · rw [if_neg c2] at h2
      have := beq_iff_eq.mp h2
      omega
  · rw [if_neg c] at h2; cases h2
end Go.Proofs.Ytccocolcgdiglaa.Rel
