/- Units: plain numbers. -/
import Derived.Test.YtdkeiopcdajkpaaMu
set_option linter.unusedVariables false
namespace Go.Proofs.Ytdkeiopcdajkpaa.Sx
open Go.RowKit

theorem fq_I2 {a b : Int} (ha : I a) (hb : I b) : I (Wh.fq a b) := by
  unfold Wh.fq
  split
  · rename_i h; have := Wh.fe_ok.1 h; exact Wh.fdiv_I ha hb this.1 this.2
  · exact ⟨by decide, by decide⟩
theorem all_getD {p : Int → Bool} (h0 : p 0 = true) : ∀ {l : List Int}, l.all p = true → ∀ k, p (l.getD k 0) = true
  | [], _, k => by simpa using h0
  | a :: l, h, 0 => by simp only [List.all_cons, Bool.and_eq_true] at h; simpa using h.1
  | a :: l, h, k + 1 => by simp only [List.all_cons, Bool.and_eq_true] at h; simpa using all_getD h0 h.2 k
theorem nr_bd {x : Int} (h : nr x = true) : -1048576 ≤ x ∧ x ≤ 1048576 := by simpa [nr] using h
theorem sq_bd1 {x : Int} (h : -1048576 ≤ x ∧ x ≤ 1048576) : 0 ≤ x * x ∧ x * x ≤ 1099511627776 := by
  rcases Int.le_total 0 x with h0 | h0
  · have := Int.mul_le_mul h.2 h.2 h0 (by decide); have := Int.mul_nonneg h0 h0; omega
  · have := Wh.sq_mono (a := -x) (b := 1048576) (by omega) (by omega)
    rw [Int.neg_mul_neg] at this
    have h2 := Int.mul_nonneg_of_nonpos_of_nonpos h0 h0; omega
theorem sq_zero {x : Int} : x * x = 0 ↔ x = 0 := by rw [Int.mul_eq_zero]; simp
theorem sq_pos {x : Int} (h : x ≠ 0) : 1 ≤ x * x := by
  have : x * x ≠ 0 := fun k => h (sq_zero.1 k)
  have := (Int.le_total 0 x).elim (fun h => Int.mul_nonneg h h) (fun h => Int.mul_nonneg_of_nonpos_of_nonpos h h); omega

/-- What is known of a unit. -/
structure Un (v0 v1 v2 r : Int) : Prop where
  b0 : -1048576 ≤ v0 ∧ v0 ≤ 1048576
  b1 : -1048576 ≤ v1 ∧ v1 ≤ 1048576
  b2 : -1048576 ≤ v2 ∧ v2 ≤ 1048576
  pos : 1 ≤ v0 * v0 + v1 * v1 + v2 * v2
  n : Wh.Root (1048576 * (v0 * v0 + v1 * v1 + v2 * v2)) r
theorem ue_ok {a b c : Int} (h : ue [a, b, c] = 0) : Un a b c (Wh.sqC (1048576 * n2 [a, b, c])) ∧ ue [a, b, c] = 0 := by
  refine ⟨?_, h⟩
  unfold ue at h
  split at h
  case isFalse => cases h
  rename_i hn
  split at h
  case isTrue => cases h
  rename_i hz
  simp only [List.all_cons, List.all_nil, Bool.and_true, Bool.and_eq_true] at hn
  have h0 := nr_bd hn.1; have h1 := nr_bd hn.2.1; have h2 := nr_bd hn.2.2
  have s0 := sq_bd1 h0; have s1 := sq_bd1 h1; have s2 := sq_bd1 h2
  refine ⟨h0, h1, h2, ?_, ?_⟩
  · have hnz : a ≠ 0 ∨ b ≠ 0 ∨ c ≠ 0 := by
      simp [z3] at hz
      omega
    rcases hnz with h | h | h <;> have := sq_pos h <;> omega
  · show Wh.Root (1048576 * n2 [a, b, c]) _
    simp only [n2, List.getD_cons_zero, List.getD_cons_succ]
    rw [← Wh.rt_sqC (by omega) (by omega)]
    exact Wh.rt_root (by omega)
theorem sqlt {a b : Int} (ha : 0 ≤ a) (hb : 0 ≤ b) (h : a * a < b * b) : a < b := by
  apply Classical.byContradiction
  intro hc
  have := Wh.sq_mono hb (show b ≤ a by omega); omega
theorem sqle {a b : Int} (hb : 0 ≤ b) (h : a * a ≤ b * b) : a ≤ b := by
  apply Classical.byContradiction
  intro hc
  have := sqlt (a := b) (b := a) hb (by omega)
  have h1 := Wh.sq_mono (a := b + 1) (b := a) (by omega) (by omega)
  have : (b + 1) * (b + 1) = b * b + 2 * b + 1 := by grind
  omega
theorem root_ge {n r v : Int} (h : Wh.Root (1048576 * n) r) (hv : v * v ≤ n) : 1024 * v ≤ r := by
  obtain ⟨h0, h1, h2⟩ := h
  have : 1024 * v < r + 1 := by
    apply Classical.byContradiction
    intro hc
    have h3 := Wh.sq_mono (a := r + 1) (b := 1024 * v) (by omega) (by omega)
    have : 1024 * v * (1024 * v) = 1048576 * (v * v) := by grind
    omega
  omega
theorem fdiv_lt_of {a b q : Int} (hb : 0 < b) (h : a < b * (q + 1)) : a.fdiv b ≤ q := by
  rw [Int.fdiv_eq_ediv_of_nonneg _ (Int.le_of_lt hb)]
  have := Int.ediv_lt_of_lt_mul hb (show a < (q + 1) * b by rw [Int.mul_comm]; exact h)
  omega
theorem le_fdiv_of {a b q : Int} (hb : 0 < b) (h : b * q ≤ a) : q ≤ a.fdiv b := by
  rw [Int.fdiv_eq_ediv_of_nonneg _ (Int.le_of_lt hb)]
  exact Int.le_ediv_of_mul_le hb (by rw [Int.mul_comm]; exact h)
theorem fdiv_bds (a : Int) {b : Int} (hb : 0 < b) : b * a.fdiv b ≤ a ∧ a < b * (a.fdiv b + 1) := by
  rw [Int.fdiv_eq_ediv_of_nonneg _ (Int.le_of_lt hb)]
  have h1 := Int.emod_nonneg a (show b ≠ 0 by omega)
  have h2 := Int.emod_lt_of_pos a hb
  have h3 := Int.mul_ediv_add_emod a b
  rw [Int.mul_add]; omega
theorem fq_pos {a b : Int} (hb : 0 < b) : Wh.fq a b = a.fdiv b := by
  unfold Wh.fq
  rw [if_pos (Wh.fe_ok.2 ⟨by omega, by omega⟩)]
/-- One part: on its side, not over 1024. -/
theorem unit_part {v n r : Int} (h : Wh.Root (1048576 * n) r) (hn : 1 ≤ n) (hv : v * v ≤ n) :
    1024 ≤ r ∧ Wh.fq (1048576 * v) r = (1048576 * v).fdiv r ∧ -1024 ≤ Wh.fq (1048576 * v) r ∧ Wh.fq (1048576 * v) r ≤ 1024 ∧ (0 ≤ v → 0 ≤ Wh.fq (1048576 * v) r) ∧ (v < 0 → Wh.fq (1048576 * v) r < 0) ∧ (v = 0 → Wh.fq (1048576 * v) r = 0) := by
  have hr : 1024 ≤ r := by have := root_ge (v := 1) h (by omega); omega
  have h1 := root_ge h hv
  have h2 := root_ge (v := -v) h (by rw [Int.neg_mul_neg]; exact hv)
  rw [fq_pos (by omega)]
  have h3 := fdiv_bds (1048576 * v) (b := r) (by omega)
  refine ⟨hr, rfl, ?_, ?_, ?_, ?_, ?_⟩
  · exact le_fdiv_of (by omega) (by omega)
  · exact fdiv_lt_of (by omega) (by omega)
  · intro h; exact le_fdiv_of (by omega) (by omega)
  · intro h; have := fdiv_lt_of (a := 1048576 * v) (b := r) (q := -1) (by omega) (by omega); omega
  · intro h; subst h; simp
theorem uv_bd (a b c : Int) (k : Nat) (hk : k < 3) : -1024 ≤ uv k [a, b, c] ∧ uv k [a, b, c] ≤ 1024 := by
  unfold uv
  split
  · rename_i h
    obtain ⟨⟨h0, h1, h2, hp, hr⟩, -⟩ := ue_ok h
    have s0 := sq_bd1 h0; have s1 := sq_bd1 h1; have s2 := sq_bd1 h2
    unfold uq
    match k, hk with
    | 0, _ => have := unit_part (v := a) hr hp (by omega); exact ⟨this.2.2.1, this.2.2.2.1⟩
    | 1, _ => have := unit_part (v := b) hr hp (by omega); exact ⟨this.2.2.1, this.2.2.2.1⟩
    | 2, _ => have := unit_part (v := c) hr hp (by omega); exact ⟨this.2.2.1, this.2.2.2.1⟩
  · exact ⟨by decide, by decide⟩
theorem uv_I (k : Nat) (l : List Int) : I (uv k l) := by
  unfold uv
  split
  · rename_i h
    unfold ue at h
    split at h
    case isFalse => cases h
    rename_i hn
    unfold uq
    have g := fun k => nr_bd (all_getD (p := nr) (by decide) hn k)
    have s0 := sq_bd1 (g 0); have s1 := sq_bd1 (g 1); have s2 := sq_bd1 (g 2)
    refine fq_I2 ?_ ?_
    · have := g k; exact ⟨by omega, by omega⟩
    · unfold n2
      have := Wh.rt_le (n := 1048576 * (l.getD 0 0 * l.getD 0 0 + l.getD 1 0 * l.getD 1 0 + l.getD 2 0 * l.getD 2 0)) (by omega) (by omega)
      rw [Wh.rt_sqC (by omega) (by omega)] at this
      exact ⟨by omega, by omega⟩
  · exact ⟨by decide, by decide⟩
theorem cr2_bd {a b c d : Int} (ha : -1048576 ≤ a ∧ a ≤ 1048576) (hb : -1048576 ≤ b ∧ b ≤ 1048576) (hc : -1048576 ≤ c ∧ c ≤ 1048576) (hd : -1048576 ≤ d ∧ d ≤ 1048576) : I (cr2 a b c d) := by
  unfold cr2
  have h1 := mul_bd (M := 1048576) (N := 1048576) 1099511627776 (by decide) ha hd
  have h2 := mul_bd (M := 1048576) (N := 1048576) 1099511627776 (by decide) hb hc
  exact ⟨by omega, by omega⟩
theorem x3_I (k : Nat) (l : List Int) : I (fi 6 k l) := by
  have z : I 0 := ⟨by decide, by decide⟩
  have g : l.all nr = true → ∀ k, -1048576 ≤ l.getD k 0 ∧ l.getD k 0 ≤ 1048576 := fun hn k => nr_bd (all_getD (p := nr) (by decide) hn k)
  match k with
  | 0 =>
    simp only [fi]; split
    · rename_i h; exact cr2_bd (g h _) (g h _) (g h _) (g h _)
    · exact z
  | 1 =>
    simp only [fi]; split
    · rename_i h; exact cr2_bd (g h _) (g h _) (g h _) (g h _)
    · exact z
  | 2 =>
    simp only [fi]; split
    · rename_i h; exact cr2_bd (g h _) (g h _) (g h _) (g h _)
    · exact z
  | k + 3 =>
    simp only [fi]; split
    · exact z
    · exact ⟨by decide, by decide⟩
theorem ue_I (l : List Int) : I (ue l) := by unfold ue; (repeat' split) <;> exact ⟨by decide, by decide⟩
theorem f40_I (k : Nat) (l : List Int) : I (fi 40 k l) := by
  by_cases h : k = 3
  · subst h; exact ue_I l
  · have : fi 40 k l = uv k l := by unfold fi; split <;> simp_all
    rw [this]; exact uv_I k l
end Go.Proofs.Ytdkeiopcdajkpaa.Sx
