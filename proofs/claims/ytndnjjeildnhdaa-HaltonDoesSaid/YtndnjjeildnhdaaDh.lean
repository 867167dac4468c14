/- Chapter 23: a disc's points, plain. -/
import Derived.Test.YtndnjjeildnhdaaKt
import Derived.Test.YtndnjjeildnhdaaC0
import Derived.Test.YtndnjjeildnhdaaRo
set_option linter.unusedVariables false
set_option linter.unusedSimpArgs false
namespace Go.Proofs.Ytndnjjeildnhdaa
open Go.RowKit
namespace Mt
/-- A part of a disc's point. -/
def fl64 (n : Int) : Int := (2 * n - 65536) / 64
def hin (k : Int) : Bool := Sx.hins (Sx.hpt 2 k) (Sx.hpt 3 k)
def hpz (k : Int) : List Int := [fl64 (Sx.hpt 2 k), fl64 (Sx.hpt 3 k)]
/-- The disc's points of the numbers 1 .. k. -/
def dl : Nat → List (List Int)
  | 0 => []
  | k + 1 => if hin (k + 1 : Nat) then dl k ++ [hpz (k + 1 : Nat)] else dl k
theorem dl_in {k : Nat} (h : hin (k + 1 : Nat) = true) : dl (k + 1) = dl k ++ [hpz (k + 1 : Nat)] := by simp only [dl]; rw [if_pos h]
theorem dl_out {k : Nat} (h : hin (k + 1 : Nat) = false) : dl (k + 1) = dl k := by simp only [dl]; rw [if_neg (by rw [h]; simp)]
theorem dl_pre : ∀ (j k : Nat), j ≤ k → ∃ r, dl k = dl j ++ r
  | j, 0, h => by
    have : j = 0 := by omega
    subst this; exact ⟨[], by simp⟩
  | j, k + 1, h => by
    by_cases e : j = k + 1
    · subst e; exact ⟨[], by simp⟩
    · obtain ⟨r, hr⟩ := dl_pre j k (by omega)
      cases hh : hin (k + 1 : Nat)
      · exact ⟨r, by rw [dl_out hh, hr]⟩
      · exact ⟨r ++ [hpz (k + 1 : Nat)], by rw [dl_in hh, hr, List.append_assoc]⟩
theorem dl_100 : decide (64 ≤ (dl 100).length) = true := by decide +kernel
def pts (n : Nat) : List (List Int) := (dl 65535).take n
theorem dl_many : 64 ≤ (dl 65535).length := by
  obtain ⟨r, h⟩ := dl_pre 100 65535 (by omega)
  have := of_decide_eq_true dl_100
  rw [h, List.length_append]; omega
theorem dl_end {k n : Nat} (hk : k ≤ 65535) (hl : (dl k).length ≤ n) (he : n ≤ (dl k).length ∨ k = 65535) (hn : n ≤ 64) : (dl k).length = n ∧ dl k = pts n := by
  have hm := dl_many
  have h1 : (dl k).length = n := by
    rcases he with h | h
    · omega
    · subst h; omega
  refine ⟨h1, ?_⟩
  obtain ⟨r, h⟩ := dl_pre k 65535 hk
  unfold pts
  rw [h, ← h1, List.take_left]
theorem pts_len {n : Nat} (hn : n ≤ 64) : (pts n).length = n := by
  have := dl_many
  unfold pts
  rw [List.length_take]; omega
theorem pts_pre {n m : Nat} (h : n ≤ m) : pts n = (pts m).take n := by
  unfold pts
  rw [List.take_take, Nat.min_eq_left h]
theorem hins_ok {x y : Int} (h : Sx.hins x y = true) : (0 ≤ x ∧ x ≤ 65536 ∧ 0 ≤ y ∧ y ≤ 65536) ∧ (2 * x - 65536) * (2 * x - 65536) + (2 * y - 65536) * (2 * y - 65536) ≤ 4294967296 := by
  unfold Sx.hins at h
  simp only [Bool.and_eq_true, decide_eq_true_eq] at h
  exact ⟨⟨h.1.1, h.1.2.1, h.1.2.2.1, h.1.2.2.2⟩, h.2⟩
theorem fl64_bd {n : Int} (h0 : 0 ≤ n) (h1 : n ≤ 65536) : -1024 ≤ fl64 n ∧ fl64 n ≤ 1024 := by unfold fl64; omega
/-- Rounded down, and a corner nearer if below 0, a part is no farther out. -/
def crn (x : Int) : Int := if x < 0 then x + 1 else x
theorem sq_le {a b : Int} (h : a ≤ b) (k : -b ≤ a) : a * a ≤ b * b := by
  have := Int.mul_nonneg (show 0 ≤ b - a by omega) (show 0 ≤ b + a by omega)
  have e : (b - a) * (b + a) = b * b - a * a := by grind
  omega
theorem crn_sq {n : Int} : 4096 * (crn (fl64 n) * crn (fl64 n)) ≤ (2 * n - 65536) * (2 * n - 65536) := by
  have e : 4096 * (crn (fl64 n) * crn (fl64 n)) = (64 * crn (fl64 n)) * (64 * crn (fl64 n)) := by grind
  rw [e]
  unfold crn fl64
  generalize 2 * n - 65536 = m
  have h1 : 64 * (m / 64) ≤ m := Int.mul_ediv_self_le (by omega)
  have h2 : m < 64 * (m / 64) + 64 := by omega
  split
  · have := sq_le (a := -(64 * (m / 64 + 1))) (b := -m) (by omega) (by omega)
    simp only [Int.neg_mul_neg] at this
    exact this
  · exact sq_le (by omega) (by omega)
theorem dl_mem {z : List Int} : ∀ (k : Nat), z ∈ dl k → ∃ i, hin i = true ∧ z = hpz i
  | 0, h => by simp [dl] at h
  | k + 1, h => by
    cases hh : hin (k + 1 : Nat)
    · rw [dl_out hh] at h; exact dl_mem k h
    · rw [dl_in hh] at h
      rcases List.mem_append.1 h with h | h
      · exact dl_mem k h
      · exact ⟨_, hh, by simpa using h⟩
theorem pt_ok {z : List Int} {k : Nat} (h : z ∈ dl k) : ∃ x y, z = [x, y] ∧ -1024 ≤ x ∧ x ≤ 1024 ∧ -1024 ≤ y ∧ y ≤ 1024 ∧ crn x * crn x + crn y * crn y ≤ 1048576 := by
  obtain ⟨i, h1, rfl⟩ := dl_mem k h
  obtain ⟨⟨g0, g1, g2, g3⟩, g4⟩ := hins_ok h1
  obtain ⟨b1, b2⟩ := fl64_bd g0 g1
  obtain ⟨b3, b4⟩ := fl64_bd g2 g3
  refine ⟨_, _, rfl, b1, b2, b3, b4, ?_⟩
  have s1 := crn_sq (n := Sx.hpt 2 i)
  have s2 := crn_sq (n := Sx.hpt 3 i)
  omega
theorem dl_rows {k : Nat} : ∀ z ∈ dl k, z.length = 2 ∧ ∀ x ∈ z, I x := by
  intro z hz
  obtain ⟨x, y, rfl, h1, h2, h3, h4, _⟩ := pt_ok hz
  refine ⟨rfl, fun u hu => ?_⟩
  simp only [List.mem_cons, List.not_mem_nil, or_false] at hu
  rcases hu with rfl | rfl <;> exact ⟨by omega, by omega⟩
theorem pts_mem {n : Nat} {z : List Int} (h : z ∈ pts n) : z ∈ dl 65535 := List.mem_of_mem_take h
end Mt
end Go.Proofs.Ytndnjjeildnhdaa
