/- Plain facts on quotients, roots and bounds: nothing of the program. -/
import Derived.Test.YtlfoglklibhbnaaGreatCm
namespace Go.Proofs.YtlfoglklibhbnaaGreat
set_option linter.unusedVariables false
namespace Wh

theorem tdiv_I {a b : Int} (ha : I a) (hb0 : ¬ b = 0) (h : ¬ (a = -9223372036854775808 ∧ b = -1)) : I (a.tdiv b) := by
  have h1 : (a.tdiv b).natAbs = a.natAbs / b.natAbs := Int.natAbs_tdiv a b
  have h2 : a.natAbs / b.natAbs ≤ a.natAbs := Nat.div_le_self _ _
  obtain ⟨ha1, ha2⟩ := ha
  by_cases hb : b.natAbs = 1
  · rcases Int.natAbs_eq b with e | e
    · rw [hb] at e; subst e; exact ⟨by simpa using ha1, by simpa using ha2⟩
    · rw [hb] at e; subst e
      have : a.tdiv (-((1 : Nat) : Int)) = -a := by simp
      rw [this]
      have hne : a ≠ -9223372036854775808 := fun hh => h ⟨hh, rfl⟩
      exact ⟨by omega, by omega⟩
  · have hb2 : 2 ≤ b.natAbs := by omega
    have h3 : a.natAbs / b.natAbs ≤ a.natAbs / 2 := Nat.div_le_div_left hb2 (by omega)
    exact ⟨by omega, by omega⟩

theorem tmod_I {a b : Int} (hb : I b) (hb0 : ¬ b = 0) : I (a.tmod b) := by
  have h1 : (a.tmod b).natAbs = a.natAbs % b.natAbs := Int.natAbs_tmod a b
  have h2 : a.natAbs % b.natAbs < b.natAbs := Nat.mod_lt _ (by omega)
  obtain ⟨hb1, hb2⟩ := hb
  exact ⟨by omega, by omega⟩

theorem tmod_lt {a b : Int} (hb0 : ¬ b = 0) : (a.tmod b).natAbs < b.natAbs := by
  have h1 : (a.tmod b).natAbs = a.natAbs % b.natAbs := Int.natAbs_tmod a b
  have h2 : a.natAbs % b.natAbs < b.natAbs := Nat.mod_lt _ (by omega)
  omega

/-- The side of an exclusive or. -/
theorem xor_neg {r b : Int} (hr : I r) (hb : I b) : bits .xor .i64 r b < 0 ↔ ¬ (r < 0 ↔ b < 0) := by
  have key : ∀ x : BitVec 64, IntKind.i64.wrap (x.toNat : Int) = x.toInt := by
    intro x
    rw [BitVec.toInt_eq_toNat_cond]
    have := x.isLt
    simp only [IntKind.wrap, IntKind.bits, IntKind.signed]
    simp
    split <;> omega
  have ofI : ∀ a : Int, I a → (BitVec.ofInt 64 a).toInt = a := by
    intro a ⟨h1, h2⟩
    rw [BitVec.toInt_ofInt, Int.bmod_def]
    simp
    split <;> omega
  have hm : ∀ a : Int, I a → (BitVec.ofInt 64 a).msb = decide (a < 0) := by
    intro a h
    rw [BitVec.msb_eq_toInt, ofI a h]
  show IntKind.i64.wrap ((BitVec.ofInt 64 r ^^^ BitVec.ofInt 64 b).toNat : Int) < 0 ↔ _
  rw [key]
  have e : ((BitVec.ofInt 64 r ^^^ BitVec.ofInt 64 b).toInt < 0) ↔ (BitVec.ofInt 64 r ^^^ BitVec.ofInt 64 b).msb = true := by
    rw [BitVec.msb_eq_toInt]; simp
  rw [e, BitVec.msb_xor, hm r hr, hm b hb]
  by_cases h1 : r < 0 <;> by_cases h2 : b < 0 <;> simp [h1, h2]

/-- What is not divided: by 0, and the least one by -1. -/
def bad (a b : Int) : Bool := (b == 0) || ((a == -9223372036854775808) && (b == -1))
/-- The number of the refusal. -/
def fe (a b : Int) : Int := if b = 0 then 3 else if a = -9223372036854775808 ∧ b = -1 then 4 else 0
def fq (a b : Int) : Int := if fe a b = 0 then a.fdiv b else 0
def fr (a b : Int) : Int := if fe a b = 0 then a.fmod b else 0
/-- Rounded up. -/
def cq (a b : Int) : Int := if fe a b = 0 then (if a.fmod b = 0 then a.fdiv b else a.fdiv b + 1) else 0

theorem fe_ok {a b : Int} : fe a b = 0 ↔ ¬ b = 0 ∧ ¬ (a = -9223372036854775808 ∧ b = -1) := by
  unfold fe; split
  · simp [*]
  · split <;> simp [*]

theorem fmod_range (a : Int) {b : Int} (hb : b ≠ 0) : (0 ≤ a.fmod b ∧ a.fmod b < b) ∨ (b < a.fmod b ∧ a.fmod b ≤ 0) := by
  rcases Int.lt_or_gt_of_ne hb with hn | hp
  · right
    have h1 := @Int.fmod_eq_emod a b
    have h2 := Int.emod_nonneg a hb
    have h3 := Int.emod_lt_of_neg a hn
    by_cases hd : b ∣ a
    · have := Int.emod_eq_zero_of_dvd hd
      rw [if_pos (Or.inr hd)] at h1; omega
    · have : a % b ≠ 0 := fun h => hd (Int.dvd_of_emod_eq_zero h)
      rw [if_neg (by intro hh; rcases hh with hh | hh; · omega
                     · exact hd hh)] at h1; omega
  · left; exact ⟨Int.fmod_nonneg_of_pos a hp, Int.fmod_lt_of_pos a hp⟩

/-- A quotient that is rounded down is the only one. -/
theorem fdiv_unique {a b q r : Int} (h : b * q + r = a) (hr : (0 ≤ r ∧ r < b) ∨ (b < r ∧ r ≤ 0)) : a.fdiv b = q ∧ a.fmod b = r := by
  have hb : b ≠ 0 := by omega
  have e := Int.mul_fdiv_add_fmod a b
  have h2 := fmod_range a hb
  have hq : b * (q - a.fdiv b) = a.fmod b - r := by rw [Int.mul_sub]; omega
  have hz : q - a.fdiv b = 0 := by
    apply Classical.byContradiction
    intro hne
    have habs : b.natAbs * (q - a.fdiv b).natAbs = (a.fmod b - r).natAbs := by rw [← Int.natAbs_mul, hq]
    have h1 : 1 ≤ (q - a.fdiv b).natAbs := by omega
    have h3 : b.natAbs * 1 ≤ b.natAbs * (q - a.fdiv b).natAbs := Nat.mul_le_mul_left _ h1
    omega
  have : q = a.fdiv b := by omega
  subst this
  exact ⟨rfl, by omega⟩

/-- The side of what is left. -/
theorem tmod_side (a b : Int) : (0 ≤ a → 0 ≤ a.tmod b) ∧ (a ≤ 0 → a.tmod b ≤ 0) := by
  constructor
  · intro h; exact Int.tmod_nonneg b h
  · intro h
    have := Int.tmod_nonneg b (show 0 ≤ -a by omega)
    rw [Int.neg_tmod] at this; omega

theorem fdiv_same {a b : Int} (hb : ¬ b = 0) (h : a.tmod b = 0 ∨ (a.tmod b < 0 ↔ b < 0)) : a.fdiv b = a.tdiv b ∧ a.fmod b = a.tmod b := by
  apply fdiv_unique
  · have := Int.mul_tdiv_add_tmod a b; omega
  · have := tmod_lt (a := a) hb
    omega

theorem fdiv_less {a b : Int} (hb : ¬ b = 0) (h0 : ¬ a.tmod b = 0) (h : ¬ (a.tmod b < 0 ↔ b < 0)) : a.fdiv b = a.tdiv b - 1 ∧ a.fmod b = a.tmod b + b := by
  apply fdiv_unique
  · have := Int.mul_tdiv_add_tmod a b; rw [Int.mul_sub, Int.mul_one]; omega
  · have := tmod_lt (a := a) hb
    omega

theorem fdiv_I {a b : Int} (ha : I a) (hb : I b) (hb0 : ¬ b = 0) (h : ¬ (a = -9223372036854775808 ∧ b = -1)) : I (a.fdiv b) := by
  obtain ⟨t1, t2⟩ := tdiv_I ha hb0 h
  by_cases h0 : a.tmod b = 0 ∨ (a.tmod b < 0 ↔ b < 0)
  · rw [(fdiv_same hb0 h0).1]; exact ⟨t1, t2⟩
  · have h1 : ¬ a.tmod b = 0 := fun hh => h0 (Or.inl hh)
    have h2 : ¬ (a.tmod b < 0 ↔ b < 0) := fun hh => h0 (Or.inr hh)
    have e := fdiv_less hb0 h1 h2
    rw [e.1]
    refine ⟨?_, by omega⟩
    apply Classical.byContradiction
    intro hc
    have ht : a.tdiv b = -9223372036854775808 := by omega
    have h3 : (a.tdiv b).natAbs = a.natAbs / b.natAbs := Int.natAbs_tdiv a b
    have h4 := tmod_lt (a := a) hb0
    obtain ⟨ha1, ha2⟩ := ha
    have hb1 : b.natAbs = 1 := by
      apply Classical.byContradiction
      intro hn
      have : a.natAbs / b.natAbs ≤ a.natAbs / 2 := Nat.div_le_div_left (by omega) (by omega)
      omega
    omega

theorem fmod_I {a b : Int} (hb : I b) (hb0 : ¬ b = 0) : I (a.fmod b) := by
  have := fmod_range a hb0
  obtain ⟨h1, h2⟩ := hb
  exact ⟨by omega, by omega⟩

/-- One more than a quotient of something that is not divided whole is an int. -/
theorem fq_I {a b : Int} (ha : I a) (hb0 : ¬ b = 0) (hb : I b) (hz : ¬ a.fmod b = 0) : -9223372036854775808 ≤ a.fdiv b + 1 ∧ a.fdiv b + 1 ≤ 9223372036854775807 := by
  have hnw : ¬ (a = -9223372036854775808 ∧ b = -1) := by
    rintro ⟨rfl, rfl⟩; exact hz (by decide)
  obtain ⟨t1, t2⟩ := tdiv_I ha hb0 hnw
  by_cases h0 : a.tmod b = 0 ∨ (a.tmod b < 0 ↔ b < 0)
  · have e := fdiv_same hb0 h0
    rw [e.1]; rw [e.2] at hz
    refine ⟨by omega, ?_⟩
    apply Classical.byContradiction
    intro hc
    have ht : a.tdiv b = 9223372036854775807 := by omega
    have h3 : (a.tdiv b).natAbs = a.natAbs / b.natAbs := Int.natAbs_tdiv a b
    have h4 := tmod_lt (a := a) hb0
    obtain ⟨ha1, ha2⟩ := ha
    have hb1 : b.natAbs = 1 := by
      apply Classical.byContradiction
      intro hn
      have : a.natAbs / b.natAbs ≤ a.natAbs / 2 := Nat.div_le_div_left (by omega) (by omega)
      omega
    omega
  · have h1 : ¬ a.tmod b = 0 := fun hh => h0 (Or.inl hh)
    have h2 : ¬ (a.tmod b < 0 ↔ b < 0) := fun hh => h0 (Or.inr hh)
    have e := fdiv_less hb0 h1 h2
    rw [e.1]
    exact ⟨by omega, by omega⟩

/-- Clamp's refusal, and its answer. -/
def cle (low most : Int) : Int := if most < low then 1 else 0
def clv (n low most : Int) : Int := if most < low then 0 else min (max n low) most
end Wh
end Go.Proofs.YtlfoglklibhbnaaGreat
