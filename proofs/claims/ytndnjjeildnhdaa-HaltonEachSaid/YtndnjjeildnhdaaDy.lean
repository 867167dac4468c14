/- HaltonEach, plain: each number's inverse has a place of its own. -/
import Derived.Test.YtndnjjeildnhdaaDv
set_option linter.unusedVariables false
set_option linter.unusedSimpArgs false
namespace Go.Proofs.Ytndnjjeildnhdaa
open Go.RowKit
open Mt Ro
namespace Mt
def nE (b : Int) (i : Nat) : Int := (Sx.hinv [b, i]).1
def dE (b : Int) (i : Nat) : Int := (Sx.hinv [b, i]).2
def atE (b M : Int) (i : Nat) : Int := nE b i * (M / dE b i)
def okE (b M : Int) (i : Nat) : Bool := decide (1 ≤ dE b i) && (decide (M % dE b i = 0) && (decide (0 ≤ nE b i) && (decide (0 ≤ atE b M i) && decide (atE b M i < M))))
def chk (b M : Int) : Nat → Nat → Nat → Bool
  | 0, _, _ => true
  | f + 1, i, m => okE b M i && (!(m.testBit (atE b M i).toNat) && chk b M f (i + 1) (m ||| 1 <<< (atE b M i).toNat))
def allE : Bool := (List.range 15).all fun b => (List.range 5).all fun k => decide ((300 : Int) < ((b + 2 : Nat) : Int) ^ k) || chk ((b + 2 : Nat) : Int) (((b + 2 : Nat) : Int) ^ k) (((b + 2 : Nat) : Int) ^ k).toNat 0 0
theorem allE_ok : allE = true := by decide +kernel
theorem chk_all {b : Int} {k : Nat} (h0 : 2 ≤ b) (h1 : b ≤ 16) (hk : k ≤ 4) (hM : b ^ k ≤ 300) : chk b (b ^ k) (b ^ k).toNat 0 0 = true := by
  obtain ⟨c, rfl⟩ : ∃ c : Nat, b = ((c + 2 : Nat) : Int) := ⟨(b - 2).toNat, by omega⟩
  have h := allE_ok
  unfold allE at h
  rw [List.all_eq_true] at h
  have h2 := h c (by rw [List.mem_range]; omega)
  rw [List.all_eq_true] at h2
  have h3 := h2 k (by rw [List.mem_range]; omega)
  rw [Bool.or_eq_true] at h3
  rcases h3 with h3 | h3
  · have := of_decide_eq_true h3; omega
  · exact h3
def bitsE (m M : Nat) : List Value := (List.range M).map fun j => Value.bool (m.testBit j)
theorem bits_getE {m M j : Nat} (h : j < M) : (bitsE m M)[j]? = some (.bool (m.testBit j)) := by
  unfold bitsE
  simp [List.getElem?_map, List.getElem?_range h]
theorem bits_setE {m M j : Nat} (h : j < M) : (bitsE m M).set j (.bool true) = bitsE (m ||| 1 <<< j) M := by
  apply List.ext_getElem?
  intro i
  by_cases hi : i < M
  · rw [bits_getE hi]
    by_cases e : j = i
    · subst e
      rw [List.getElem?_set_self (by unfold bitsE; simpa using hi)]
      simp [Nat.testBit_or, Nat.testBit_shiftLeft]
    · rw [List.getElem?_set_ne e, bits_getE hi]
      have : (1 <<< j).testBit i = false := by
        rw [Nat.testBit_shiftLeft]
        by_cases hji : j ≤ i
        · have : (1 : Nat).testBit (i - j) = false := by
            rw [show i - j = (i - j - 1) + 1 by omega, Nat.testBit_succ]; simp
          simp [this]
        · simp [hji]
      simp [Nat.testBit_or, this]
  · rw [List.getElem?_eq_none (by simp [bitsE]; omega), List.getElem?_eq_none (by simp [bitsE]; omega)]
theorem bits_zero (M : Nat) : bitsE 0 M = List.replicate M (.bool false) := by
  unfold bitsE
  simp [List.map_const']
theorem own_blk {w : World} {base : Nat} {e : TypeId} {g n cap : Nat} {xs : List Value} (h : w.ownsRow base e 1 (.slice (some ⟨g, 0, none⟩) n cap) n xs) : Blk w g xs := by
  rcases h.2 with ⟨hv, _⟩ | ⟨g', cap', cur, hv, hb, hh, hc, ht0⟩
  · cases hv
  · injection hv with h1 h2 h3
    injection h1 with h1; injection h1 with h1
    subst h1
    have ht := ht0.2.2
    refine ⟨(Array.getElem?_eq_some_iff.1 hh).1, fun i v hi => ?_⟩
    rw [← ht] at hi
    have hlt : i < n * 1 := by
      apply Classical.byContradiction; intro hn
      rw [List.getElem?_eq_none (by rw [List.length_take]; omega)] at hi; cases hi
    rw [List.getElem?_take_of_lt hlt] at hi
    refine ⟨?_, by simp [World.frozen?, hh]⟩
    unfold World.cell?
    rw [show (⟨g, i, none⟩ : Addr).block = g from rfl, hh]
    simpa using hi
theorem pow_bd {b : Int} (h0 : 2 ≤ b) (h1 : b ≤ 16) : ∀ k : Nat, k ≤ 4 → 1 ≤ b ^ k ∧ b ^ k ≤ 16 ^ k
  | 0, _ => by simp
  | k + 1, h => by
    obtain ⟨p1, p2⟩ := pow_bd h0 h1 k (by omega)
    rw [Int.pow_succ, Int.pow_succ]
    refine ⟨?_, Int.mul_le_mul p2 h1 (by omega) (by have : (0 : Int) ≤ 16 ^ k := Int.le_of_lt (Int.pow_pos (by decide)); exact this)⟩
    have : 1 * 1 ≤ b ^ k * b := Int.mul_le_mul p1 (by omega) (by omega) (by omega)
    omega
theorem pow_le16 {k : Nat} (h : k ≤ 4) : (16 : Int) ^ k ≤ 65536 := by
  have : k = 0 ∨ k = 1 ∨ k = 2 ∨ k = 3 ∨ k = 4 := by omega
  rcases this with rfl | rfl | rfl | rfl | rfl <;> decide
theorem okE_ok {b M : Int} {i : Nat} (h : okE b M i = true) : 1 ≤ dE b i ∧ M % dE b i = 0 ∧ 0 ≤ nE b i ∧ 0 ≤ atE b M i ∧ atE b M i < M := by
  unfold okE at h
  simp only [Bool.and_eq_true, decide_eq_true_eq] at h
  exact h
theorem fi72 {b i : Int} (h0 : 2 ≤ b) (h1 : b ≤ 16) (h2 : 0 ≤ i) (h3 : i ≤ 65535) : Sx.fi 72 0 [b, i] = (Sx.hinv [b, i]).1 ∧ Sx.fi 72 1 [b, i] = (Sx.hinv [b, i]).2 ∧ Sx.fi 72 2 [b, i] = 0 := by
  have hk : Sx.hok [b, i] = true := by simp [Sx.hok]; omega
  have e0 : Sx.fi 72 0 [b, i] = if Sx.hok [b, i] then (Sx.hinv [b, i]).1 else 0 := rfl
  have e1 : Sx.fi 72 1 [b, i] = if Sx.hok [b, i] then (Sx.hinv [b, i]).2 else 0 := rfl
  have e2 : Sx.fi 72 2 [b, i] = if Sx.hok [b, i] then 0 else 1 := rfl
  rw [e0, e1, e2, hk]; exact ⟨rfl, rfl, rfl⟩
end Mt
end Go.Proofs.Ytndnjjeildnhdaa
