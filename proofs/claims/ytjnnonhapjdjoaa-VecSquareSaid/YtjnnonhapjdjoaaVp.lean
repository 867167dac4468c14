/- Plain facts on products of points. -/
import Derived.Test.YtjnnonhapjdjoaaVh
set_option linter.unusedVariables false
namespace Go.Proofs.Ytjnnonhapjdjoaa
open Go.RowKit
namespace Vc

theorem nn_comm (a b : P3) : nn a b = nn b a := by unfold nn; exact Bool.and_comm _ _
theorem nn2_comm (a b : P2) : nn2 a b = nn2 b a := by unfold nn2; exact Bool.and_comm _ _
theorem nn_iff {ax ay az bx by' bz : Int} : nn ⟨ax, ay, az⟩ ⟨bx, by', bz⟩ = true ↔
    ((-1048576 ≤ ax ∧ ax ≤ 1048576) ∧ (-1048576 ≤ ay ∧ ay ≤ 1048576) ∧ (-1048576 ≤ az ∧ az ≤ 1048576)) ∧ ((-1048576 ≤ bx ∧ bx ≤ 1048576) ∧ (-1048576 ≤ by' ∧ by' ≤ 1048576) ∧ (-1048576 ≤ bz ∧ bz ≤ 1048576)) := by
  unfold nn; rw [Bool.and_eq_true, nr3_iff, nr3_iff]

theorem cr_facts {ax ay az bx by' bz : Int} (h : nn ⟨ax, ay, az⟩ ⟨bx, by', bz⟩ = true) : ∃ x y z : Int,
    cr ⟨ax, ay, az⟩ ⟨bx, by', bz⟩ = ⟨x, y, z⟩ ∧ cr ⟨bx, by', bz⟩ ⟨ax, ay, az⟩ = ⟨-x, -y, -z⟩ ∧
    (-2199023255552 ≤ x ∧ x ≤ 2199023255552) ∧ (-2199023255552 ≤ y ∧ y ≤ 2199023255552) ∧ (-2199023255552 ≤ z ∧ z ≤ 2199023255552) ∧
    ax * x + ay * y + az * z = 0 ∧ bx * x + by' * y + bz * z = 0 := by
  have h' : nn ⟨bx, by', bz⟩ ⟨ax, ay, az⟩ = true := by rw [nn_comm]; exact h
  obtain ⟨⟨hx, hy, hz⟩, ⟨gx, gy, gz⟩⟩ := nn_iff.1 h
  refine ⟨ay * bz - az * by', az * bx - ax * bz, ax * by' - ay * bx, by unfold cr; rw [if_pos h], ?_, ?_, ?_, ?_, ?_, ?_⟩
  · unfold cr; rw [if_pos h']
    simp only [P3.mk.injEq]
    refine ⟨?_, ?_, ?_⟩
    · rw [Int.mul_comm by' az, Int.mul_comm bz ay]; omega
    · rw [Int.mul_comm bz ax, Int.mul_comm bx az]; omega
    · rw [Int.mul_comm bx ay, Int.mul_comm by' ax]; omega
  · have a := mul_bd 1099511627776 (by decide) hy gz; have b := mul_bd 1099511627776 (by decide) hz gy; omega
  · have a := mul_bd 1099511627776 (by decide) hz gx; have b := mul_bd 1099511627776 (by decide) hx gz; omega
  · have a := mul_bd 1099511627776 (by decide) hx gy; have b := mul_bd 1099511627776 (by decide) hy gx; omega
  · simp only [Int.mul_sub, Int.mul_left_comm]; omega
  · simp only [Int.mul_sub, Int.mul_comm, Int.mul_left_comm]; omega
end Vc
end Go.Proofs.Ytjnnonhapjdjoaa
