/- Plain facts on products of points. -/
import Derived.Test.YtjnnonhapjdjoaaVh
set_option linter.unusedVariables false
namespace Go.Proofs.Ytjnnonhapjdjoaa
open Go.RowKit
namespace Vc

theorem nn_comm (a b : P3) : nn a b = nn b a := by unfold nn; exact Bool.and_comm _ _
theorem nn2_comm (a b : P2) : nn2 a b = nn2 b a := by unfold nn2; exact Bool.and_comm _ _
theorem nn_iff {ax ay az bx by' bz : Int} : nn ⟨ax, ay, az⟩ ⟨bx, by', bz⟩ = true ↔
    ((-1048576 ≤ ax ∧ ax ≤ 1048576) ∧ (-1048576 ≤ ay ∧ ay ≤ 1048576) ∧ (-1048576 ≤ az ∧ az ≤ 1048576)) ∧ ((-1048576 ≤ bx ∧ bx ≤ 1048576) ∧ (-1048576 ≤ by' ∧ by' ≤ 1048576) ∧ (-1048576 ≤ bz ∧ bz ≤ 1048576)) := by
  unfold nn; rw [Bool.and_eq_true, nr3_iff, nr3_iff]

theorem cr_facts {ax ay az bx by' bz : Int} (h : nn ⟨ax, ay, az⟩ ⟨bx, by', bz⟩ = true) : ∃ x y z : Int,
    cr ⟨ax, ay, az⟩ ⟨bx, by', bz⟩ = ⟨x, y, z⟩ ∧ cr ⟨bx, by', bz⟩ ⟨ax, ay, az⟩ = ⟨-x, -y, -z⟩ ∧
    (-2199023255552 ≤ x ∧ x ≤ 2199023255552) ∧ (-2199023255552 ≤ y ∧ y ≤ 2199023255552) ∧ (-2199023255552 ≤ z ∧ z ≤ 2199023255552) ∧
    ax * x + ay * y + az * z = 0 ∧ bx * x + by' * y + bz * z = 0 := by
  have h' : nn ⟨bx, by', bz⟩ ⟨ax, ay, az⟩ = true := by rw [nn_comm]; exact h
  obtain ⟨⟨hx, hy, hz⟩, ⟨gx, gy, gz⟩⟩ := nn_iff.1 h
  refine ⟨ay * bz - az * by', az * bx - ax * bz, ax * by' - ay * bx, by unfold cr; rw [if_pos h], ?_, ?_, ?_, ?_, ?_, ?_⟩
  · unfold cr; rw [if_pos h']
    simp only [P3.mk.injEq]
    refine ⟨?_, ?_, ?_⟩
    · rw [Int.mul_comm by' az, Int.mul_comm bz ay]; omega
    · rw [Int.mul_comm bz ax, Int.mul_comm bx az]; omega
    · rw [Int.mul_comm bx ay, Int.mul_comm by' ax]; omega
  · have a := mul_bd 1099511627776 (by decide) hy gz; have b := mul_bd 1099511627776 (by decide) hz gy; omega
  · have a := mul_bd 1099511627776 (by decide) hz gx; have b := mul_bd 1099511627776 (by decide) hx gz; omega
  · have a := mul_bd 1099511627776 (by decide) hx gy; have b := mul_bd 1099511627776 (by decide) hy gx; omega
  · simp only [Int.mul_sub, Int.mul_left_comm]; omega
  · simp only [Int.mul_sub, Int.mul_comm, Int.mul_left_comm]; omega

theorem I_small {x : Int} (h : -4611686018427387904 ≤ x ∧ x ≤ 4611686018427387904) : I x := ⟨by omega, by omega⟩

theorem sb_I (b c : P3) : I (sb b c).x ∧ I (sb b c).y ∧ I (sb b c).z := by
  unfold sb
  obtain ⟨b1, b2, b3⟩ := b; obtain ⟨c1, c2, c3⟩ := c
  split
  · rename_i h
    obtain ⟨⟨hx, hy, hz⟩, ⟨gx, gy, gz⟩⟩ := nn_iff.1 h
    refine ⟨I_small ?_, I_small ?_, I_small ?_⟩ <;> dsimp only <;> omega
  · exact ⟨I_small ⟨by decide, by decide⟩, I_small ⟨by decide, by decide⟩, I_small ⟨by decide, by decide⟩⟩

theorem dt_comm (a b : P3) : dt a b = dt b a := by
  unfold dt; rw [nn_comm b a, Int.mul_comm b.x, Int.mul_comm b.y, Int.mul_comm b.z]
theorem dt_bd (a b : P3) : -3298534883328 ≤ dt a b ∧ dt a b ≤ 3298534883328 := by
  unfold dt
  obtain ⟨a1, a2, a3⟩ := a; obtain ⟨b1, b2, b3⟩ := b
  split
  · rename_i h
    obtain ⟨⟨hx, hy, hz⟩, ⟨gx, gy, gz⟩⟩ := nn_iff.1 h
    have p := mul_bd 1099511627776 (by decide) hx gx; have q := mul_bd 1099511627776 (by decide) hy gy; have r := mul_bd 1099511627776 (by decide) hz gz
    dsimp only; omega
  · omega
theorem ne3_comm (a b : P3) : ne3 a b = ne3 b a := by unfold ne3; rw [nn_comm]
theorem dt_sub {a b c : P3} (h1 : nn a b = true) (h2 : nn a c = true) (h3 : nn a (sb b c) = true) : dt a (sb b c) = dt a b - dt a c := by
  have h4 : nn b c = true := by unfold nn at *; simp only [Bool.and_eq_true] at *; exact ⟨h1.2, h2.2⟩
  have e : sb b c = ⟨b.x - c.x, b.y - c.y, b.z - c.z⟩ := by unfold sb; rw [if_pos h4]
  have e1 : dt a (sb b c) = a.x * (b.x - c.x) + a.y * (b.y - c.y) + a.z * (b.z - c.z) := by
    rw [e] at h3 ⊢; unfold dt; rw [if_pos h3]
  rw [e1]; unfold dt; rw [if_pos h1, if_pos h2, Int.mul_sub, Int.mul_sub, Int.mul_sub]; omega
theorem ne3_yes {a b : P3} (h : nn a b = true) : ne3 a b = 0 := by unfold ne3; rw [if_pos h]
theorem ne3_no {a b : P3} (h : ¬ nn a b = true) : ne3 a b = 5 := by unfold ne3; rw [if_neg h]
theorem ne2_yes {a b : P2} (h : nn2 a b = true) : ne2 a b = 0 := by unfold ne2; rw [if_pos h]
theorem ne2_no {a b : P2} (h : ¬ nn2 a b = true) : ne2 a b = 5 := by unfold ne2; rw [if_neg h]
end Vc
end Go.Proofs.Ytjnnonhapjdjoaa
