/- Contracts, reckoned. -/
import Derived.Test.YtbgcjbhaaelkhaaP2
import Derived.Test.YtbgcjbhaaelkhaaFw
import Derived.KernelRfl
set_option linter.unusedVariables false
set_option linter.unusedSimpArgs false
namespace Go.Proofs.Ytbgcjbhaaelkhaa.Sx
open Go.RowKit

theorem face_ok {X Y Z : Int} (hx : -2147483648 ≤ X ∧ X ≤ 2147483648) (hy : -2147483648 ≤ Y ∧ Y ≤ 2147483648) (hz : -2147483648 ≤ Z ∧ Z ≤ 2147483648) (h : ¬ (X = 0 ∧ Y = 0 ∧ Z = 0)) :
    (axis X Y Z = 0 ∧ ((0 < X ∧ Y ≤ X ∧ -Y ≤ X ∧ Z ≤ X ∧ -Z ≤ X) ∨ (X < 0 ∧ Y ≤ -X ∧ -Y ≤ -X ∧ Z ≤ -X ∧ -Z ≤ -X))) ∨
    (axis X Y Z = 1 ∧ ((0 < Y ∧ X ≤ Y ∧ -X ≤ Y ∧ Z ≤ Y ∧ -Z ≤ Y) ∨ (Y < 0 ∧ X ≤ -Y ∧ -X ≤ -Y ∧ Z ≤ -Y ∧ -Z ≤ -Y))) ∨
    (axis X Y Z = 2 ∧ ((0 < Z ∧ X ≤ Z ∧ -X ≤ Z ∧ Y ≤ Z ∧ -Y ≤ Z) ∨ (Z < 0 ∧ X ≤ -Z ∧ -X ≤ -Z ∧ Y ≤ -Z ∧ -Y ≤ -Z))) := by
  have e : ∀ n : Int, -2147483648 ≤ n ∧ n ≤ 2147483648 → low n ≤ n ∧ low n ≤ -n ∧ (low n = n ∨ low n = -n) := fun n hn => by
    unfold low; split
    · rw [wr (by omega)]; omega
    · omega
  have ex := e X hx; have ey := e Y hy; have ez := e Z hz
  unfold axis
  generalize low X = lx at *
  generalize low Y = ly at *
  generalize low Z = lz at *
  by_cases c1 : ly < lx
  · by_cases c2 : lz < ly
    · rw [if_pos c1, if_pos c2]
      right; right; refine ⟨rfl, ?_⟩
      rcases ez.2.2 with h1 | h1
      · right; exact ⟨by omega, by omega, by omega, by omega, by omega⟩
      · left; exact ⟨by omega, by omega, by omega, by omega, by omega⟩
    · rw [if_pos c1, if_neg c2]
      right; left; refine ⟨rfl, ?_⟩
      rcases ey.2.2 with h1 | h1
      · right; exact ⟨by omega, by omega, by omega, by omega, by omega⟩
      · left; exact ⟨by omega, by omega, by omega, by omega, by omega⟩
  · by_cases c2 : lz < lx
    · rw [if_neg c1, if_pos c2]
      right; right; refine ⟨rfl, ?_⟩
      rcases ez.2.2 with h1 | h1
      · right; exact ⟨by omega, by omega, by omega, by omega, by omega⟩
      · left; exact ⟨by omega, by omega, by omega, by omega, by omega⟩
    · rw [if_neg c1, if_neg c2]
      left; refine ⟨rfl, ?_⟩
      rcases ex.2.2 with h1 | h1
      · right; exact ⟨by omega, by omega, by omega, by omega, by omega⟩
      · left; exact ⟨by omega, by omega, by omega, by omega, by omega⟩
theorem sgn_p {x : Int} (h : 0 < x) : sgn x = 1 := by unfold sgn; rw [if_neg (by omega), if_pos h]
theorem sgn_n {x : Int} (h : x < 0) : sgn x = -1 := by unfold sgn; rw [if_pos h]
theorem nx_b {a0 a1 a2 a3 a4 a5 a6 a7 a8 : Int} (h0 : ss a0 = true) (h1 : ss a1 = true) (h2 : ss a2 = true) (h3 : ss a3 = true) (h4 : ss a4 = true) (h5 : ss a5 = true) (h6 : ss a6 = true) (h7 : ss a7 = true) (h8 : ss a8 = true) :
    (-2147483648 ≤ nx [a0, a1, a2, a3, a4, a5, a6, a7, a8] ∧ nx [a0, a1, a2, a3, a4, a5, a6, a7, a8] ≤ 2147483648) ∧ (-2147483648 ≤ ny [a0, a1, a2, a3, a4, a5, a6, a7, a8] ∧ ny [a0, a1, a2, a3, a4, a5, a6, a7, a8] ≤ 2147483648) ∧ (-2147483648 ≤ nz [a0, a1, a2, a3, a4, a5, a6, a7, a8] ∧ nz [a0, a1, a2, a3, a4, a5, a6, a7, a8] ≤ 2147483648) := by
  have c0 := ss_b h0; have c1 := ss_b h1; have c2 := ss_b h2; have c3 := ss_b h3; have c4 := ss_b h4; have c5 := ss_b h5; have c6 := ss_b h6; have c7 := ss_b h7; have c8 := ss_b h8
  simp only [nx, ny, nz, List.getD_cons_zero, List.getD_cons_succ]
  exact ⟨cr2_b (by omega) (by omega) (by omega) (by omega), cr2_b (by omega) (by omega) (by omega) (by omega), cr2_b (by omega) (by omega) (by omega) (by omega)⟩

def S0_SignFlat : SE := (.cons (.var 0) (.cons (.var 1) (.cons (.var 2) (.cons (.var 3) (.cons (.var 4) (.cons (.var 5) (.cons (.var 6) (.cons (.var 7) (.cons (.var 8) .nil)))))))))
def S1_SignFlat : SE := (.app 14 0 S0_SignFlat)
def S2_SignFlat : SE := (.app 14 1 S0_SignFlat)
def S3_SignFlat : SE := (.app 12 0 S0_SignFlat)
def S4_SignFlat : SE := (.app 12 1 S0_SignFlat)
def S5_SignFlat : SE := (.app 12 2 S0_SignFlat)
def S6_SignFlat : SE := (.eq S1_SignFlat (.lit 0))
def S7_SignFlat : SE := (.eq S1_SignFlat (.lit 1))
def S8_SignFlat : SE := (.sub (.lit 0) S3_SignFlat)
def S9_SignFlat : SE := (.sub (.lit 0) S4_SignFlat)
def S10_SignFlat : SE := (.sub (.lit 0) S5_SignFlat)
def S11_SignFlat : SE := (.no (.eq (.app 13 0 (.cons (.var 0) (.cons (.var 1) (.cons (.var 2) (.cons (.var 3) (.cons (.var 4) (.cons (.var 5) (.cons (.var 6) (.cons (.var 7) (.cons (.var 8) (.cons (.var 9) (.cons (.var 10) (.cons (.var 11) .nil))))))))))))) (.lit 0)))
def S12_SignFlat : SE := (.mul S3_SignFlat S2_SignFlat)
def S13_SignFlat : SE := (.mul S4_SignFlat S2_SignFlat)
def S14_SignFlat : SE := (.mul S5_SignFlat S2_SignFlat)
def S15_SignFlat : SE := (.ite S6_SignFlat (.blit true) (.ite S7_SignFlat (.blit true) (.eq S1_SignFlat (.lit 2))))
def R_SignFlat : Tree (AV × Hp) := (.node (.ite (.ite (.eq (.app 13 1 (.cons (.var 0) (.cons (.var 1) (.cons (.var 2) (.cons (.var 3) (.cons (.var 4) (.cons (.var 5) (.cons (.var 6) (.cons (.var 7) (.cons (.var 8) (.cons (.var 9) (.cons (.var 10) (.cons (.var 11) .nil))))))))))))) (.app 13 1 (.cons (.var 0) (.cons (.var 1) (.cons (.var 2) (.cons (.var 3) (.cons (.var 4) (.cons (.var 5) (.cons (.var 9) (.cons (.var 10) (.cons (.var 11) (.cons (.var 6) (.cons (.var 7) (.cons (.var 8) .nil)))))))))))))) (.ite (.eq (.add (.app 13 0 (.cons (.var 0) (.cons (.var 1) (.cons (.var 2) (.cons (.var 3) (.cons (.var 4) (.cons (.var 5) (.cons (.var 6) (.cons (.var 7) (.cons (.var 8) (.cons (.var 9) (.cons (.var 10) (.cons (.var 11) .nil))))))))))))) (.app 13 0 (.cons (.var 0) (.cons (.var 1) (.cons (.var 2) (.cons (.var 3) (.cons (.var 4) (.cons (.var 5) (.cons (.var 9) (.cons (.var 10) (.cons (.var 11) (.cons (.var 6) (.cons (.var 7) (.cons (.var 8) .nil)))))))))))))) (.lit 0)) (.ite (.ite (.eq (.var 0) (.var 3)) (.ite (.eq (.var 1) (.var 4)) (.eq (.var 2) (.var 5)) (.blit false)) (.blit false)) S11_SignFlat (.ite (.ite (.eq (.var 3) (.var 6)) (.ite (.eq (.var 4) (.var 7)) (.eq (.var 5) (.var 8)) (.blit false)) (.blit false)) S11_SignFlat (.ite (.ite (.eq (.var 6) (.var 9)) (.ite (.eq (.var 7) (.var 10)) (.eq (.var 8) (.var 11)) (.blit false)) (.blit false)) S11_SignFlat (.ite (.ite (.eq (.var 0) (.var 9)) (.ite (.eq (.var 1) (.var 10)) (.eq (.var 2) (.var 11)) (.blit false)) (.blit false)) S11_SignFlat (.blit false))))) (.blit true)) (.blit true)) (.blit true) (.ite (.eq (.app 14 2 S0_SignFlat) (.lit 0)) (.ite (.ite (.lt S1_SignFlat (.lit 0)) (.blit true) (.ite (.lt (.lit 2) S1_SignFlat) (.blit true) (.ite (.eq S2_SignFlat (.lit 1)) S15_SignFlat (.ite (.eq S2_SignFlat (.lit (-1))) S15_SignFlat (.blit true))))) (.ite (.ite (.lt S1_SignFlat (.lit 0)) (.blit true) (.ite (.lt (.lit 2) S1_SignFlat) (.blit true) (.ite (.eq S2_SignFlat (.lit 1)) (.ite S6_SignFlat (.le S12_SignFlat (.lit 0)) (.ite S7_SignFlat (.le S13_SignFlat (.lit 0)) (.le S14_SignFlat (.lit 0)))) (.ite (.eq S2_SignFlat (.lit (-1))) (.ite S6_SignFlat (.le S12_SignFlat (.lit 0)) (.ite S7_SignFlat (.le S13_SignFlat (.lit 0)) (.le S14_SignFlat (.lit 0)))) (.blit true))))) (.blit true) (.ite S15_SignFlat (.ite (.ite S6_SignFlat (.ite (.lt S12_SignFlat S3_SignFlat) (.blit true) (.lt S12_SignFlat S8_SignFlat)) (.ite S7_SignFlat (.ite (.lt S13_SignFlat S3_SignFlat) (.blit true) (.lt S13_SignFlat S8_SignFlat)) (.ite (.lt S14_SignFlat S3_SignFlat) (.blit true) (.lt S14_SignFlat S8_SignFlat)))) (.blit true) (.ite S15_SignFlat (.ite (.ite S6_SignFlat (.ite (.lt S12_SignFlat S4_SignFlat) (.blit true) (.lt S12_SignFlat S9_SignFlat)) (.ite S7_SignFlat (.ite (.lt S13_SignFlat S4_SignFlat) (.blit true) (.lt S13_SignFlat S9_SignFlat)) (.ite (.lt S14_SignFlat S4_SignFlat) (.blit true) (.lt S14_SignFlat S9_SignFlat)))) (.blit true) S15_SignFlat) (.blit false))) (.blit false))) (.blit false)) (.blit true))) (.leaf ((.bool (.ite (.ite (.eq (.app 13 1 (.cons (.var 0) (.cons (.var 1) (.cons (.var 2) (.cons (.var 3) (.cons (.var 4) (.cons (.var 5) (.cons (.var 6) (.cons (.var 7) (.cons (.var 8) (.cons (.var 9) (.cons (.var 10) (.cons (.var 11) .nil))))))))))))) (.app 13 1 (.cons (.var 0) (.cons (.var 1) (.cons (.var 2) (.cons (.var 3) (.cons (.var 4) (.cons (.var 5) (.cons (.var 9) (.cons (.var 10) (.cons (.var 11) (.cons (.var 6) (.cons (.var 7) (.cons (.var 8) .nil)))))))))))))) (.ite (.eq (.add (.app 13 0 (.cons (.var 0) (.cons (.var 1) (.cons (.var 2) (.cons (.var 3) (.cons (.var 4) (.cons (.var 5) (.cons (.var 6) (.cons (.var 7) (.cons (.var 8) (.cons (.var 9) (.cons (.var 10) (.cons (.var 11) .nil))))))))))))) (.app 13 0 (.cons (.var 0) (.cons (.var 1) (.cons (.var 2) (.cons (.var 3) (.cons (.var 4) (.cons (.var 5) (.cons (.var 9) (.cons (.var 10) (.cons (.var 11) (.cons (.var 6) (.cons (.var 7) (.cons (.var 8) .nil)))))))))))))) (.lit 0)) (.ite (.ite (.eq (.var 0) (.var 3)) (.ite (.eq (.var 1) (.var 4)) (.eq (.var 2) (.var 5)) (.blit false)) (.blit false)) S11_SignFlat (.ite (.ite (.eq (.var 3) (.var 6)) (.ite (.eq (.var 4) (.var 7)) (.eq (.var 5) (.var 8)) (.blit false)) (.blit false)) S11_SignFlat (.ite (.ite (.eq (.var 6) (.var 9)) (.ite (.eq (.var 7) (.var 10)) (.eq (.var 8) (.var 11)) (.blit false)) (.blit false)) S11_SignFlat (.ite (.ite (.eq (.var 0) (.var 9)) (.ite (.eq (.var 1) (.var 10)) (.eq (.var 2) (.var 11)) (.blit false)) (.blit false)) S11_SignFlat (.blit false))))) (.blit true)) (.blit true)) (.blit false) (.ite (.eq (.app 14 2 S0_SignFlat) (.lit 0)) (.ite (.ite (.lt S1_SignFlat (.lit 0)) (.blit true) (.ite (.lt (.lit 2) S1_SignFlat) (.blit true) (.ite (.eq S2_SignFlat (.lit 1)) (.ite S6_SignFlat (.le S12_SignFlat (.lit 0)) (.ite S7_SignFlat (.le S13_SignFlat (.lit 0)) (.le S14_SignFlat (.lit 0)))) (.ite (.eq S2_SignFlat (.lit (-1))) (.ite S6_SignFlat (.le S12_SignFlat (.lit 0)) (.ite S7_SignFlat (.le S13_SignFlat (.lit 0)) (.le S14_SignFlat (.lit 0)))) (.blit true))))) (.blit false) (.ite (.ite S6_SignFlat (.ite (.lt S12_SignFlat S3_SignFlat) (.blit true) (.lt S12_SignFlat S8_SignFlat)) (.ite S7_SignFlat (.ite (.lt S13_SignFlat S3_SignFlat) (.blit true) (.lt S13_SignFlat S8_SignFlat)) (.ite (.lt S14_SignFlat S3_SignFlat) (.blit true) (.lt S14_SignFlat S8_SignFlat)))) (.blit false) (.ite (.ite S6_SignFlat (.ite (.lt S12_SignFlat S4_SignFlat) (.blit true) (.lt S12_SignFlat S9_SignFlat)) (.ite S7_SignFlat (.ite (.lt S13_SignFlat S4_SignFlat) (.blit true) (.lt S13_SignFlat S9_SignFlat)) (.ite (.lt S14_SignFlat S4_SignFlat) (.blit true) (.lt S14_SignFlat S9_SignFlat)))) (.blit false) (.ite (.ite S6_SignFlat (.ite (.lt S12_SignFlat S5_SignFlat) (.blit true) (.lt S12_SignFlat S10_SignFlat)) (.ite S7_SignFlat (.ite (.lt S13_SignFlat S5_SignFlat) (.blit true) (.lt S13_SignFlat S10_SignFlat)) (.ite (.lt S14_SignFlat S5_SignFlat) (.blit true) (.lt S14_SignFlat S10_SignFlat)))) (.blit false) (.app 20 0 .nil))))) (.ite (.app 20 0 .nil) (.ite (.ite (.eq (.app 12 3 S0_SignFlat) (.lit 0)) (.eq (.app 14 2 S0_SignFlat) (.lit 3)) (.no (.eq (.app 14 2 S0_SignFlat) (.lit 3)))) (.ite (.eq (.app 12 3 S0_SignFlat) (.lit 0)) (.ite (.ite (.eq S3_SignFlat (.lit 0)) (.ite (.eq S4_SignFlat (.lit 0)) (.eq S5_SignFlat (.lit 0)) (.blit false)) (.blit false)) (.ite S6_SignFlat (.eq S2_SignFlat (.lit 0)) (.blit false)) (.blit false)) (.ite S6_SignFlat (.eq S2_SignFlat (.lit 0)) (.blit false))) (.blit false)) (.blit false))))), [])) (.fail))
theorem k_SignFlat : acall cy2 20 false 10 [] (argsG [.g 3, .g 3, .g 3, .g 3] 0 0) (heapG [.g 3, .g 3, .g 3, .g 3] 0) = R_SignFlat := by kernel_rfl
set_option maxHeartbeats 4000000 in
set_option maxRecDepth 20000 in
theorem v_SignFlat : ∀ l : List Int, l.length = lenSh [.g 3, .g 3, .g 3, .g 3] → Any l → ((R_SignFlat.map fun r => valOf (E.at l) r.1).sel (E.at l)) = some (some (tupleV (resV E 20 l [.b] 0 0))) := by
  intro l hl hG
  have h0 : l.length = 12 := hl
  clear hl
  obtain ⟨a0, l1, rfl, h1⟩ := cut1 h0
  clear h0
  obtain ⟨a1, l2, rfl, h2⟩ := cut1 h1
  clear h1
  obtain ⟨a2, l3, rfl, h3⟩ := cut1 h2
  clear h2
  obtain ⟨a3, l4, rfl, h4⟩ := cut1 h3
  clear h3
  obtain ⟨a4, l5, rfl, h5⟩ := cut1 h4
  clear h4
  obtain ⟨a5, l6, rfl, h6⟩ := cut1 h5
  clear h5
  obtain ⟨a6, l7, rfl, h7⟩ := cut1 h6
  clear h6
  obtain ⟨a7, l8, rfl, h8⟩ := cut1 h7
  clear h7
  obtain ⟨a8, l9, rfl, h9⟩ := cut1 h8
  clear h8
  obtain ⟨a9, l10, rfl, h10⟩ := cut1 h9
  clear h9
  obtain ⟨a10, l11, rfl, h11⟩ := cut1 h10
  clear h10
  obtain ⟨a11, l12, rfl, h12⟩ := cut1 h11
  clear h11
  obtain rfl := cut0 h12
  clear h12
  have e1 : volV [a0, a1, a2, a3, a4, a5, a9, a10, a11, a6, a7, a8] = -volV [a0, a1, a2, a3, a4, a5, a6, a7, a8, a9, a10, a11] := by
    simp only [areaV, nx, ny, nz, volV, cr2, List.getD_cons_zero, List.getD_cons_succ]
    grind
  have u1 : (ss a0 && (ss a1 && (ss a2 && (ss a3 && (ss a4 && (ss a5 && (ss a9 && (ss a10 && (ss a11 && (ss a6 && (ss a7 && (ss a8)))))))))))) = (ss a0 && (ss a1 && (ss a2 && (ss a3 && (ss a4 && (ss a5 && (ss a6 && (ss a7 && (ss a8 && (ss a9 && (ss a10 && (ss a11)))))))))))) := by ac_rfl
  have z0 : (a0 == a3 && (a1 == a4 && a2 == a5)) = true → volV [a0, a1, a2, a3, a4, a5, a6, a7, a8, a9, a10, a11] = 0 := by
    simp only [Bool.and_eq_true, beq_iff_eq]
    rintro ⟨rfl, rfl, rfl⟩
    simp only [nx, ny, nz, volV, cr2, List.getD_cons_zero, List.getD_cons_succ]
    grind
  have z1 : (a3 == a6 && (a4 == a7 && a5 == a8)) = true → volV [a0, a1, a2, a3, a4, a5, a6, a7, a8, a9, a10, a11] = 0 := by
    simp only [Bool.and_eq_true, beq_iff_eq]
    rintro ⟨rfl, rfl, rfl⟩
    simp only [nx, ny, nz, volV, cr2, List.getD_cons_zero, List.getD_cons_succ]
    grind
  have z2 : (a6 == a9 && (a7 == a10 && a8 == a11)) = true → volV [a0, a1, a2, a3, a4, a5, a6, a7, a8, a9, a10, a11] = 0 := by
    simp only [Bool.and_eq_true, beq_iff_eq]
    rintro ⟨rfl, rfl, rfl⟩
    simp only [nx, ny, nz, volV, cr2, List.getD_cons_zero, List.getD_cons_succ]
    grind
  have z3 : (a0 == a9 && (a1 == a10 && a2 == a11)) = true → volV [a0, a1, a2, a3, a4, a5, a6, a7, a8, a9, a10, a11] = 0 := by
    simp only [Bool.and_eq_true, beq_iff_eq]
    rintro ⟨rfl, rfl, rfl⟩
    simp only [nx, ny, nz, volV, cr2, List.getD_cons_zero, List.getD_cons_succ]
    grind
  simp only [R_SignFlat, S0_SignFlat, S1_SignFlat, S2_SignFlat, S3_SignFlat, S4_SignFlat, S5_SignFlat, S6_SignFlat, S7_SignFlat, S8_SignFlat, S9_SignFlat, S10_SignFlat, S11_SignFlat, S12_SignFlat, S13_SignFlat, S14_SignFlat, S15_SignFlat, valOf, vals1, valInts, val1, tupleV, resV, valsI, den, bt1, bt2, bt3, bt4, Env.at, E, fb, fi, List.getD_cons_zero, List.getD_cons_succ, List.all_cons, List.all_nil, Bool.and_true, nr', us', ss', nr2, us2, ss2, nr3, us3, ss3, Bool.and_assoc, Option.map_some, List.all_append, Env.b, Env.i, Tree.map, Tree.sel, flat0, faceA, faceS, u1, e1]
  generalize volV [a0, a1, a2, a3, a4, a5, a6, a7, a8, a9, a10, a11] = V at *
  generalize hc : (ss a0 && (ss a1 && (ss a2 && (ss a3 && (ss a4 && (ss a5 && (ss a6 && (ss a7 && (ss a8 && (ss a9 && (ss a10 && (ss a11)))))))))))) = c12
  have w0 : IntKind.i64.wrap 0 = 0 := by decide
  have v0 : IntKind.i64.wrap ((if c12 = true then V else 0) + (if c12 = true then -V else 0)) = 0 := by
    cases c12 <;> simp [w0, Int.add_right_neg]
  have q0 : (a0 == a3 && (a1 == a4 && a2 == a5)) = true → ((if c12 = true then V else 0) == 0) = true := fun h => by rw [z0 h]; simp
  have q1 : (a3 == a6 && (a4 == a7 && a5 == a8)) = true → ((if c12 = true then V else 0) == 0) = true := fun h => by rw [z1 h]; simp
  have q2 : (a6 == a9 && (a7 == a10 && a8 == a11)) = true → ((if c12 = true then V else 0) == 0) = true := fun h => by rw [z2 h]; simp
  have q3 : (a0 == a9 && (a1 == a10 && a2 == a11)) = true → ((if c12 = true then V else 0) == 0) = true := fun h => by rw [z3 h]; simp
  have e5 := beq_self_eq_true (if c12 = true then (0 : Int) else 5)
  generalize (if c12 = true then V else 0) = v at *
  generalize (if c12 = true then -V else 0) = v' at *
  generalize (if c12 = true then (0 : Int) else 5) = e at *
  have b3 : (a0 == a9 && (a1 == a10 && (a2 == a11 && !v == 0))) = false := by
    cases h : (a0 == a9 && (a1 == a10 && a2 == a11))
    · rw [← Bool.and_assoc (a1 == a10), ← Bool.and_assoc (a0 == a9), h, Bool.false_and]
    · rw [q3 h]; simp
  generalize (a0 == a3 && (a1 == a4 && a2 == a5)) = t0 at *
  generalize (a3 == a6 && (a4 == a7 && a5 == a8)) = t1 at *
  generalize (a6 == a9 && (a7 == a10 && a8 == a11)) = t2 at *
  have bad : (if t0 = true then !v == 0 else if t1 = true then !v == 0 else if t2 = true then !v == 0 else a0 == a9 && (a1 == a10 && (a2 == a11 && !v == 0))) = false := by
    rw [b3]
    cases t0
    · cases t1
      · cases t2
        · rfl
        · rw [q2 rfl]; rfl
      · rw [q1 rfl]; rfl
    · rw [q0 rfl]; rfl
  simp only [bad, v0, e5, w0]
  clear bad b3 q0 q1 q2 q3 v0 e5 z0 z1 z2 z3 hc u1
  cases h0 : ss a0
  · simp
  cases h1 : ss a1
  · simp
  cases h2 : ss a2
  · simp
  cases h3 : ss a3
  · simp
  cases h4 : ss a4
  · simp
  cases h5 : ss a5
  · simp
  cases h6 : ss a6
  · simp
  cases h7 : ss a7
  · simp
  cases h8 : ss a8
  · simp
  have b1 : _ := nx_b h0 h1 h2 h3 h4 h5 h6 h7 h8
  simp only [Bool.true_and, Bool.and_true, if_true]
  obtain ⟨X, eX⟩ : ∃ q, nx [a0, a1, a2, a3, a4, a5, a6, a7, a8] = q := ⟨_, rfl⟩
  obtain ⟨Y, eY⟩ : ∃ q, ny [a0, a1, a2, a3, a4, a5, a6, a7, a8] = q := ⟨_, rfl⟩
  obtain ⟨Z, eZ⟩ : ∃ q, nz [a0, a1, a2, a3, a4, a5, a6, a7, a8] = q := ⟨_, rfl⟩
  simp only [eX, eY, eZ] at b1 ⊢
  clear eX eY eZ
  have wx : IntKind.i64.wrap (0 - X) = -X := by rw [wr (by omega)]; omega
  have wy : IntKind.i64.wrap (0 - Y) = -Y := by rw [wr (by omega)]; omega
  have wz : IntKind.i64.wrap (0 - Z) = -Z := by rw [wr (by omega)]; omega
  simp only [wx, wy, wz]
  by_cases hz : X = 0 ∧ Y = 0 ∧ Z = 0
  · obtain ⟨rfl, rfl, rfl⟩ := hz
    first | rfl | simp
  · have f : (X == 0 && (Y == 0 && Z == 0)) = false := by
      rw [Bool.eq_false_iff]; intro h; simp only [Bool.and_eq_true, beq_iff_eq] at h; exact hz h
    simp only [f]
    have vx : IntKind.i64.wrap X = X := wr (by omega)
    have vy : IntKind.i64.wrap Y = Y := wr (by omega)
    have vz : IntKind.i64.wrap Z = Z := wr (by omega)
    have ux : IntKind.i64.wrap (-X) = -X := wr (by omega)
    have uy : IntKind.i64.wrap (-Y) = -Y := wr (by omega)
    have uz : IntKind.i64.wrap (-Z) = -Z := wr (by omega)
    rcases face_ok b1.1 b1.2.1 b1.2.2 hz with ⟨ha, ⟨k0, k1, k2, k3, k4⟩ | ⟨k0, k1, k2, k3, k4⟩⟩ | ⟨ha, ⟨k0, k1, k2, k3, k4⟩ | ⟨k0, k1, k2, k3, k4⟩⟩ | ⟨ha, ⟨k0, k1, k2, k3, k4⟩ | ⟨k0, k1, k2, k3, k4⟩⟩
    · have g := sgn_p k0
      simp [ha, g, Int.mul_neg, vx, vy, vz, ux, uy, uz]
      omega
    · have g := sgn_n k0
      simp [ha, g, Int.mul_neg, vx, vy, vz, ux, uy, uz]
      omega
    · have g := sgn_p k0
      simp [ha, g, Int.mul_neg, vx, vy, vz, ux, uy, uz]
      omega
    · have g := sgn_n k0
      simp [ha, g, Int.mul_neg, vx, vy, vz, ux, uy, uz]
      omega
    · have g := sgn_p k0
      simp [ha, g, Int.mul_neg, vx, vy, vz, ux, uy, uz]
      omega
    · have g := sgn_n k0
      simp [ha, g, Int.mul_neg, vx, vy, vz, ux, uy, uz]
      omega

theorem c_SignFlat (W : World) : Flat Try.prog E W Any 10 [.g 3, .g 3, .g 3, .g 3] fun l => tupleV (resV E 20 l [.b] 0 0) := flat_sel (cy2_ok W) k_SignFlat v_SignFlat

end Go.Proofs.Ytbgcjbhaaelkhaa.Sx
