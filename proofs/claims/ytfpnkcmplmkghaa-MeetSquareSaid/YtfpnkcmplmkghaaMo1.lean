/- Contracts, reckoned. -/
import Derived.Test.YtfpnkcmplmkghaaMg
import Derived.KernelRfl
set_option linter.unusedVariables false
set_option linter.unusedSimpArgs false
namespace Go.Proofs.Ytfpnkcmplmkghaa.Sx
open Go.RowKit

theorem mx_lt (t : List Int) (i : Nat) (c : Int) : ∀ (l : List (Int × Int)) (m : Int), (l.foldl (fun m p => max m (edq t i p.1 p.2)) m < c) ↔ (m < c ∧ ∀ p ∈ l, edq t i p.1 p.2 < c)
  | [], m => by simp
  | p :: l, m => by
    rw [List.foldl_cons, mx_lt t i c l]
    simp only [List.mem_cons, forall_eq_or_imp]
    constructor
    · rintro ⟨h1, h2⟩; exact ⟨by omega, by omega, h2⟩
    · rintro ⟨h1, h2, h3⟩; exact ⟨by omega, h3⟩
theorem outE_iff (t : List Int) (i : Nat) (c : Int) (l : List (Int × Int)) (hc : -1 < c) : outE t i c l = decide (mx t i l < c) := by
  rw [Bool.eq_iff_iff]
  unfold outE mx
  rw [decide_eq_true_eq, mx_lt]
  simp [List.all_eq_true, hc]
theorem outE0 (t : List Int) (i : Nat) (l : List (Int × Int)) : decide (mx t i l < 0) = outE t i 0 l := (outE_iff t i 0 l (by omega)).symm
theorem outE1 (t : List Int) (i : Nat) (l : List (Int × Int)) : (decide (mx t i l < 0) || (mx t i l == 0)) = outE t i 1 l := by
  rw [outE_iff t i 1 l (by omega)]
  generalize mx t i l = m
  rw [Bool.eq_iff_iff]
  by_cases h : m < 0
  · simp [h]; omega
  · simp [h]; omega
theorem mnE (a b : Int) : (if decide (b < a) = true then b else a) = min a b := by
  simp only [decide_eq_true_eq]; split <;> omega
theorem ltle (a b : Int) : decide (a < b) = !decide (b ≤ a) := by
  rw [Bool.eq_iff_iff]; simp

def R_overlap : AV := (.tuple [(.bool (.ite (.ite (.app 56 0 (.cons (.var 0) (.cons (.var 1) (.cons (.var 2) (.cons (.var 3) (.cons (.var 4) (.cons (.var 5) .nil))))))) (.no (.app 56 0 (.cons (.var 6) (.cons (.var 7) (.cons (.var 8) (.cons (.var 9) (.cons (.var 10) (.cons (.var 11) .nil)))))))) (.blit true)) (.blit false) (.ite (.app 58 0 (.cons (.var 0) (.cons (.var 1) (.cons (.var 2) (.cons (.var 3) (.cons (.var 4) (.cons (.var 5) (.cons (.lit 1) (.cons (.var 6) (.cons (.var 7) (.cons (.var 8) (.cons (.var 9) (.cons (.var 10) (.cons (.var 11) .nil)))))))))))))) (.blit false) (.no (.app 58 0 (.cons (.var 6) (.cons (.var 7) (.cons (.var 8) (.cons (.var 9) (.cons (.var 10) (.cons (.var 11) (.cons (.lit 1) (.cons (.var 0) (.cons (.var 1) (.cons (.var 2) (.cons (.var 3) (.cons (.var 4) (.cons (.var 5) .nil)))))))))))))))))), (.int (.ite (.ite (.app 56 0 (.cons (.var 0) (.cons (.var 1) (.cons (.var 2) (.cons (.var 3) (.cons (.var 4) (.cons (.var 5) .nil))))))) (.no (.app 56 0 (.cons (.var 6) (.cons (.var 7) (.cons (.var 8) (.cons (.var 9) (.cons (.var 10) (.cons (.var 11) .nil)))))))) (.blit true)) (.lit 1) (.lit 0)))])
theorem k_overlap : acall cm3 20 false 28 [] (argsG [.g 6, .g 6] 0 0) (heapG [.g 6, .g 6] 0) = .leaf (R_overlap, heapG [.g 6, .g 6] 0) := by kernel_rfl
set_option maxHeartbeats 4000000 in
set_option maxRecDepth 20000 in
theorem v_overlap : ∀ l : List Int, l.length = lenSh [.g 6, .g 6] → Any l → valOf (E.at l) R_overlap = some (tupleV (resV E 59 l [.b, .i] 0 0)) := by
  intro l hl hG
  have h0 : l.length = 12 := hl
  clear hl
  obtain ⟨a0, l1, rfl, h1⟩ := cut1 h0
  clear h0
  obtain ⟨a1, l2, rfl, h2⟩ := cut1 h1
  clear h1
  obtain ⟨a2, l3, rfl, h3⟩ := cut1 h2
  clear h2
  obtain ⟨a3, l4, rfl, h4⟩ := cut1 h3
  clear h3
  obtain ⟨a4, l5, rfl, h5⟩ := cut1 h4
  clear h4
  obtain ⟨a5, l6, rfl, h6⟩ := cut1 h5
  clear h5
  obtain ⟨a6, l7, rfl, h7⟩ := cut1 h6
  clear h6
  obtain ⟨a7, l8, rfl, h8⟩ := cut1 h7
  clear h7
  obtain ⟨a8, l9, rfl, h9⟩ := cut1 h8
  clear h8
  obtain ⟨a9, l10, rfl, h10⟩ := cut1 h9
  clear h9
  obtain ⟨a10, l11, rfl, h11⟩ := cut1 h10
  clear h10
  obtain ⟨a11, l12, rfl, h12⟩ := cut1 h11
  clear h11
  obtain rfl := cut0 h12
  clear h12
  simp only [R_overlap, valOf, vals1, valInts, val1, tupleV, resV, valsI, den, bt1, bt2, bt3, bt4, Env.at, E, fb, fi, List.getD_cons_zero, List.getD_cons_succ, List.all_cons, List.all_nil, Bool.and_true, nr', us', ss', nr2, us2, ss2, nr3, us3, ss3, cr2, Bool.and_assoc, Option.map_some, List.all_append, cmps, List.take_succ_cons, List.take_zero, List.drop_succ_cons, List.drop_zero, Int.toNat_zero, Int.toNat_one, show (2 : Int).toNat = 2 from rfl, ptsOf, sqC, bothB, bothe, apB]
  generalize rgt [a0, a1, a2, a3, a4, a5] = ra, rgt [a6, a7, a8, a9, a10, a11] = rb
  generalize outE [a0, a1, a2, a3, a4, a5] 0 1 [(a6, a7), (a8, a9), (a10, a11)] = x0
  generalize outE [a0, a1, a2, a3, a4, a5] 1 1 [(a6, a7), (a8, a9), (a10, a11)] = x1
  generalize outE [a0, a1, a2, a3, a4, a5] 2 1 [(a6, a7), (a8, a9), (a10, a11)] = x2
  generalize outE [a6, a7, a8, a9, a10, a11] 0 1 [(a0, a1), (a2, a3), (a4, a5)] = y0
  generalize outE [a6, a7, a8, a9, a10, a11] 1 1 [(a0, a1), (a2, a3), (a4, a5)] = y1
  generalize outE [a6, a7, a8, a9, a10, a11] 2 1 [(a0, a1), (a2, a3), (a4, a5)] = y2
  cases ra <;> cases rb <;> cases x0 <;> cases x1 <;> cases x2 <;> cases y0 <;> cases y1 <;> cases y2 <;> rfl

theorem c_overlap (W : World) : Flat Try.prog E W Any 28 [.g 6, .g 6] fun l => tupleV (resV E 59 l [.b, .i] 0 0) := flat_val (cm3_ok W) k_overlap v_overlap

def R_touch : AV := (.tuple [(.bool (.ite (.ite (.app 56 0 (.cons (.var 0) (.cons (.var 1) (.cons (.var 2) (.cons (.var 3) (.cons (.var 4) (.cons (.var 5) .nil))))))) (.no (.app 56 0 (.cons (.var 6) (.cons (.var 7) (.cons (.var 8) (.cons (.var 9) (.cons (.var 10) (.cons (.var 11) .nil)))))))) (.blit true)) (.blit false) (.ite (.app 58 0 (.cons (.var 0) (.cons (.var 1) (.cons (.var 2) (.cons (.var 3) (.cons (.var 4) (.cons (.var 5) (.cons (.lit 0) (.cons (.var 6) (.cons (.var 7) (.cons (.var 8) (.cons (.var 9) (.cons (.var 10) (.cons (.var 11) .nil)))))))))))))) (.blit false) (.no (.app 58 0 (.cons (.var 6) (.cons (.var 7) (.cons (.var 8) (.cons (.var 9) (.cons (.var 10) (.cons (.var 11) (.cons (.lit 0) (.cons (.var 0) (.cons (.var 1) (.cons (.var 2) (.cons (.var 3) (.cons (.var 4) (.cons (.var 5) .nil)))))))))))))))))), (.int (.ite (.ite (.app 56 0 (.cons (.var 0) (.cons (.var 1) (.cons (.var 2) (.cons (.var 3) (.cons (.var 4) (.cons (.var 5) .nil))))))) (.no (.app 56 0 (.cons (.var 6) (.cons (.var 7) (.cons (.var 8) (.cons (.var 9) (.cons (.var 10) (.cons (.var 11) .nil)))))))) (.blit true)) (.lit 1) (.lit 0)))])
theorem k_touch : acall cm3 20 false 30 [] (argsG [.g 6, .g 6] 0 0) (heapG [.g 6, .g 6] 0) = .leaf (R_touch, heapG [.g 6, .g 6] 0) := by kernel_rfl
set_option maxHeartbeats 4000000 in
set_option maxRecDepth 20000 in
theorem v_touch : ∀ l : List Int, l.length = lenSh [.g 6, .g 6] → Any l → valOf (E.at l) R_touch = some (tupleV (resV E 60 l [.b, .i] 0 0)) := by
  intro l hl hG
  have h0 : l.length = 12 := hl
  clear hl
  obtain ⟨a0, l1, rfl, h1⟩ := cut1 h0
  clear h0
  obtain ⟨a1, l2, rfl, h2⟩ := cut1 h1
  clear h1
  obtain ⟨a2, l3, rfl, h3⟩ := cut1 h2
  clear h2
  obtain ⟨a3, l4, rfl, h4⟩ := cut1 h3
  clear h3
  obtain ⟨a4, l5, rfl, h5⟩ := cut1 h4
  clear h4
  obtain ⟨a5, l6, rfl, h6⟩ := cut1 h5
  clear h5
  obtain ⟨a6, l7, rfl, h7⟩ := cut1 h6
  clear h6
  obtain ⟨a7, l8, rfl, h8⟩ := cut1 h7
  clear h7
  obtain ⟨a8, l9, rfl, h9⟩ := cut1 h8
  clear h8
  obtain ⟨a9, l10, rfl, h10⟩ := cut1 h9
  clear h9
  obtain ⟨a10, l11, rfl, h11⟩ := cut1 h10
  clear h10
  obtain ⟨a11, l12, rfl, h12⟩ := cut1 h11
  clear h11
  obtain rfl := cut0 h12
  clear h12
  simp only [R_touch, valOf, vals1, valInts, val1, tupleV, resV, valsI, den, bt1, bt2, bt3, bt4, Env.at, E, fb, fi, List.getD_cons_zero, List.getD_cons_succ, List.all_cons, List.all_nil, Bool.and_true, nr', us', ss', nr2, us2, ss2, nr3, us3, ss3, cr2, Bool.and_assoc, Option.map_some, List.all_append, cmps, List.take_succ_cons, List.take_zero, List.drop_succ_cons, List.drop_zero, Int.toNat_zero, Int.toNat_one, show (2 : Int).toNat = 2 from rfl, ptsOf, sqC, bothB, bothe, apB]
  generalize rgt [a0, a1, a2, a3, a4, a5] = ra, rgt [a6, a7, a8, a9, a10, a11] = rb
  generalize outE [a0, a1, a2, a3, a4, a5] 0 0 [(a6, a7), (a8, a9), (a10, a11)] = x0
  generalize outE [a0, a1, a2, a3, a4, a5] 1 0 [(a6, a7), (a8, a9), (a10, a11)] = x1
  generalize outE [a0, a1, a2, a3, a4, a5] 2 0 [(a6, a7), (a8, a9), (a10, a11)] = x2
  generalize outE [a6, a7, a8, a9, a10, a11] 0 0 [(a0, a1), (a2, a3), (a4, a5)] = y0
  generalize outE [a6, a7, a8, a9, a10, a11] 1 0 [(a0, a1), (a2, a3), (a4, a5)] = y1
  generalize outE [a6, a7, a8, a9, a10, a11] 2 0 [(a0, a1), (a2, a3), (a4, a5)] = y2
  cases ra <;> cases rb <;> cases x0 <;> cases x1 <;> cases x2 <;> cases y0 <;> cases y1 <;> cases y2 <;> rfl

theorem c_touch (W : World) : Flat Try.prog E W Any 30 [.g 6, .g 6] fun l => tupleV (resV E 60 l [.b, .i] 0 0) := flat_val (cm3_ok W) k_touch v_touch

def R_square : AV := (.tuple [(.bool (.ite (.ite (.lt (.var 2) (.lit 1)) (.blit true) (.ite (.lt (.lit 4096) (.var 2)) (.blit true) (.no (.app 1 0 (.cons (.var 0) (.cons (.var 1) .nil)))))) (.blit false) (.ite (.app 1 0 (.cons (.add (.var 0) (.var 2)) (.cons (.add (.var 1) (.var 2)) .nil))) (.ite (.app 56 0 (.cons (.var 3) (.cons (.var 4) (.cons (.var 5) (.cons (.var 6) (.cons (.var 7) (.cons (.var 8) .nil))))))) (.ite (.ite (.le (.var 0) (.ite (.lt (.ite (.lt (.var 3) (.var 5)) (.var 5) (.var 3)) (.var 7)) (.var 7) (.ite (.lt (.var 3) (.var 5)) (.var 5) (.var 3)))) (.ite (.le (.ite (.lt (.var 7) (.ite (.lt (.var 5) (.var 3)) (.var 5) (.var 3))) (.var 7) (.ite (.lt (.var 5) (.var 3)) (.var 5) (.var 3))) (.add (.var 0) (.var 2))) (.le (.ite (.lt (.var 8) (.ite (.lt (.var 6) (.var 4)) (.var 6) (.var 4))) (.var 8) (.ite (.lt (.var 6) (.var 4)) (.var 6) (.var 4))) (.add (.var 1) (.var 2))) (.blit false)) (.ite (.le (.ite (.lt (.var 7) (.ite (.lt (.var 5) (.var 3)) (.var 5) (.var 3))) (.var 7) (.ite (.lt (.var 5) (.var 3)) (.var 5) (.var 3))) (.add (.var 0) (.var 2))) (.le (.ite (.lt (.var 8) (.ite (.lt (.var 6) (.var 4)) (.var 6) (.var 4))) (.var 8) (.ite (.lt (.var 6) (.var 4)) (.var 6) (.var 4))) (.add (.var 1) (.var 2))) (.blit false))) (.ite (.ite (.le (.var 0) (.ite (.lt (.ite (.lt (.var 3) (.var 5)) (.var 5) (.var 3)) (.var 7)) (.var 7) (.ite (.lt (.var 3) (.var 5)) (.var 5) (.var 3)))) (.le (.var 1) (.ite (.lt (.ite (.lt (.var 4) (.var 6)) (.var 6) (.var 4)) (.var 8)) (.var 8) (.ite (.lt (.var 4) (.var 6)) (.var 6) (.var 4)))) (.blit false)) (.no (.app 58 0 (.cons (.var 3) (.cons (.var 4) (.cons (.var 5) (.cons (.var 6) (.cons (.var 7) (.cons (.var 8) (.cons (.lit 0) (.cons (.var 0) (.cons (.var 1) (.cons (.add (.var 0) (.var 2)) (.cons (.var 1) (.cons (.add (.var 0) (.var 2)) (.cons (.add (.var 1) (.var 2)) (.cons (.var 0) (.cons (.add (.var 1) (.var 2)) .nil))))))))))))))))) (.blit false)) (.blit false)) (.blit false)) (.blit false)))), (.int (.ite (.ite (.lt (.var 2) (.lit 1)) (.blit true) (.ite (.lt (.lit 4096) (.var 2)) (.blit true) (.no (.app 1 0 (.cons (.var 0) (.cons (.var 1) .nil)))))) (.lit 5) (.ite (.app 1 0 (.cons (.add (.var 0) (.var 2)) (.cons (.add (.var 1) (.var 2)) .nil))) (.ite (.app 56 0 (.cons (.var 3) (.cons (.var 4) (.cons (.var 5) (.cons (.var 6) (.cons (.var 7) (.cons (.var 8) .nil))))))) (.lit 0) (.lit 1)) (.lit 5))))])
theorem k_square : acall cm3 20 false 32 [] (argsG [.g 2, .i, .g 6] 0 0) (heapG [.g 2, .i, .g 6] 0) = .leaf (R_square, heapG [.g 2, .i, .g 6] 0) := by kernel_rfl
set_option maxHeartbeats 4000000 in
set_option maxRecDepth 20000 in
theorem v_square : ∀ l : List Int, l.length = lenSh [.g 2, .i, .g 6] → Any l → valOf (E.at l) R_square = some (tupleV (resV E 61 l [.b, .i] 0 0)) := by
  intro l hl hG
  have h0 : l.length = 9 := hl
  clear hl
  obtain ⟨a0, l1, rfl, h1⟩ := cut1 h0
  clear h0
  obtain ⟨a1, l2, rfl, h2⟩ := cut1 h1
  clear h1
  obtain ⟨a2, l3, rfl, h3⟩ := cut1 h2
  clear h2
  obtain ⟨a3, l4, rfl, h4⟩ := cut1 h3
  clear h3
  obtain ⟨a4, l5, rfl, h5⟩ := cut1 h4
  clear h4
  obtain ⟨a5, l6, rfl, h6⟩ := cut1 h5
  clear h5
  obtain ⟨a6, l7, rfl, h7⟩ := cut1 h6
  clear h6
  obtain ⟨a7, l8, rfl, h8⟩ := cut1 h7
  clear h7
  obtain ⟨a8, l9, rfl, h9⟩ := cut1 h8
  clear h8
  obtain rfl := cut0 h9
  clear h9
  simp only [R_square, valOf, vals1, valInts, val1, tupleV, resV, valsI, den, bt1, bt2, bt3, bt4, Env.at, E, fb, fi, List.getD_cons_zero, List.getD_cons_succ, List.all_cons, List.all_nil, Bool.and_true, nr', us', ss', nr2, us2, ss2, nr3, us3, ss3, cr2, Bool.and_assoc, Option.map_some, List.all_append, cmps, List.take_succ_cons, List.take_zero, List.drop_succ_cons, List.drop_zero, Int.toNat_zero, Int.toNat_one, show (2 : Int).toNat = 2 from rfl, ptsOf, sqC, sqg, sqe, sqB, sqBox, mnE, mxE]
  have c1 : decide (a2 < 1) = !decide (1 ≤ a2) := ltle _ _
  have c2 : decide (4096 < a2) = !decide (a2 ≤ 4096) := ltle _ _
  rw [c1, c2]
  cases g1 : decide (1 ≤ a2)
  · simp
  cases g2 : decide (a2 ≤ 4096)
  · simp
  cases g3 : us a0
  · simp
  cases g4 : us a1
  · simp
  have q1 := of_decide_eq_true g1
  have q2 := of_decide_eq_true g2
  have q3 := us_b g3
  have q4 := us_b g4
  have w0 : IntKind.i64.wrap (a0 + a2) = a0 + a2 := wr (by omega)
  have w1 : IntKind.i64.wrap (a1 + a2) = a1 + a2 := wr (by omega)
  simp only [w0, w1, apB, ptsOf, ltle (a0 + a2), ltle (a1 + a2), ltle _ a0, ltle _ a1]
  generalize rgt [a3, a4, a5, a6, a7, a8] = ra, us (a0 + a2) = u0, us (a1 + a2) = u1
  generalize outE [a3, a4, a5, a6, a7, a8] 0 0 [(a0, a1), (a0 + a2, a1), (a0 + a2, a1 + a2), (a0, a1 + a2)] = x0
  generalize outE [a3, a4, a5, a6, a7, a8] 1 0 [(a0, a1), (a0 + a2, a1), (a0 + a2, a1 + a2), (a0, a1 + a2)] = x1
  generalize outE [a3, a4, a5, a6, a7, a8] 2 0 [(a0, a1), (a0 + a2, a1), (a0 + a2, a1 + a2), (a0, a1 + a2)] = x2
  generalize decide (min (min a3 a5) a7 ≤ a0 + a2) = d0, decide (min (min a4 a6) a8 ≤ a1 + a2) = d1, decide (a0 ≤ max (max a3 a5) a7) = d2, decide (a1 ≤ max (max a4 a6) a8) = d3
  cases ra <;> cases u0 <;> cases u1 <;> cases x0 <;> cases x1 <;> cases x2 <;> cases d0 <;> cases d1 <;> cases d2 <;> cases d3 <;> rfl

theorem c_square (W : World) : Flat Try.prog E W Any 32 [.g 2, .i, .g 6] fun l => tupleV (resV E 61 l [.b, .i] 0 0) := flat_val (cm3_ok W) k_square v_square

def R_roverlap : AV := (.tuple [(.bool (.ite (.ite (.app 56 0 (.cons (.var 0) (.cons (.var 1) (.cons (.var 2) (.cons (.var 3) (.cons (.var 4) (.cons (.var 5) .nil))))))) (.no (.app 56 0 (.cons (.var 6) (.cons (.var 7) (.cons (.var 8) (.cons (.var 9) (.cons (.var 10) (.cons (.var 11) .nil)))))))) (.blit true)) (.blit false) (.ite (.ite (.ite (.lt (.app 65 0 (.cons (.var 0) (.cons (.var 1) (.cons (.var 2) (.cons (.var 3) (.cons (.var 4) (.cons (.var 5) (.cons (.lit 0) (.cons (.var 6) (.cons (.var 7) (.cons (.var 8) (.cons (.var 9) (.cons (.var 10) (.cons (.var 11) .nil)))))))))))))) (.lit 0)) (.blit true) (.eq (.app 65 0 (.cons (.var 0) (.cons (.var 1) (.cons (.var 2) (.cons (.var 3) (.cons (.var 4) (.cons (.var 5) (.cons (.lit 0) (.cons (.var 6) (.cons (.var 7) (.cons (.var 8) (.cons (.var 9) (.cons (.var 10) (.cons (.var 11) .nil)))))))))))))) (.lit 0))) (.blit true) (.ite (.ite (.lt (.app 65 0 (.cons (.var 0) (.cons (.var 1) (.cons (.var 2) (.cons (.var 3) (.cons (.var 4) (.cons (.var 5) (.cons (.lit 1) (.cons (.var 6) (.cons (.var 7) (.cons (.var 8) (.cons (.var 9) (.cons (.var 10) (.cons (.var 11) .nil)))))))))))))) (.lit 0)) (.blit true) (.eq (.app 65 0 (.cons (.var 0) (.cons (.var 1) (.cons (.var 2) (.cons (.var 3) (.cons (.var 4) (.cons (.var 5) (.cons (.lit 1) (.cons (.var 6) (.cons (.var 7) (.cons (.var 8) (.cons (.var 9) (.cons (.var 10) (.cons (.var 11) .nil)))))))))))))) (.lit 0))) (.blit true) (.ite (.lt (.app 65 0 (.cons (.var 0) (.cons (.var 1) (.cons (.var 2) (.cons (.var 3) (.cons (.var 4) (.cons (.var 5) (.cons (.lit 2) (.cons (.var 6) (.cons (.var 7) (.cons (.var 8) (.cons (.var 9) (.cons (.var 10) (.cons (.var 11) .nil)))))))))))))) (.lit 0)) (.blit true) (.eq (.app 65 0 (.cons (.var 0) (.cons (.var 1) (.cons (.var 2) (.cons (.var 3) (.cons (.var 4) (.cons (.var 5) (.cons (.lit 2) (.cons (.var 6) (.cons (.var 7) (.cons (.var 8) (.cons (.var 9) (.cons (.var 10) (.cons (.var 11) .nil)))))))))))))) (.lit 0))))) (.blit false) (.no (.ite (.ite (.lt (.app 65 0 (.cons (.var 6) (.cons (.var 7) (.cons (.var 8) (.cons (.var 9) (.cons (.var 10) (.cons (.var 11) (.cons (.lit 0) (.cons (.var 0) (.cons (.var 1) (.cons (.var 2) (.cons (.var 3) (.cons (.var 4) (.cons (.var 5) .nil)))))))))))))) (.lit 0)) (.blit true) (.eq (.app 65 0 (.cons (.var 6) (.cons (.var 7) (.cons (.var 8) (.cons (.var 9) (.cons (.var 10) (.cons (.var 11) (.cons (.lit 0) (.cons (.var 0) (.cons (.var 1) (.cons (.var 2) (.cons (.var 3) (.cons (.var 4) (.cons (.var 5) .nil)))))))))))))) (.lit 0))) (.blit true) (.ite (.ite (.lt (.app 65 0 (.cons (.var 6) (.cons (.var 7) (.cons (.var 8) (.cons (.var 9) (.cons (.var 10) (.cons (.var 11) (.cons (.lit 1) (.cons (.var 0) (.cons (.var 1) (.cons (.var 2) (.cons (.var 3) (.cons (.var 4) (.cons (.var 5) .nil)))))))))))))) (.lit 0)) (.blit true) (.eq (.app 65 0 (.cons (.var 6) (.cons (.var 7) (.cons (.var 8) (.cons (.var 9) (.cons (.var 10) (.cons (.var 11) (.cons (.lit 1) (.cons (.var 0) (.cons (.var 1) (.cons (.var 2) (.cons (.var 3) (.cons (.var 4) (.cons (.var 5) .nil)))))))))))))) (.lit 0))) (.blit true) (.ite (.lt (.app 65 0 (.cons (.var 6) (.cons (.var 7) (.cons (.var 8) (.cons (.var 9) (.cons (.var 10) (.cons (.var 11) (.cons (.lit 2) (.cons (.var 0) (.cons (.var 1) (.cons (.var 2) (.cons (.var 3) (.cons (.var 4) (.cons (.var 5) .nil)))))))))))))) (.lit 0)) (.blit true) (.eq (.app 65 0 (.cons (.var 6) (.cons (.var 7) (.cons (.var 8) (.cons (.var 9) (.cons (.var 10) (.cons (.var 11) (.cons (.lit 2) (.cons (.var 0) (.cons (.var 1) (.cons (.var 2) (.cons (.var 3) (.cons (.var 4) (.cons (.var 5) .nil)))))))))))))) (.lit 0))))))))), (.int (.ite (.ite (.app 56 0 (.cons (.var 0) (.cons (.var 1) (.cons (.var 2) (.cons (.var 3) (.cons (.var 4) (.cons (.var 5) .nil))))))) (.no (.app 56 0 (.cons (.var 6) (.cons (.var 7) (.cons (.var 8) (.cons (.var 9) (.cons (.var 10) (.cons (.var 11) .nil)))))))) (.blit true)) (.lit 1) (.lit 0)))])
theorem k_roverlap : acall cm3 20 false 29 [] (argsG [.g 6, .g 6] 0 0) (heapG [.g 6, .g 6] 0) = .leaf (R_roverlap, heapG [.g 6, .g 6] 0) := by kernel_rfl
set_option maxHeartbeats 4000000 in
set_option maxRecDepth 20000 in
theorem v_roverlap : ∀ l : List Int, l.length = lenSh [.g 6, .g 6] → Any l → valOf (E.at l) R_roverlap = some (tupleV (resV E 59 l [.b, .i] 0 0)) := by
  intro l hl hG
  have h0 : l.length = 12 := hl
  clear hl
  obtain ⟨a0, l1, rfl, h1⟩ := cut1 h0
  clear h0
  obtain ⟨a1, l2, rfl, h2⟩ := cut1 h1
  clear h1
  obtain ⟨a2, l3, rfl, h3⟩ := cut1 h2
  clear h2
  obtain ⟨a3, l4, rfl, h4⟩ := cut1 h3
  clear h3
  obtain ⟨a4, l5, rfl, h5⟩ := cut1 h4
  clear h4
  obtain ⟨a5, l6, rfl, h6⟩ := cut1 h5
  clear h5
  obtain ⟨a6, l7, rfl, h7⟩ := cut1 h6
  clear h6
  obtain ⟨a7, l8, rfl, h8⟩ := cut1 h7
  clear h7
  obtain ⟨a8, l9, rfl, h9⟩ := cut1 h8
  clear h8
  obtain ⟨a9, l10, rfl, h10⟩ := cut1 h9
  clear h9
  obtain ⟨a10, l11, rfl, h11⟩ := cut1 h10
  clear h10
  obtain ⟨a11, l12, rfl, h12⟩ := cut1 h11
  clear h11
  obtain rfl := cut0 h12
  clear h12
  simp only [R_roverlap, valOf, vals1, valInts, val1, tupleV, resV, valsI, den, bt1, bt2, bt3, bt4, Env.at, E, fb, fi, List.getD_cons_zero, List.getD_cons_succ, List.all_cons, List.all_nil, Bool.and_true, nr', us', ss', nr2, us2, ss2, nr3, us3, ss3, cr2, Bool.and_assoc, Option.map_some, List.all_append, cmps, List.take_succ_cons, List.take_zero, List.drop_succ_cons, List.drop_zero, Int.toNat_zero, Int.toNat_one, show (2 : Int).toNat = 2 from rfl, ptsOf, sqC, bothB, bothe, apB, outE1]
  generalize rgt [a0, a1, a2, a3, a4, a5] = ra, rgt [a6, a7, a8, a9, a10, a11] = rb
  generalize outE [a0, a1, a2, a3, a4, a5] 0 1 [(a6, a7), (a8, a9), (a10, a11)] = x0
  generalize outE [a0, a1, a2, a3, a4, a5] 1 1 [(a6, a7), (a8, a9), (a10, a11)] = x1
  generalize outE [a0, a1, a2, a3, a4, a5] 2 1 [(a6, a7), (a8, a9), (a10, a11)] = x2
  generalize outE [a6, a7, a8, a9, a10, a11] 0 1 [(a0, a1), (a2, a3), (a4, a5)] = y0
  generalize outE [a6, a7, a8, a9, a10, a11] 1 1 [(a0, a1), (a2, a3), (a4, a5)] = y1
  generalize outE [a6, a7, a8, a9, a10, a11] 2 1 [(a0, a1), (a2, a3), (a4, a5)] = y2
  cases ra <;> cases rb <;> cases x0 <;> cases x1 <;> cases x2 <;> cases y0 <;> cases y1 <;> cases y2 <;> rfl

theorem c_roverlap (W : World) : Flat Try.prog E W Any 29 [.g 6, .g 6] fun l => tupleV (resV E 59 l [.b, .i] 0 0) := flat_val (cm3_ok W) k_roverlap v_roverlap

def R_rtouch : AV := (.tuple [(.bool (.ite (.ite (.app 56 0 (.cons (.var 0) (.cons (.var 1) (.cons (.var 2) (.cons (.var 3) (.cons (.var 4) (.cons (.var 5) .nil))))))) (.no (.app 56 0 (.cons (.var 6) (.cons (.var 7) (.cons (.var 8) (.cons (.var 9) (.cons (.var 10) (.cons (.var 11) .nil)))))))) (.blit true)) (.blit false) (.ite (.ite (.lt (.app 65 0 (.cons (.var 0) (.cons (.var 1) (.cons (.var 2) (.cons (.var 3) (.cons (.var 4) (.cons (.var 5) (.cons (.lit 0) (.cons (.var 6) (.cons (.var 7) (.cons (.var 8) (.cons (.var 9) (.cons (.var 10) (.cons (.var 11) .nil)))))))))))))) (.lit 0)) (.blit true) (.ite (.lt (.app 65 0 (.cons (.var 0) (.cons (.var 1) (.cons (.var 2) (.cons (.var 3) (.cons (.var 4) (.cons (.var 5) (.cons (.lit 1) (.cons (.var 6) (.cons (.var 7) (.cons (.var 8) (.cons (.var 9) (.cons (.var 10) (.cons (.var 11) .nil)))))))))))))) (.lit 0)) (.blit true) (.lt (.app 65 0 (.cons (.var 0) (.cons (.var 1) (.cons (.var 2) (.cons (.var 3) (.cons (.var 4) (.cons (.var 5) (.cons (.lit 2) (.cons (.var 6) (.cons (.var 7) (.cons (.var 8) (.cons (.var 9) (.cons (.var 10) (.cons (.var 11) .nil)))))))))))))) (.lit 0)))) (.blit false) (.no (.ite (.lt (.app 65 0 (.cons (.var 6) (.cons (.var 7) (.cons (.var 8) (.cons (.var 9) (.cons (.var 10) (.cons (.var 11) (.cons (.lit 0) (.cons (.var 0) (.cons (.var 1) (.cons (.var 2) (.cons (.var 3) (.cons (.var 4) (.cons (.var 5) .nil)))))))))))))) (.lit 0)) (.blit true) (.ite (.lt (.app 65 0 (.cons (.var 6) (.cons (.var 7) (.cons (.var 8) (.cons (.var 9) (.cons (.var 10) (.cons (.var 11) (.cons (.lit 1) (.cons (.var 0) (.cons (.var 1) (.cons (.var 2) (.cons (.var 3) (.cons (.var 4) (.cons (.var 5) .nil)))))))))))))) (.lit 0)) (.blit true) (.lt (.app 65 0 (.cons (.var 6) (.cons (.var 7) (.cons (.var 8) (.cons (.var 9) (.cons (.var 10) (.cons (.var 11) (.cons (.lit 2) (.cons (.var 0) (.cons (.var 1) (.cons (.var 2) (.cons (.var 3) (.cons (.var 4) (.cons (.var 5) .nil)))))))))))))) (.lit 0)))))))), (.int (.ite (.ite (.app 56 0 (.cons (.var 0) (.cons (.var 1) (.cons (.var 2) (.cons (.var 3) (.cons (.var 4) (.cons (.var 5) .nil))))))) (.no (.app 56 0 (.cons (.var 6) (.cons (.var 7) (.cons (.var 8) (.cons (.var 9) (.cons (.var 10) (.cons (.var 11) .nil)))))))) (.blit true)) (.lit 1) (.lit 0)))])
theorem k_rtouch : acall cm3 20 false 31 [] (argsG [.g 6, .g 6] 0 0) (heapG [.g 6, .g 6] 0) = .leaf (R_rtouch, heapG [.g 6, .g 6] 0) := by kernel_rfl
set_option maxHeartbeats 4000000 in
set_option maxRecDepth 20000 in
theorem v_rtouch : ∀ l : List Int, l.length = lenSh [.g 6, .g 6] → Any l → valOf (E.at l) R_rtouch = some (tupleV (resV E 60 l [.b, .i] 0 0)) := by
  intro l hl hG
  have h0 : l.length = 12 := hl
  clear hl
  obtain ⟨a0, l1, rfl, h1⟩ := cut1 h0
  clear h0
  obtain ⟨a1, l2, rfl, h2⟩ := cut1 h1
  clear h1
  obtain ⟨a2, l3, rfl, h3⟩ := cut1 h2
  clear h2
  obtain ⟨a3, l4, rfl, h4⟩ := cut1 h3
  clear h3
  obtain ⟨a4, l5, rfl, h5⟩ := cut1 h4
  clear h4
  obtain ⟨a5, l6, rfl, h6⟩ := cut1 h5
  clear h5
  obtain ⟨a6, l7, rfl, h7⟩ := cut1 h6
  clear h6
  obtain ⟨a7, l8, rfl, h8⟩ := cut1 h7
  clear h7
  obtain ⟨a8, l9, rfl, h9⟩ := cut1 h8
  clear h8
  obtain ⟨a9, l10, rfl, h10⟩ := cut1 h9
  clear h9
  obtain ⟨a10, l11, rfl, h11⟩ := cut1 h10
  clear h10
  obtain ⟨a11, l12, rfl, h12⟩ := cut1 h11
  clear h11
  obtain rfl := cut0 h12
  clear h12
  simp only [R_rtouch, valOf, vals1, valInts, val1, tupleV, resV, valsI, den, bt1, bt2, bt3, bt4, Env.at, E, fb, fi, List.getD_cons_zero, List.getD_cons_succ, List.all_cons, List.all_nil, Bool.and_true, nr', us', ss', nr2, us2, ss2, nr3, us3, ss3, cr2, Bool.and_assoc, Option.map_some, List.all_append, cmps, List.take_succ_cons, List.take_zero, List.drop_succ_cons, List.drop_zero, Int.toNat_zero, Int.toNat_one, show (2 : Int).toNat = 2 from rfl, ptsOf, sqC, bothB, bothe, apB, outE0]
  generalize rgt [a0, a1, a2, a3, a4, a5] = ra, rgt [a6, a7, a8, a9, a10, a11] = rb
  generalize outE [a0, a1, a2, a3, a4, a5] 0 0 [(a6, a7), (a8, a9), (a10, a11)] = x0
  generalize outE [a0, a1, a2, a3, a4, a5] 1 0 [(a6, a7), (a8, a9), (a10, a11)] = x1
  generalize outE [a0, a1, a2, a3, a4, a5] 2 0 [(a6, a7), (a8, a9), (a10, a11)] = x2
  generalize outE [a6, a7, a8, a9, a10, a11] 0 0 [(a0, a1), (a2, a3), (a4, a5)] = y0
  generalize outE [a6, a7, a8, a9, a10, a11] 1 0 [(a0, a1), (a2, a3), (a4, a5)] = y1
  generalize outE [a6, a7, a8, a9, a10, a11] 2 0 [(a0, a1), (a2, a3), (a4, a5)] = y2
  cases ra <;> cases rb <;> cases x0 <;> cases x1 <;> cases x2 <;> cases y0 <;> cases y1 <;> cases y2 <;> rfl

theorem c_rtouch (W : World) : Flat Try.prog E W Any 31 [.g 6, .g 6] fun l => tupleV (resV E 60 l [.b, .i] 0 0) := flat_val (cm3_ok W) k_rtouch v_rtouch

def R_rsquare : AV := (.tuple [(.bool (.ite (.ite (.lt (.var 2) (.lit 1)) (.blit true) (.ite (.lt (.lit 4096) (.var 2)) (.blit true) (.no (.app 1 0 (.cons (.var 0) (.cons (.var 1) .nil)))))) (.blit false) (.ite (.app 1 0 (.cons (.add (.var 0) (.var 2)) (.cons (.add (.var 1) (.var 2)) .nil))) (.ite (.app 56 0 (.cons (.var 3) (.cons (.var 4) (.cons (.var 5) (.cons (.var 6) (.cons (.var 7) (.cons (.var 8) .nil))))))) (.ite (.ite (.lt (.add (.var 0) (.var 2)) (.ite (.lt (.var 7) (.ite (.lt (.var 5) (.var 3)) (.var 5) (.var 3))) (.var 7) (.ite (.lt (.var 5) (.var 3)) (.var 5) (.var 3)))) (.blit true) (.ite (.lt (.add (.var 1) (.var 2)) (.ite (.lt (.var 8) (.ite (.lt (.var 6) (.var 4)) (.var 6) (.var 4))) (.var 8) (.ite (.lt (.var 6) (.var 4)) (.var 6) (.var 4)))) (.blit true) (.ite (.lt (.ite (.lt (.ite (.lt (.var 3) (.var 5)) (.var 5) (.var 3)) (.var 7)) (.var 7) (.ite (.lt (.var 3) (.var 5)) (.var 5) (.var 3))) (.var 0)) (.blit true) (.lt (.ite (.lt (.ite (.lt (.var 4) (.var 6)) (.var 6) (.var 4)) (.var 8)) (.var 8) (.ite (.lt (.var 4) (.var 6)) (.var 6) (.var 4))) (.var 1))))) (.blit false) (.no (.ite (.lt (.app 65 0 (.cons (.var 3) (.cons (.var 4) (.cons (.var 5) (.cons (.var 6) (.cons (.var 7) (.cons (.var 8) (.cons (.lit 0) (.cons (.var 0) (.cons (.var 1) (.cons (.add (.var 0) (.var 2)) (.cons (.var 1) (.cons (.add (.var 0) (.var 2)) (.cons (.add (.var 1) (.var 2)) (.cons (.var 0) (.cons (.add (.var 1) (.var 2)) .nil)))))))))))))))) (.lit 0)) (.blit true) (.ite (.lt (.app 65 0 (.cons (.var 3) (.cons (.var 4) (.cons (.var 5) (.cons (.var 6) (.cons (.var 7) (.cons (.var 8) (.cons (.lit 1) (.cons (.var 0) (.cons (.var 1) (.cons (.add (.var 0) (.var 2)) (.cons (.var 1) (.cons (.add (.var 0) (.var 2)) (.cons (.add (.var 1) (.var 2)) (.cons (.var 0) (.cons (.add (.var 1) (.var 2)) .nil)))))))))))))))) (.lit 0)) (.blit true) (.lt (.app 65 0 (.cons (.var 3) (.cons (.var 4) (.cons (.var 5) (.cons (.var 6) (.cons (.var 7) (.cons (.var 8) (.cons (.lit 2) (.cons (.var 0) (.cons (.var 1) (.cons (.add (.var 0) (.var 2)) (.cons (.var 1) (.cons (.add (.var 0) (.var 2)) (.cons (.add (.var 1) (.var 2)) (.cons (.var 0) (.cons (.add (.var 1) (.var 2)) .nil)))))))))))))))) (.lit 0)))))) (.blit false)) (.blit false)))), (.int (.ite (.ite (.lt (.var 2) (.lit 1)) (.blit true) (.ite (.lt (.lit 4096) (.var 2)) (.blit true) (.no (.app 1 0 (.cons (.var 0) (.cons (.var 1) .nil)))))) (.lit 5) (.ite (.app 1 0 (.cons (.add (.var 0) (.var 2)) (.cons (.add (.var 1) (.var 2)) .nil))) (.ite (.app 56 0 (.cons (.var 3) (.cons (.var 4) (.cons (.var 5) (.cons (.var 6) (.cons (.var 7) (.cons (.var 8) .nil))))))) (.lit 0) (.lit 1)) (.lit 5))))])
theorem k_rsquare : acall cm3 20 false 33 [] (argsG [.g 2, .i, .g 6] 0 0) (heapG [.g 2, .i, .g 6] 0) = .leaf (R_rsquare, heapG [.g 2, .i, .g 6] 0) := by kernel_rfl
set_option maxHeartbeats 4000000 in
set_option maxRecDepth 20000 in
theorem v_rsquare : ∀ l : List Int, l.length = lenSh [.g 2, .i, .g 6] → Any l → valOf (E.at l) R_rsquare = some (tupleV (resV E 61 l [.b, .i] 0 0)) := by
  intro l hl hG
  have h0 : l.length = 9 := hl
  clear hl
  obtain ⟨a0, l1, rfl, h1⟩ := cut1 h0
  clear h0
  obtain ⟨a1, l2, rfl, h2⟩ := cut1 h1
  clear h1
  obtain ⟨a2, l3, rfl, h3⟩ := cut1 h2
  clear h2
  obtain ⟨a3, l4, rfl, h4⟩ := cut1 h3
  clear h3
  obtain ⟨a4, l5, rfl, h5⟩ := cut1 h4
  clear h4
  obtain ⟨a5, l6, rfl, h6⟩ := cut1 h5
  clear h5
  obtain ⟨a6, l7, rfl, h7⟩ := cut1 h6
  clear h6
  obtain ⟨a7, l8, rfl, h8⟩ := cut1 h7
  clear h7
  obtain ⟨a8, l9, rfl, h9⟩ := cut1 h8
  clear h8
  obtain rfl := cut0 h9
  clear h9
  simp only [R_rsquare, valOf, vals1, valInts, val1, tupleV, resV, valsI, den, bt1, bt2, bt3, bt4, Env.at, E, fb, fi, List.getD_cons_zero, List.getD_cons_succ, List.all_cons, List.all_nil, Bool.and_true, nr', us', ss', nr2, us2, ss2, nr3, us3, ss3, cr2, Bool.and_assoc, Option.map_some, List.all_append, cmps, List.take_succ_cons, List.take_zero, List.drop_succ_cons, List.drop_zero, Int.toNat_zero, Int.toNat_one, show (2 : Int).toNat = 2 from rfl, ptsOf, sqC, sqg, sqe, sqB, sqBox, mnE, mxE, outE0]
  have c1 : decide (a2 < 1) = !decide (1 ≤ a2) := ltle _ _
  have c2 : decide (4096 < a2) = !decide (a2 ≤ 4096) := ltle _ _
  rw [c1, c2]
  cases g1 : decide (1 ≤ a2)
  · simp
  cases g2 : decide (a2 ≤ 4096)
  · simp
  cases g3 : us a0
  · simp
  cases g4 : us a1
  · simp
  have q1 := of_decide_eq_true g1
  have q2 := of_decide_eq_true g2
  have q3 := us_b g3
  have q4 := us_b g4
  have w0 : IntKind.i64.wrap (a0 + a2) = a0 + a2 := wr (by omega)
  have w1 : IntKind.i64.wrap (a1 + a2) = a1 + a2 := wr (by omega)
  simp only [w0, w1, apB, ptsOf, ltle (a0 + a2), ltle (a1 + a2), ltle _ a0, ltle _ a1]
  generalize rgt [a3, a4, a5, a6, a7, a8] = ra, us (a0 + a2) = u0, us (a1 + a2) = u1
  generalize outE [a3, a4, a5, a6, a7, a8] 0 0 [(a0, a1), (a0 + a2, a1), (a0 + a2, a1 + a2), (a0, a1 + a2)] = x0
  generalize outE [a3, a4, a5, a6, a7, a8] 1 0 [(a0, a1), (a0 + a2, a1), (a0 + a2, a1 + a2), (a0, a1 + a2)] = x1
  generalize outE [a3, a4, a5, a6, a7, a8] 2 0 [(a0, a1), (a0 + a2, a1), (a0 + a2, a1 + a2), (a0, a1 + a2)] = x2
  generalize decide (min (min a3 a5) a7 ≤ a0 + a2) = d0, decide (min (min a4 a6) a8 ≤ a1 + a2) = d1, decide (a0 ≤ max (max a3 a5) a7) = d2, decide (a1 ≤ max (max a4 a6) a8) = d3
  cases ra <;> cases u0 <;> cases u1 <;> cases x0 <;> cases x1 <;> cases x2 <;> cases d0 <;> cases d1 <;> cases d2 <;> cases d3 <;> rfl

theorem c_rsquare (W : World) : Flat Try.prog E W Any 33 [.g 2, .i, .g 6] fun l => tupleV (resV E 61 l [.b, .i] 0 0) := flat_val (cm3_ok W) k_rsquare v_rsquare

def R_rin10 : AV := (.tuple [(.int (.ite (.app 1 0 (.cons (.var 0) (.cons (.var 1) .nil))) (.ite (.app 56 0 (.cons (.var 2) (.cons (.var 3) (.cons (.var 4) (.cons (.var 5) (.cons (.var 6) (.cons (.var 7) .nil))))))) (.add (.ite (.lt (.mul (.app 11 0 (.cons (.var 6) (.cons (.var 7) (.cons (.var 2) (.cons (.var 3) (.cons (.var 4) (.cons (.var 5) .nil))))))) (.app 11 0 (.cons (.var 6) (.cons (.var 7) (.cons (.var 2) (.cons (.var 3) (.cons (.var 0) (.cons (.var 1) .nil)))))))) (.ite (.lt (.mul (.app 11 0 (.cons (.var 4) (.cons (.var 5) (.cons (.var 6) (.cons (.var 7) (.cons (.var 2) (.cons (.var 3) .nil))))))) (.app 11 0 (.cons (.var 4) (.cons (.var 5) (.cons (.var 6) (.cons (.var 7) (.cons (.var 0) (.cons (.var 1) .nil)))))))) (.ite (.lt (.mul (.app 11 0 (.cons (.var 2) (.cons (.var 3) (.cons (.var 4) (.cons (.var 5) (.cons (.var 6) (.cons (.var 7) .nil))))))) (.app 11 0 (.cons (.var 2) (.cons (.var 3) (.cons (.var 4) (.cons (.var 5) (.cons (.var 0) (.cons (.var 1) .nil)))))))) (.lit 1)) (.mul (.app 11 0 (.cons (.var 2) (.cons (.var 3) (.cons (.var 4) (.cons (.var 5) (.cons (.var 6) (.cons (.var 7) .nil))))))) (.app 11 0 (.cons (.var 2) (.cons (.var 3) (.cons (.var 4) (.cons (.var 5) (.cons (.var 0) (.cons (.var 1) .nil)))))))) (.lit 1))) (.mul (.app 11 0 (.cons (.var 4) (.cons (.var 5) (.cons (.var 6) (.cons (.var 7) (.cons (.var 2) (.cons (.var 3) .nil))))))) (.app 11 0 (.cons (.var 4) (.cons (.var 5) (.cons (.var 6) (.cons (.var 7) (.cons (.var 0) (.cons (.var 1) .nil)))))))) (.ite (.lt (.mul (.app 11 0 (.cons (.var 2) (.cons (.var 3) (.cons (.var 4) (.cons (.var 5) (.cons (.var 6) (.cons (.var 7) .nil))))))) (.app 11 0 (.cons (.var 2) (.cons (.var 3) (.cons (.var 4) (.cons (.var 5) (.cons (.var 0) (.cons (.var 1) .nil)))))))) (.lit 1)) (.mul (.app 11 0 (.cons (.var 2) (.cons (.var 3) (.cons (.var 4) (.cons (.var 5) (.cons (.var 6) (.cons (.var 7) .nil))))))) (.app 11 0 (.cons (.var 2) (.cons (.var 3) (.cons (.var 4) (.cons (.var 5) (.cons (.var 0) (.cons (.var 1) .nil)))))))) (.lit 1)))) (.mul (.app 11 0 (.cons (.var 6) (.cons (.var 7) (.cons (.var 2) (.cons (.var 3) (.cons (.var 4) (.cons (.var 5) .nil))))))) (.app 11 0 (.cons (.var 6) (.cons (.var 7) (.cons (.var 2) (.cons (.var 3) (.cons (.var 0) (.cons (.var 1) .nil)))))))) (.ite (.lt (.mul (.app 11 0 (.cons (.var 4) (.cons (.var 5) (.cons (.var 6) (.cons (.var 7) (.cons (.var 2) (.cons (.var 3) .nil))))))) (.app 11 0 (.cons (.var 4) (.cons (.var 5) (.cons (.var 6) (.cons (.var 7) (.cons (.var 0) (.cons (.var 1) .nil)))))))) (.ite (.lt (.mul (.app 11 0 (.cons (.var 2) (.cons (.var 3) (.cons (.var 4) (.cons (.var 5) (.cons (.var 6) (.cons (.var 7) .nil))))))) (.app 11 0 (.cons (.var 2) (.cons (.var 3) (.cons (.var 4) (.cons (.var 5) (.cons (.var 0) (.cons (.var 1) .nil)))))))) (.lit 1)) (.mul (.app 11 0 (.cons (.var 2) (.cons (.var 3) (.cons (.var 4) (.cons (.var 5) (.cons (.var 6) (.cons (.var 7) .nil))))))) (.app 11 0 (.cons (.var 2) (.cons (.var 3) (.cons (.var 4) (.cons (.var 5) (.cons (.var 0) (.cons (.var 1) .nil)))))))) (.lit 1))) (.mul (.app 11 0 (.cons (.var 4) (.cons (.var 5) (.cons (.var 6) (.cons (.var 7) (.cons (.var 2) (.cons (.var 3) .nil))))))) (.app 11 0 (.cons (.var 4) (.cons (.var 5) (.cons (.var 6) (.cons (.var 7) (.cons (.var 0) (.cons (.var 1) .nil)))))))) (.ite (.lt (.mul (.app 11 0 (.cons (.var 2) (.cons (.var 3) (.cons (.var 4) (.cons (.var 5) (.cons (.var 6) (.cons (.var 7) .nil))))))) (.app 11 0 (.cons (.var 2) (.cons (.var 3) (.cons (.var 4) (.cons (.var 5) (.cons (.var 0) (.cons (.var 1) .nil)))))))) (.lit 1)) (.mul (.app 11 0 (.cons (.var 2) (.cons (.var 3) (.cons (.var 4) (.cons (.var 5) (.cons (.var 6) (.cons (.var 7) .nil))))))) (.app 11 0 (.cons (.var 2) (.cons (.var 3) (.cons (.var 4) (.cons (.var 5) (.cons (.var 0) (.cons (.var 1) .nil)))))))) (.lit 1)))) (.lit 1)) (.lit 0)) (.lit 0))), (.int (.ite (.app 1 0 (.cons (.var 0) (.cons (.var 1) .nil))) (.ite (.app 56 0 (.cons (.var 2) (.cons (.var 3) (.cons (.var 4) (.cons (.var 5) (.cons (.var 6) (.cons (.var 7) .nil))))))) (.lit 0) (.lit 1)) (.lit 5)))])
theorem k_rin10 : acall cm3 20 false 27 [] (argsG [.g 2, .g 6] 0 0) (heapG [.g 2, .g 6] 0) = .leaf (R_rin10, heapG [.g 2, .g 6] 0) := by kernel_rfl
set_option maxHeartbeats 4000000 in
set_option maxRecDepth 20000 in
theorem v_rin10 : ∀ l : List Int, l.length = lenSh [.g 2, .g 6] → Any l → valOf (E.at l) R_rin10 = some (tupleV (resV E 57 l [.i, .i] 0 0)) := by
  intro l hl hG
  have h0 : l.length = 8 := hl
  clear hl
  obtain ⟨a0, l1, rfl, h1⟩ := cut1 h0
  clear h0
  obtain ⟨a1, l2, rfl, h2⟩ := cut1 h1
  clear h1
  obtain ⟨a2, l3, rfl, h3⟩ := cut1 h2
  clear h2
  obtain ⟨a3, l4, rfl, h4⟩ := cut1 h3
  clear h3
  obtain ⟨a4, l5, rfl, h5⟩ := cut1 h4
  clear h4
  obtain ⟨a5, l6, rfl, h6⟩ := cut1 h5
  clear h5
  obtain ⟨a6, l7, rfl, h7⟩ := cut1 h6
  clear h6
  obtain ⟨a7, l8, rfl, h8⟩ := cut1 h7
  clear h7
  obtain rfl := cut0 h8
  clear h8
  simp only [R_rin10, valOf, vals1, valInts, val1, tupleV, resV, valsI, den, Env.at, E, fb, fi, List.getD_cons_zero, List.getD_cons_succ, fi11, List.take_succ_cons, List.take_zero, List.drop_succ_cons, List.drop_zero, Int.toNat_zero, Int.toNat_one, show (2 : Int).toNat = 2 from rfl, ptsOf, sqC, ine, inV]
  have e0 : sdq [a2, a3, a4, a5, a6, a7] * sdq [a2, a3, a4, a5, a0, a1] = edq [a2, a3, a4, a5, a6, a7] 0 a0 a1 := rfl
  have e1 : sdq [a4, a5, a6, a7, a2, a3] * sdq [a4, a5, a6, a7, a0, a1] = edq [a2, a3, a4, a5, a6, a7] 1 a0 a1 := by
    show _ = sdq [a2, a3, a4, a5, a6, a7] * sdq [a4, a5, a6, a7, a0, a1]
    rw [sdq_rot1]
  have e2 : sdq [a6, a7, a2, a3, a4, a5] * sdq [a6, a7, a2, a3, a0, a1] = edq [a2, a3, a4, a5, a6, a7] 2 a0 a1 := by
    show _ = sdq [a2, a3, a4, a5, a6, a7] * sdq [a6, a7, a2, a3, a0, a1]
    rw [sdq_rot2]
  simp only [e0, e1, e2, edq_w, mnE]
  have b0 := edq_b [a2, a3, a4, a5, a6, a7] 0 a0 a1
  have b1 := edq_b [a2, a3, a4, a5, a6, a7] 1 a0 a1
  have b2 := edq_b [a2, a3, a4, a5, a6, a7] 2 a0 a1
  generalize edq [a2, a3, a4, a5, a6, a7] 0 a0 a1 = E0 at *
  generalize edq [a2, a3, a4, a5, a6, a7] 1 a0 a1 = E1 at *
  generalize edq [a2, a3, a4, a5, a6, a7] 2 a0 a1 = E2 at *
  generalize rgt [a2, a3, a4, a5, a6, a7] = ra
  have hw : IntKind.i64.wrap (min (min (min 1 E0) E1) E2 + 1) = min (min (min 1 E0) E1) E2 + 1 := wr (by omega)
  rw [hw]
  simp only [List.all_cons, List.all_nil, Bool.and_true]
  cases us a0 <;> cases us a1 <;> cases ra <;> simp

theorem c_rin10 (W : World) : Flat Try.prog E W Any 27 [.g 2, .g 6] fun l => tupleV (resV E 57 l [.i, .i] 0 0) := flat_val (cm3_ok W) k_rin10 v_rin10

noncomputable def cm4 : Cx := ⟨cm3.ty, cm3.fn, [flatCon 28 [.g 6, .g 6] [.b, .i] 59 noChk, flatCon 30 [.g 6, .g 6] [.b, .i] 60 noChk, flatCon 32 [.g 2, .i, .g 6] [.b, .i] 61 noChk, flatCon 29 [.g 6, .g 6] [.b, .i] 59 noChk, flatCon 31 [.g 6, .g 6] [.b, .i] 60 noChk, flatCon 33 [.g 2, .i, .g 6] [.b, .i] 61 noChk, flatCon 27 [.g 2, .g 6] [.i, .i] 57 noChk] ++ cm3.con, cm3.inl, cm3.eqs⟩
theorem cm4_ok (W : World) : ∀ l, Any l → CxOk Try.prog (E.at l) W cm4 :=
  cx_more (cm3_ok W) (List.forall_mem_cons.2 ⟨flat_con' (c_overlap W), List.forall_mem_cons.2 ⟨flat_con' (c_touch W), List.forall_mem_cons.2 ⟨flat_con' (c_square W), List.forall_mem_cons.2 ⟨flat_con' (c_roverlap W), List.forall_mem_cons.2 ⟨flat_con' (c_rtouch W), List.forall_mem_cons.2 ⟨flat_con' (c_rsquare W), List.forall_mem_cons.2 ⟨flat_con' (c_rin10 W), (fun _ h => by cases h)⟩⟩⟩⟩⟩⟩⟩)
end Go.Proofs.Ytfpnkcmplmkghaa.Sx
