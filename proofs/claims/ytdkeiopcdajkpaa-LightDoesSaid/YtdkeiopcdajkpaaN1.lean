/- Contracts, reckoned. -/
import Derived.Test.YtdkeiopcdajkpaaLr
import Derived.KernelRfl
set_option linter.unusedVariables false
set_option linter.unusedSimpArgs false
namespace Go.Proofs.Ytdkeiopcdajkpaa.Sx
open Go.RowKit

theorem fit3 (a b c : Int) : (decide (min (min a b) c < -8192) || decide (8192 < max (max a b) c)) = !(home a && (home b && home c)) := by
  rw [Bool.eq_iff_iff]; simp only [home, Bool.or_eq_true, Bool.not_eq_true', Bool.and_eq_false_imp, Bool.and_eq_true, decide_eq_true_eq, decide_eq_false_iff_not]; omega
theorem home' (n : Int) : (decide (-8192 ≤ n) && decide (n ≤ 8192)) = home n := rfl
theorem z3_way (a b c x y z : Int) : (a - x == 0 && (b - y == 0 && c - z == 0)) = (x == a && (y == b && z == c)) := by
  rw [Bool.eq_iff_iff]; simp only [Bool.and_eq_true, beq_iff_eq]; omega
theorem ue_near {a b c : Int} (h0 : -1048576 ≤ a ∧ a ≤ 1048576) (h1 : -1048576 ≤ b ∧ b ≤ 1048576) (h2 : -1048576 ≤ c ∧ c ≤ 1048576) : ue [a, b, c] = if (a == 0 && (b == 0 && c == 0)) = true then 3 else 0 := by
  have n0 : nr a = true := by simp [nr]; omega
  have n1 : nr b = true := by simp [nr]; omega
  have n2 : nr c = true := by simp [nr]; omega
  simp [ue, n0, n1, n2, z3]
theorem uv_none {a b c : Int} (k : Nat) (h : ¬ ue [a, b, c] = 0) : uv k [a, b, c] = 0 := by unfold uv; rw [if_neg h]

def R_toward : Tree (AV × Hp) := (.node (.ite (.app 46 0 (.cons (.var 0) (.cons (.var 1) (.cons (.var 2) (.cons (.var 3) (.cons (.var 4) (.cons (.var 5) (.cons (.var 6) (.cons (.var 7) (.cons (.var 8) .nil)))))))))) (.ite (.ite (.lt (.ite (.lt (.var 11) (.ite (.lt (.var 10) (.var 9)) (.var 10) (.var 9))) (.var 11) (.ite (.lt (.var 10) (.var 9)) (.var 10) (.var 9))) (.lit (-8192))) (.blit true) (.lt (.lit 8192) (.ite (.lt (.ite (.lt (.var 9) (.var 10)) (.var 10) (.var 9)) (.var 11)) (.var 11) (.ite (.lt (.var 9) (.var 10)) (.var 10) (.var 9))))) (.blit true) (.ite (.eq (.var 0) (.lit 0)) (.blit false) (.ite (.eq (.var 0) (.lit 1)) (.blit true) (.ite (.eq (.var 0) (.lit 2)) (.blit true) (.eq (.var 0) (.lit 3)))))) (.blit true)) (.leaf ((.tuple [(.agg [(.int (.ite (.app 46 0 (.cons (.var 0) (.cons (.var 1) (.cons (.var 2) (.cons (.var 3) (.cons (.var 4) (.cons (.var 5) (.cons (.var 6) (.cons (.var 7) (.cons (.var 8) .nil)))))))))) (.ite (.ite (.lt (.ite (.lt (.var 11) (.ite (.lt (.var 10) (.var 9)) (.var 10) (.var 9))) (.var 11) (.ite (.lt (.var 10) (.var 9)) (.var 10) (.var 9))) (.lit (-8192))) (.blit true) (.lt (.lit 8192) (.ite (.lt (.ite (.lt (.var 9) (.var 10)) (.var 10) (.var 9)) (.var 11)) (.var 11) (.ite (.lt (.var 9) (.var 10)) (.var 10) (.var 9))))) (.lit 0) (.ite (.eq (.var 0) (.lit 1)) (.sub (.lit 0) (.app 40 0 (.cons (.var 4) (.cons (.var 5) (.cons (.var 6) .nil))))) (.ite (.eq (.app 40 3 (.cons (.sub (.var 1) (.var 9)) (.cons (.sub (.var 2) (.var 10)) (.cons (.sub (.var 3) (.var 11)) .nil)))) (.lit 0)) (.app 40 0 (.cons (.sub (.var 1) (.var 9)) (.cons (.sub (.var 2) (.var 10)) (.cons (.sub (.var 3) (.var 11)) .nil)))) (.lit 0)))) (.lit 0))), (.int (.ite (.app 46 0 (.cons (.var 0) (.cons (.var 1) (.cons (.var 2) (.cons (.var 3) (.cons (.var 4) (.cons (.var 5) (.cons (.var 6) (.cons (.var 7) (.cons (.var 8) .nil)))))))))) (.ite (.ite (.lt (.ite (.lt (.var 11) (.ite (.lt (.var 10) (.var 9)) (.var 10) (.var 9))) (.var 11) (.ite (.lt (.var 10) (.var 9)) (.var 10) (.var 9))) (.lit (-8192))) (.blit true) (.lt (.lit 8192) (.ite (.lt (.ite (.lt (.var 9) (.var 10)) (.var 10) (.var 9)) (.var 11)) (.var 11) (.ite (.lt (.var 9) (.var 10)) (.var 10) (.var 9))))) (.lit 0) (.ite (.eq (.var 0) (.lit 1)) (.sub (.lit 0) (.app 40 1 (.cons (.var 4) (.cons (.var 5) (.cons (.var 6) .nil))))) (.ite (.eq (.app 40 3 (.cons (.sub (.var 1) (.var 9)) (.cons (.sub (.var 2) (.var 10)) (.cons (.sub (.var 3) (.var 11)) .nil)))) (.lit 0)) (.app 40 1 (.cons (.sub (.var 1) (.var 9)) (.cons (.sub (.var 2) (.var 10)) (.cons (.sub (.var 3) (.var 11)) .nil)))) (.lit 0)))) (.lit 0))), (.int (.ite (.app 46 0 (.cons (.var 0) (.cons (.var 1) (.cons (.var 2) (.cons (.var 3) (.cons (.var 4) (.cons (.var 5) (.cons (.var 6) (.cons (.var 7) (.cons (.var 8) .nil)))))))))) (.ite (.ite (.lt (.ite (.lt (.var 11) (.ite (.lt (.var 10) (.var 9)) (.var 10) (.var 9))) (.var 11) (.ite (.lt (.var 10) (.var 9)) (.var 10) (.var 9))) (.lit (-8192))) (.blit true) (.lt (.lit 8192) (.ite (.lt (.ite (.lt (.var 9) (.var 10)) (.var 10) (.var 9)) (.var 11)) (.var 11) (.ite (.lt (.var 9) (.var 10)) (.var 10) (.var 9))))) (.lit 0) (.ite (.eq (.var 0) (.lit 1)) (.sub (.lit 0) (.app 40 2 (.cons (.var 4) (.cons (.var 5) (.cons (.var 6) .nil))))) (.ite (.eq (.app 40 3 (.cons (.sub (.var 1) (.var 9)) (.cons (.sub (.var 2) (.var 10)) (.cons (.sub (.var 3) (.var 11)) .nil)))) (.lit 0)) (.app 40 2 (.cons (.sub (.var 1) (.var 9)) (.cons (.sub (.var 2) (.var 10)) (.cons (.sub (.var 3) (.var 11)) .nil)))) (.lit 0)))) (.lit 0)))]), (.agg [(.int (.ite (.app 46 0 (.cons (.var 0) (.cons (.var 1) (.cons (.var 2) (.cons (.var 3) (.cons (.var 4) (.cons (.var 5) (.cons (.var 6) (.cons (.var 7) (.cons (.var 8) .nil)))))))))) (.ite (.ite (.lt (.ite (.lt (.var 11) (.ite (.lt (.var 10) (.var 9)) (.var 10) (.var 9))) (.var 11) (.ite (.lt (.var 10) (.var 9)) (.var 10) (.var 9))) (.lit (-8192))) (.blit true) (.lt (.lit 8192) (.ite (.lt (.ite (.lt (.var 9) (.var 10)) (.var 10) (.var 9)) (.var 11)) (.var 11) (.ite (.lt (.var 9) (.var 10)) (.var 10) (.var 9))))) (.lit 0) (.ite (.eq (.var 0) (.lit 1)) (.add (.var 9) (.mul (.lit 4) (.sub (.lit 0) (.app 40 0 (.cons (.var 4) (.cons (.var 5) (.cons (.var 6) .nil))))))) (.ite (.eq (.app 40 3 (.cons (.sub (.var 1) (.var 9)) (.cons (.sub (.var 2) (.var 10)) (.cons (.sub (.var 3) (.var 11)) .nil)))) (.lit 0)) (.var 1) (.lit 0)))) (.lit 0))), (.int (.ite (.app 46 0 (.cons (.var 0) (.cons (.var 1) (.cons (.var 2) (.cons (.var 3) (.cons (.var 4) (.cons (.var 5) (.cons (.var 6) (.cons (.var 7) (.cons (.var 8) .nil)))))))))) (.ite (.ite (.lt (.ite (.lt (.var 11) (.ite (.lt (.var 10) (.var 9)) (.var 10) (.var 9))) (.var 11) (.ite (.lt (.var 10) (.var 9)) (.var 10) (.var 9))) (.lit (-8192))) (.blit true) (.lt (.lit 8192) (.ite (.lt (.ite (.lt (.var 9) (.var 10)) (.var 10) (.var 9)) (.var 11)) (.var 11) (.ite (.lt (.var 9) (.var 10)) (.var 10) (.var 9))))) (.lit 0) (.ite (.eq (.var 0) (.lit 1)) (.add (.var 10) (.mul (.lit 4) (.sub (.lit 0) (.app 40 1 (.cons (.var 4) (.cons (.var 5) (.cons (.var 6) .nil))))))) (.ite (.eq (.app 40 3 (.cons (.sub (.var 1) (.var 9)) (.cons (.sub (.var 2) (.var 10)) (.cons (.sub (.var 3) (.var 11)) .nil)))) (.lit 0)) (.var 2) (.lit 0)))) (.lit 0))), (.int (.ite (.app 46 0 (.cons (.var 0) (.cons (.var 1) (.cons (.var 2) (.cons (.var 3) (.cons (.var 4) (.cons (.var 5) (.cons (.var 6) (.cons (.var 7) (.cons (.var 8) .nil)))))))))) (.ite (.ite (.lt (.ite (.lt (.var 11) (.ite (.lt (.var 10) (.var 9)) (.var 10) (.var 9))) (.var 11) (.ite (.lt (.var 10) (.var 9)) (.var 10) (.var 9))) (.lit (-8192))) (.blit true) (.lt (.lit 8192) (.ite (.lt (.ite (.lt (.var 9) (.var 10)) (.var 10) (.var 9)) (.var 11)) (.var 11) (.ite (.lt (.var 9) (.var 10)) (.var 10) (.var 9))))) (.lit 0) (.ite (.eq (.var 0) (.lit 1)) (.add (.var 11) (.mul (.lit 4) (.sub (.lit 0) (.app 40 2 (.cons (.var 4) (.cons (.var 5) (.cons (.var 6) .nil))))))) (.ite (.eq (.app 40 3 (.cons (.sub (.var 1) (.var 9)) (.cons (.sub (.var 2) (.var 10)) (.cons (.sub (.var 3) (.var 11)) .nil)))) (.lit 0)) (.var 3) (.lit 0)))) (.lit 0)))]), (.int (.ite (.app 46 0 (.cons (.var 0) (.cons (.var 1) (.cons (.var 2) (.cons (.var 3) (.cons (.var 4) (.cons (.var 5) (.cons (.var 6) (.cons (.var 7) (.cons (.var 8) .nil)))))))))) (.ite (.ite (.lt (.ite (.lt (.var 11) (.ite (.lt (.var 10) (.var 9)) (.var 10) (.var 9))) (.var 11) (.ite (.lt (.var 10) (.var 9)) (.var 10) (.var 9))) (.lit (-8192))) (.blit true) (.lt (.lit 8192) (.ite (.lt (.ite (.lt (.var 9) (.var 10)) (.var 10) (.var 9)) (.var 11)) (.var 11) (.ite (.lt (.var 9) (.var 10)) (.var 10) (.var 9))))) (.lit 5) (.ite (.eq (.var 0) (.lit 1)) (.app 40 3 (.cons (.var 4) (.cons (.var 5) (.cons (.var 6) .nil)))) (.ite (.eq (.app 40 3 (.cons (.sub (.var 1) (.var 9)) (.cons (.sub (.var 2) (.var 10)) (.cons (.sub (.var 3) (.var 11)) .nil)))) (.lit 0)) (.lit 0) (.app 40 3 (.cons (.sub (.var 1) (.var 9)) (.cons (.sub (.var 2) (.var 10)) (.cons (.sub (.var 3) (.var 11)) .nil))))))) (.lit 1)))]), [])) (.fail ))
theorem k_toward : acall ck1 20 false 26 [] (argsG [.g 9, .g 3] 0 0) (heapG [.g 9, .g 3] 0) = R_toward := by kernel_rfl
set_option maxHeartbeats 4000000 in
set_option maxRecDepth 20000 in
theorem v_toward : ∀ l : List Int, l.length = lenSh [.g 9, .g 3] → AllI l → ((R_toward.map fun r => valOf (E.at l) r.1).sel (E.at l)) = some (some (tupleV (resV E 44 l [.g 3, .g 3, .i] 0 0))) := by
  intro l hl hG
  have h0 : l.length = 12 := hl
  clear hl
  obtain ⟨a0, l1, rfl, h1⟩ := cut1 h0
  clear h0
  obtain ⟨a1, l2, rfl, h2⟩ := cut1 h1
  clear h1
  obtain ⟨a2, l3, rfl, h3⟩ := cut1 h2
  clear h2
  obtain ⟨a3, l4, rfl, h4⟩ := cut1 h3
  clear h3
  obtain ⟨a4, l5, rfl, h5⟩ := cut1 h4
  clear h4
  obtain ⟨a5, l6, rfl, h6⟩ := cut1 h5
  clear h5
  obtain ⟨a6, l7, rfl, h7⟩ := cut1 h6
  clear h6
  obtain ⟨a7, l8, rfl, h8⟩ := cut1 h7
  clear h7
  obtain ⟨a8, l9, rfl, h9⟩ := cut1 h8
  clear h8
  obtain ⟨a9, l10, rfl, h10⟩ := cut1 h9
  clear h9
  obtain ⟨a10, l11, rfl, h11⟩ := cut1 h10
  clear h10
  obtain ⟨a11, l12, rfl, h12⟩ := cut1 h11
  clear h11
  obtain rfl := cut0 h12
  clear h12
  simp only [R_toward, valOf, vals1, valInts, val1, tupleV, resV, valsI, den, bt1, bt2, bt3, bt4, Env.at, E, fb, fi, List.getD_cons_zero, List.getD_cons_succ, List.all_cons, List.all_nil, Bool.and_true, nr', us', ss', nr2, us2, ss2, nr3, us3, ss3, Bool.and_assoc, Option.map_some, List.all_append, cmps, Wh.fe, Env.b, Env.i, Tree.map, Tree.sel, maxI, minI, wv, wp, we, ldir, lway, z3, z3_way, fit3, List.take_succ_cons, List.take_zero, List.drop_succ_cons, List.drop_zero, List.cons_append, List.nil_append]
  cases hl : lr [a0, a1, a2, a3, a4, a5, a6, a7, a8]
  · simp
  have L := lr_iff.1 hl
  cases hh : (home a9 && (home a10 && home a11))
  · simp
  have hb := hh
  simp only [Bool.and_eq_true] at hb
  have h9 := home_bd hb.1; have h10 := home_bd hb.2.1; have h11 := home_bd hb.2.2
  have l1 := L.b1; have l2 := L.b2; have l3 := L.b3; have lk := L.k
  have w1 : IntKind.i64.wrap (a1 - a9) = a1 - a9 := wr (by omega)
  have w2 : IntKind.i64.wrap (a2 - a10) = a2 - a10 := wr (by omega)
  have w3 : IntKind.i64.wrap (a3 - a11) = a3 - a11 := wr (by omega)
  have e := ue_near (a := a1 - a9) (b := a2 - a10) (c := a3 - a11) (by omega) (by omega) (by omega)
  rw [z3_way] at e
  have nn := fun k => uv_none (a := a1 - a9) (b := a2 - a10) (c := a3 - a11) k
  have u0 := uv_bd a4 a5 a6 0 (by decide); have u1 := uv_bd a4 a5 a6 1 (by decide); have u2 := uv_bd a4 a5 a6 2 (by decide)
  have x0 : IntKind.i64.wrap (0 - uv 0 [a4, a5, a6]) = 0 - uv 0 [a4, a5, a6] := wr (by omega)
  have x1 : IntKind.i64.wrap (0 - uv 1 [a4, a5, a6]) = 0 - uv 1 [a4, a5, a6] := wr (by omega)
  have x2 : IntKind.i64.wrap (0 - uv 2 [a4, a5, a6]) = 0 - uv 2 [a4, a5, a6] := wr (by omega)
  have y0 : IntKind.i64.wrap (4 * (0 - uv 0 [a4, a5, a6])) = 4 * (0 - uv 0 [a4, a5, a6]) := wr (by omega)
  have y1 : IntKind.i64.wrap (4 * (0 - uv 1 [a4, a5, a6])) = 4 * (0 - uv 1 [a4, a5, a6]) := wr (by omega)
  have y2 : IntKind.i64.wrap (4 * (0 - uv 2 [a4, a5, a6])) = 4 * (0 - uv 2 [a4, a5, a6]) := wr (by omega)
  have v0 : IntKind.i64.wrap (a9 + 4 * (0 - uv 0 [a4, a5, a6])) = a9 + 4 * (0 - uv 0 [a4, a5, a6]) := wr (by omega)
  have v1 : IntKind.i64.wrap (a10 + 4 * (0 - uv 1 [a4, a5, a6])) = a10 + 4 * (0 - uv 1 [a4, a5, a6]) := wr (by omega)
  have v2 : IntKind.i64.wrap (a11 + 4 * (0 - uv 2 [a4, a5, a6])) = a11 + 4 * (0 - uv 2 [a4, a5, a6]) := wr (by omega)
  simp only [w1, w2, w3, x0, x1, x2, y0, y1, y2, v0, v1, v2]
  have k : a0 = 1 ∨ a0 = 2 ∨ a0 = 3 := by omega
  rcases k with rfl | rfl | rfl
  · have he := lt_dir L (by decide)
    simp only [he]
    rfl
  · cases hz : (a9 == a1 && (a10 == a2 && a11 == a3))
    · rw [hz] at e
      simp [e]
    · rw [hz] at e
      have n0 := nn 0 (by rw [e]; decide); have n1 := nn 1 (by rw [e]; decide); have n2 := nn 2 (by rw [e]; decide)
      simp [e, n0, n1, n2]
  · cases hz : (a9 == a1 && (a10 == a2 && a11 == a3))
    · rw [hz] at e
      simp [e]
    · rw [hz] at e
      have n0 := nn 0 (by rw [e]; decide); have n1 := nn 1 (by rw [e]; decide); have n2 := nn 2 (by rw [e]; decide)
      simp [e, n0, n1, n2]

theorem c_toward (W : World) : Flat Try.prog E W AllI 26 [.g 9, .g 3] fun l => tupleV (resV E 44 l [.g 3, .g 3, .i] 0 0) := flat_sel (ck1_ok W) k_toward v_toward

def R_rtoward : AV := (.tuple [(.agg [(.int (.ite (.app 46 0 (.cons (.var 0) (.cons (.var 1) (.cons (.var 2) (.cons (.var 3) (.cons (.var 4) (.cons (.var 5) (.cons (.var 6) (.cons (.var 7) (.cons (.var 8) .nil)))))))))) (.ite (.ite (.ite (.le (.lit (-8192)) (.var 9)) (.le (.var 9) (.lit 8192)) (.blit false)) (.ite (.ite (.le (.lit (-8192)) (.var 10)) (.le (.var 10) (.lit 8192)) (.blit false)) (.ite (.le (.lit (-8192)) (.var 11)) (.le (.var 11) (.lit 8192)) (.blit false)) (.blit false)) (.blit false)) (.ite (.eq (.var 0) (.lit 1)) (.sub (.lit 0) (.app 40 0 (.cons (.var 4) (.cons (.var 5) (.cons (.var 6) .nil))))) (.ite (.ite (.eq (.var 9) (.var 1)) (.ite (.eq (.var 10) (.var 2)) (.eq (.var 11) (.var 3)) (.blit false)) (.blit false)) (.lit 0) (.app 40 0 (.cons (.sub (.var 1) (.var 9)) (.cons (.sub (.var 2) (.var 10)) (.cons (.sub (.var 3) (.var 11)) .nil)))))) (.lit 0)) (.lit 0))), (.int (.ite (.app 46 0 (.cons (.var 0) (.cons (.var 1) (.cons (.var 2) (.cons (.var 3) (.cons (.var 4) (.cons (.var 5) (.cons (.var 6) (.cons (.var 7) (.cons (.var 8) .nil)))))))))) (.ite (.ite (.ite (.le (.lit (-8192)) (.var 9)) (.le (.var 9) (.lit 8192)) (.blit false)) (.ite (.ite (.le (.lit (-8192)) (.var 10)) (.le (.var 10) (.lit 8192)) (.blit false)) (.ite (.le (.lit (-8192)) (.var 11)) (.le (.var 11) (.lit 8192)) (.blit false)) (.blit false)) (.blit false)) (.ite (.eq (.var 0) (.lit 1)) (.sub (.lit 0) (.app 40 1 (.cons (.var 4) (.cons (.var 5) (.cons (.var 6) .nil))))) (.ite (.ite (.eq (.var 9) (.var 1)) (.ite (.eq (.var 10) (.var 2)) (.eq (.var 11) (.var 3)) (.blit false)) (.blit false)) (.lit 0) (.app 40 1 (.cons (.sub (.var 1) (.var 9)) (.cons (.sub (.var 2) (.var 10)) (.cons (.sub (.var 3) (.var 11)) .nil)))))) (.lit 0)) (.lit 0))), (.int (.ite (.app 46 0 (.cons (.var 0) (.cons (.var 1) (.cons (.var 2) (.cons (.var 3) (.cons (.var 4) (.cons (.var 5) (.cons (.var 6) (.cons (.var 7) (.cons (.var 8) .nil)))))))))) (.ite (.ite (.ite (.le (.lit (-8192)) (.var 9)) (.le (.var 9) (.lit 8192)) (.blit false)) (.ite (.ite (.le (.lit (-8192)) (.var 10)) (.le (.var 10) (.lit 8192)) (.blit false)) (.ite (.le (.lit (-8192)) (.var 11)) (.le (.var 11) (.lit 8192)) (.blit false)) (.blit false)) (.blit false)) (.ite (.eq (.var 0) (.lit 1)) (.sub (.lit 0) (.app 40 2 (.cons (.var 4) (.cons (.var 5) (.cons (.var 6) .nil))))) (.ite (.ite (.eq (.var 9) (.var 1)) (.ite (.eq (.var 10) (.var 2)) (.eq (.var 11) (.var 3)) (.blit false)) (.blit false)) (.lit 0) (.app 40 2 (.cons (.sub (.var 1) (.var 9)) (.cons (.sub (.var 2) (.var 10)) (.cons (.sub (.var 3) (.var 11)) .nil)))))) (.lit 0)) (.lit 0)))]), (.agg [(.int (.ite (.app 46 0 (.cons (.var 0) (.cons (.var 1) (.cons (.var 2) (.cons (.var 3) (.cons (.var 4) (.cons (.var 5) (.cons (.var 6) (.cons (.var 7) (.cons (.var 8) .nil)))))))))) (.ite (.ite (.ite (.le (.lit (-8192)) (.var 9)) (.le (.var 9) (.lit 8192)) (.blit false)) (.ite (.ite (.le (.lit (-8192)) (.var 10)) (.le (.var 10) (.lit 8192)) (.blit false)) (.ite (.le (.lit (-8192)) (.var 11)) (.le (.var 11) (.lit 8192)) (.blit false)) (.blit false)) (.blit false)) (.ite (.eq (.var 0) (.lit 1)) (.add (.var 9) (.mul (.lit 4) (.sub (.lit 0) (.app 40 0 (.cons (.var 4) (.cons (.var 5) (.cons (.var 6) .nil))))))) (.ite (.ite (.eq (.var 9) (.var 1)) (.ite (.eq (.var 10) (.var 2)) (.eq (.var 11) (.var 3)) (.blit false)) (.blit false)) (.lit 0) (.var 1))) (.lit 0)) (.lit 0))), (.int (.ite (.app 46 0 (.cons (.var 0) (.cons (.var 1) (.cons (.var 2) (.cons (.var 3) (.cons (.var 4) (.cons (.var 5) (.cons (.var 6) (.cons (.var 7) (.cons (.var 8) .nil)))))))))) (.ite (.ite (.ite (.le (.lit (-8192)) (.var 9)) (.le (.var 9) (.lit 8192)) (.blit false)) (.ite (.ite (.le (.lit (-8192)) (.var 10)) (.le (.var 10) (.lit 8192)) (.blit false)) (.ite (.le (.lit (-8192)) (.var 11)) (.le (.var 11) (.lit 8192)) (.blit false)) (.blit false)) (.blit false)) (.ite (.eq (.var 0) (.lit 1)) (.add (.var 10) (.mul (.lit 4) (.sub (.lit 0) (.app 40 1 (.cons (.var 4) (.cons (.var 5) (.cons (.var 6) .nil))))))) (.ite (.ite (.eq (.var 9) (.var 1)) (.ite (.eq (.var 10) (.var 2)) (.eq (.var 11) (.var 3)) (.blit false)) (.blit false)) (.lit 0) (.var 2))) (.lit 0)) (.lit 0))), (.int (.ite (.app 46 0 (.cons (.var 0) (.cons (.var 1) (.cons (.var 2) (.cons (.var 3) (.cons (.var 4) (.cons (.var 5) (.cons (.var 6) (.cons (.var 7) (.cons (.var 8) .nil)))))))))) (.ite (.ite (.ite (.le (.lit (-8192)) (.var 9)) (.le (.var 9) (.lit 8192)) (.blit false)) (.ite (.ite (.le (.lit (-8192)) (.var 10)) (.le (.var 10) (.lit 8192)) (.blit false)) (.ite (.le (.lit (-8192)) (.var 11)) (.le (.var 11) (.lit 8192)) (.blit false)) (.blit false)) (.blit false)) (.ite (.eq (.var 0) (.lit 1)) (.add (.var 11) (.mul (.lit 4) (.sub (.lit 0) (.app 40 2 (.cons (.var 4) (.cons (.var 5) (.cons (.var 6) .nil))))))) (.ite (.ite (.eq (.var 9) (.var 1)) (.ite (.eq (.var 10) (.var 2)) (.eq (.var 11) (.var 3)) (.blit false)) (.blit false)) (.lit 0) (.var 3))) (.lit 0)) (.lit 0)))]), (.int (.ite (.app 46 0 (.cons (.var 0) (.cons (.var 1) (.cons (.var 2) (.cons (.var 3) (.cons (.var 4) (.cons (.var 5) (.cons (.var 6) (.cons (.var 7) (.cons (.var 8) .nil)))))))))) (.ite (.ite (.ite (.le (.lit (-8192)) (.var 9)) (.le (.var 9) (.lit 8192)) (.blit false)) (.ite (.ite (.le (.lit (-8192)) (.var 10)) (.le (.var 10) (.lit 8192)) (.blit false)) (.ite (.le (.lit (-8192)) (.var 11)) (.le (.var 11) (.lit 8192)) (.blit false)) (.blit false)) (.blit false)) (.ite (.eq (.var 0) (.lit 1)) (.lit 0) (.ite (.ite (.eq (.var 9) (.var 1)) (.ite (.eq (.var 10) (.var 2)) (.eq (.var 11) (.var 3)) (.blit false)) (.blit false)) (.lit 3) (.lit 0))) (.lit 5)) (.lit 1)))])
theorem k_rtoward : acall ck1 20 false 27 [] (argsG [.g 9, .g 3] 0 0) (heapG [.g 9, .g 3] 0) = .leaf (R_rtoward, heapG [.g 9, .g 3] 0) := by kernel_rfl
set_option maxHeartbeats 4000000 in
set_option maxRecDepth 20000 in
theorem v_rtoward : ∀ l : List Int, l.length = lenSh [.g 9, .g 3] → AllI l → valOf (E.at l) R_rtoward = some (tupleV (resV E 44 l [.g 3, .g 3, .i] 0 0)) := by
  intro l hl hG
  have h0 : l.length = 12 := hl
  clear hl
  obtain ⟨a0, l1, rfl, h1⟩ := cut1 h0
  clear h0
  obtain ⟨a1, l2, rfl, h2⟩ := cut1 h1
  clear h1
  obtain ⟨a2, l3, rfl, h3⟩ := cut1 h2
  clear h2
  obtain ⟨a3, l4, rfl, h4⟩ := cut1 h3
  clear h3
  obtain ⟨a4, l5, rfl, h5⟩ := cut1 h4
  clear h4
  obtain ⟨a5, l6, rfl, h6⟩ := cut1 h5
  clear h5
  obtain ⟨a6, l7, rfl, h7⟩ := cut1 h6
  clear h6
  obtain ⟨a7, l8, rfl, h8⟩ := cut1 h7
  clear h7
  obtain ⟨a8, l9, rfl, h9⟩ := cut1 h8
  clear h8
  obtain ⟨a9, l10, rfl, h10⟩ := cut1 h9
  clear h9
  obtain ⟨a10, l11, rfl, h11⟩ := cut1 h10
  clear h10
  obtain ⟨a11, l12, rfl, h12⟩ := cut1 h11
  clear h11
  obtain rfl := cut0 h12
  clear h12
  simp only [R_rtoward, valOf, vals1, valInts, val1, tupleV, resV, valsI, den, bt1, bt2, bt3, bt4, Env.at, E, fb, fi, List.getD_cons_zero, List.getD_cons_succ, List.all_cons, List.all_nil, Bool.and_true, nr', us', ss', nr2, us2, ss2, nr3, us3, ss3, Bool.and_assoc, Option.map_some, List.all_append, cmps, Wh.fe, Env.b, Env.i, Tree.map, Tree.sel, maxI, minI, wv, wp, we, ldir, lway, z3, z3_way, home', List.take_succ_cons, List.take_zero, List.drop_succ_cons, List.drop_zero, List.cons_append, List.nil_append]
  cases hl : lr [a0, a1, a2, a3, a4, a5, a6, a7, a8]
  · simp
  have L := lr_iff.1 hl
  cases hh : (home a9 && (home a10 && home a11))
  · simp
  have hb := hh
  simp only [Bool.and_eq_true] at hb
  have h9 := home_bd hb.1; have h10 := home_bd hb.2.1; have h11 := home_bd hb.2.2
  have l1 := L.b1; have l2 := L.b2; have l3 := L.b3; have lk := L.k
  have w1 : IntKind.i64.wrap (a1 - a9) = a1 - a9 := wr (by omega)
  have w2 : IntKind.i64.wrap (a2 - a10) = a2 - a10 := wr (by omega)
  have w3 : IntKind.i64.wrap (a3 - a11) = a3 - a11 := wr (by omega)
  have e := ue_near (a := a1 - a9) (b := a2 - a10) (c := a3 - a11) (by omega) (by omega) (by omega)
  rw [z3_way] at e
  have nn := fun k => uv_none (a := a1 - a9) (b := a2 - a10) (c := a3 - a11) k
  have u0 := uv_bd a4 a5 a6 0 (by decide); have u1 := uv_bd a4 a5 a6 1 (by decide); have u2 := uv_bd a4 a5 a6 2 (by decide)
  have x0 : IntKind.i64.wrap (0 - uv 0 [a4, a5, a6]) = 0 - uv 0 [a4, a5, a6] := wr (by omega)
  have x1 : IntKind.i64.wrap (0 - uv 1 [a4, a5, a6]) = 0 - uv 1 [a4, a5, a6] := wr (by omega)
  have x2 : IntKind.i64.wrap (0 - uv 2 [a4, a5, a6]) = 0 - uv 2 [a4, a5, a6] := wr (by omega)
  have y0 : IntKind.i64.wrap (4 * (0 - uv 0 [a4, a5, a6])) = 4 * (0 - uv 0 [a4, a5, a6]) := wr (by omega)
  have y1 : IntKind.i64.wrap (4 * (0 - uv 1 [a4, a5, a6])) = 4 * (0 - uv 1 [a4, a5, a6]) := wr (by omega)
  have y2 : IntKind.i64.wrap (4 * (0 - uv 2 [a4, a5, a6])) = 4 * (0 - uv 2 [a4, a5, a6]) := wr (by omega)
  have v0 : IntKind.i64.wrap (a9 + 4 * (0 - uv 0 [a4, a5, a6])) = a9 + 4 * (0 - uv 0 [a4, a5, a6]) := wr (by omega)
  have v1 : IntKind.i64.wrap (a10 + 4 * (0 - uv 1 [a4, a5, a6])) = a10 + 4 * (0 - uv 1 [a4, a5, a6]) := wr (by omega)
  have v2 : IntKind.i64.wrap (a11 + 4 * (0 - uv 2 [a4, a5, a6])) = a11 + 4 * (0 - uv 2 [a4, a5, a6]) := wr (by omega)
  simp only [w1, w2, w3, x0, x1, x2, y0, y1, y2, v0, v1, v2]
  have k : a0 = 1 ∨ a0 = 2 ∨ a0 = 3 := by omega
  rcases k with rfl | rfl | rfl
  · have he := lt_dir L (by decide)
    simp only [he]
    rfl
  · cases hz : (a9 == a1 && (a10 == a2 && a11 == a3))
    · rw [hz] at e
      simp [e]
    · rw [hz] at e
      have n0 := nn 0 (by rw [e]; decide); have n1 := nn 1 (by rw [e]; decide); have n2 := nn 2 (by rw [e]; decide)
      simp [e, n0, n1, n2]
  · cases hz : (a9 == a1 && (a10 == a2 && a11 == a3))
    · rw [hz] at e
      simp [e]
    · rw [hz] at e
      have n0 := nn 0 (by rw [e]; decide); have n1 := nn 1 (by rw [e]; decide); have n2 := nn 2 (by rw [e]; decide)
      simp [e, n0, n1, n2]

theorem c_rtoward (W : World) : Flat Try.prog E W AllI 27 [.g 9, .g 3] fun l => tupleV (resV E 44 l [.g 3, .g 3, .i] 0 0) := flat_val (ck1_ok W) k_rtoward v_rtoward

noncomputable def cn1 : Cx := ⟨ck1.ty, ck1.fn, [flatCon 26 [.g 9, .g 3] [.g 3, .g 3, .i] 44 (rangesOk ok2), flatCon 27 [.g 9, .g 3] [.g 3, .g 3, .i] 44 (rangesOk ok2)] ++ ck1.con, ck1.inl, ck1.eqs⟩
theorem cn1_ok (W : World) : ∀ l, AllI l → CxOk Try.prog (E.at l) W cn1 :=
  cx_more (ck1_ok W) (List.forall_mem_cons.2 ⟨flat_conI ok2_I (c_toward W), List.forall_mem_cons.2 ⟨flat_conI ok2_I (c_rtoward W), (fun _ h => by cases h)⟩⟩)
end Go.Proofs.Ytdkeiopcdajkpaa.Sx
