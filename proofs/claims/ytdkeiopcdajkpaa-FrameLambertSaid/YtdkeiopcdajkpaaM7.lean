/- Contracts, reckoned. -/
import Derived.Test.YtdkeiopcdajkpaaM5
import Derived.Test.YtdkeiopcdajkpaaFp
import Derived.Test.YtdkeiopcdajkpaaFs
import Derived.KernelRfl
set_option linter.unusedVariables false
set_option linter.unusedSimpArgs false
namespace Go.Proofs.Ytdkeiopcdajkpaa.Sx
open Go.RowKit

/-- Lambert's number of a dot product. -/
def lm (m : Int) : Int := min ((max m 0).tdiv 1024) 1024
theorem lm_ok (m : Int) : 0 ≤ lm m ∧ lm m ≤ 1024 ∧ (m < 1024 → lm m = 0) ∧ (1024 ≤ m → 0 < lm m) := by
  unfold lm; rw [Int.tdiv_eq_ediv_of_nonneg (by omega)]; omega
theorem lam_of {a b c d e f : Int} (h0 : lf a = true) (h1 : lf b = true) (h2 : lf c = true) (h3 : lf d = true) (h4 : lf e = true) (h5 : lf f = true) : lam [a, b, c, d, e, f] = lm (a * d + b * e + c * f) := by
  simp [lam, h0, h1, h2, h3, h4, h5, lm]
theorem lf_neg {x : Int} (h : lf x = true) : IntKind.i64.wrap (0 - x) = -x ∧ lf (-x) = true := by
  have := lf_bd h
  exact ⟨by rw [wr (by omega)]; omega, by simp [lf]; omega⟩
theorem lf_swap (a b c d e f : Int) : (lf d && (lf e && (lf f && (lf a && (lf b && lf c))))) = (lf a && (lf b && (lf c && (lf d && (lf e && lf f))))) := by ac_rfl

def R_FrameLambert : AV := (.bool (.ite (.eq (.app 43 1 (.cons (.var 0) (.cons (.var 1) (.cons (.var 2) (.cons (.var 3) (.cons (.var 4) (.cons (.var 5) .nil))))))) (.lit 0)) (.ite (.app 20 0 .nil) (.ite (.eq (.app 43 1 (.cons (.var 3) (.cons (.var 4) (.cons (.var 5) (.cons (.var 0) (.cons (.var 1) (.cons (.var 2) .nil))))))) (.lit 0)) (.ite (.eq (.app 43 1 (.cons (.var 0) (.cons (.var 1) (.cons (.var 2) (.cons (.sub (.lit 0) (.var 3)) (.cons (.sub (.lit 0) (.var 4)) (.cons (.sub (.lit 0) (.var 5)) .nil))))))) (.lit 0)) (.ite (.eq (.app 43 0 (.cons (.var 0) (.cons (.var 1) (.cons (.var 2) (.cons (.var 3) (.cons (.var 4) (.cons (.var 5) .nil))))))) (.app 43 0 (.cons (.var 3) (.cons (.var 4) (.cons (.var 5) (.cons (.var 0) (.cons (.var 1) (.cons (.var 2) .nil)))))))) (.ite (.le (.lit 0) (.app 43 0 (.cons (.var 0) (.cons (.var 1) (.cons (.var 2) (.cons (.var 3) (.cons (.var 4) (.cons (.var 5) .nil)))))))) (.ite (.le (.app 43 0 (.cons (.var 0) (.cons (.var 1) (.cons (.var 2) (.cons (.var 3) (.cons (.var 4) (.cons (.var 5) .nil))))))) (.lit 1024)) (.ite (.eq (.app 43 0 (.cons (.var 0) (.cons (.var 1) (.cons (.var 2) (.cons (.var 3) (.cons (.var 4) (.cons (.var 5) .nil))))))) (.lit 0)) (.ite (.le (.lit 0) (.add (.add (.mul (.var 0) (.var 3)) (.mul (.var 1) (.var 4))) (.mul (.var 2) (.var 5)))) (.ite (.lt (.add (.add (.mul (.var 0) (.var 3)) (.mul (.var 1) (.var 4))) (.mul (.var 2) (.var 5))) (.lit 1024)) (.blit true) (.lt (.lit 0) (.app 43 0 (.cons (.var 0) (.cons (.var 1) (.cons (.var 2) (.cons (.var 3) (.cons (.var 4) (.cons (.var 5) .nil))))))))) (.ite (.lt (.add (.add (.mul (.var 0) (.var 3)) (.mul (.var 1) (.var 4))) (.mul (.var 2) (.var 5))) (.lit 1024)) (.blit true) (.lt (.lit 0) (.app 43 0 (.cons (.var 0) (.cons (.var 1) (.cons (.var 2) (.cons (.var 3) (.cons (.var 4) (.cons (.var 5) .nil)))))))))) (.ite (.eq (.app 43 0 (.cons (.var 0) (.cons (.var 1) (.cons (.var 2) (.cons (.sub (.lit 0) (.var 3)) (.cons (.sub (.lit 0) (.var 4)) (.cons (.sub (.lit 0) (.var 5)) .nil))))))) (.lit 0)) (.ite (.le (.lit 0) (.add (.add (.mul (.var 0) (.var 3)) (.mul (.var 1) (.var 4))) (.mul (.var 2) (.var 5)))) (.ite (.lt (.add (.add (.mul (.var 0) (.var 3)) (.mul (.var 1) (.var 4))) (.mul (.var 2) (.var 5))) (.lit 1024)) (.blit true) (.lt (.lit 0) (.app 43 0 (.cons (.var 0) (.cons (.var 1) (.cons (.var 2) (.cons (.var 3) (.cons (.var 4) (.cons (.var 5) .nil))))))))) (.blit false)) (.blit false))) (.blit false)) (.blit false)) (.blit false)) (.blit false)) (.blit false)) (.blit false)) (.ite (.app 20 0 .nil) (.ite (.eq (.app 43 1 (.cons (.var 3) (.cons (.var 4) (.cons (.var 5) (.cons (.var 0) (.cons (.var 1) (.cons (.var 2) .nil))))))) (.app 43 1 (.cons (.var 0) (.cons (.var 1) (.cons (.var 2) (.cons (.var 3) (.cons (.var 4) (.cons (.var 5) .nil)))))))) (.eq (.app 43 0 (.cons (.var 0) (.cons (.var 1) (.cons (.var 2) (.cons (.var 3) (.cons (.var 4) (.cons (.var 5) .nil))))))) (.lit 0)) (.blit false)) (.blit false))))
theorem k_FrameLambert : acall cm5 20 false 7 [] (argsG [.g 3, .g 3] 0 0) (heapG [.g 3, .g 3] 0) = .leaf (R_FrameLambert, heapG [.g 3, .g 3] 0) := by kernel_rfl
set_option maxHeartbeats 4000000 in
set_option maxRecDepth 20000 in
theorem v_FrameLambert : ∀ l : List Int, l.length = lenSh [.g 3, .g 3] → AllI l → valOf (E.at l) R_FrameLambert = some (tupleV (resV E 20 l [.b] 0 0)) := by
  intro l hl hG
  have h0 : l.length = 6 := hl
  clear hl
  obtain ⟨a0, l1, rfl, h1⟩ := cut1 h0
  clear h0
  obtain ⟨a1, l2, rfl, h2⟩ := cut1 h1
  clear h1
  obtain ⟨a2, l3, rfl, h3⟩ := cut1 h2
  clear h2
  obtain ⟨a3, l4, rfl, h4⟩ := cut1 h3
  clear h3
  obtain ⟨a4, l5, rfl, h5⟩ := cut1 h4
  clear h4
  obtain ⟨a5, l6, rfl, h6⟩ := cut1 h5
  clear h5
  obtain rfl := cut0 h6
  clear h6
  simp only [R_FrameLambert, valOf, vals1, valInts, val1, tupleV, resV, valsI, den, bt1, bt2, bt3, bt4, Env.at, E, fb, fi, List.getD_cons_zero, List.getD_cons_succ, List.all_cons, List.all_nil, Bool.and_true, nr', us', ss', nr2, us2, ss2, nr3, us3, ss3, Bool.and_assoc, Option.map_some, List.all_append, cmps, Wh.fe, lf_swap]
  cases hc : (lf a0 && (lf a1 && (lf a2 && (lf a3 && (lf a4 && lf a5)))))
  · have e1 : lam [a0, a1, a2, a3, a4, a5] = 0 := by simp [lam, hc]
    simp [e1]
  simp only [Bool.and_eq_true] at hc
  obtain ⟨h0, h1, h2, h3, h4, h5⟩ := hc
  have m0 := lf_m h0 h3; have m1 := lf_m h1 h4; have m2 := lf_m h2 h5
  have n3 := lf_neg h3; have n4 := lf_neg h4; have n5 := lf_neg h5
  have e1 := lam_of h0 h1 h2 h3 h4 h5
  have e2 := lam_of h3 h4 h5 h0 h1 h2
  have e3 := lam_of h0 h1 h2 n3.2 n4.2 n5.2
  have q : a3 * a0 + a4 * a1 + a5 * a2 = a0 * a3 + a1 * a4 + a2 * a5 := by grind
  have r : a0 * -a3 + a1 * -a4 + a2 * -a5 = -(a0 * a3 + a1 * a4 + a2 * a5) := by grind
  rw [q] at e2
  rw [r] at e3
  have w0 : IntKind.i64.wrap (a0 * a3) = a0 * a3 := wr (by omega)
  have w1 : IntKind.i64.wrap (a1 * a4) = a1 * a4 := wr (by omega)
  have w2 : IntKind.i64.wrap (a2 * a5) = a2 * a5 := wr (by omega)
  have w3 : IntKind.i64.wrap (a0 * a3 + a1 * a4) = a0 * a3 + a1 * a4 := wr (by omega)
  have w4 : IntKind.i64.wrap (a0 * a3 + a1 * a4 + a2 * a5) = a0 * a3 + a1 * a4 + a2 * a5 := wr (by omega)
  simp only [n3.1, n4.1, n5.1, n3.2, n4.2, n5.2, h0, h1, h2, e1, e2, e3, w0, w1, w2, w3, w4, Bool.and_self]
  generalize a0 * a3 + a1 * a4 + a2 * a5 = m at *
  have k1 := lm_ok m; have k2 := lm_ok (-m)
  generalize lm m = x at *
  generalize lm (-m) = y at *
  by_cases hm : m < 1024
  · have := k1.2.2.1 hm
    subst this
    simp [hm]
  · have p1 := k1.2.2.2 (by omega)
    have p2 := k2.2.2.1 (by omega)
    subst p2
    have z : (x == 0) = false := by simp; omega
    simp [z, k1.1, k1.2.1, p1, show 0 ≤ m by omega]

theorem c_FrameLambert (W : World) : Flat Try.prog E W AllI 7 [.g 3, .g 3] fun l => tupleV (resV E 20 l [.b] 0 0) := flat_val (cm5_ok W) k_FrameLambert v_FrameLambert

end Go.Proofs.Ytdkeiopcdajkpaa.Sx
