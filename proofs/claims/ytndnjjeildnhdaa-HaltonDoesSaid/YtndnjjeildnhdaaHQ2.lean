/- Contracts, reckoned. -/
import Derived.Test.YtndnjjeildnhdaaHQe
import Derived.Test.YtndnjjeildnhdaaFw
import Derived.KernelRfl
set_option linter.unusedVariables false
set_option linter.unusedSimpArgs false
namespace Go.Proofs.Ytndnjjeildnhdaa.Sx
open Go.RowKit

theorem fr4 (n d : Int) : (decide (1 ≤ d) && (decide (d ≤ 1000000000000000000) && (decide (-1000000000000000000 ≤ n) && decide (n ≤ 1000000000000000000)))) = fr1 n d := rfl
theorem fr4t (n d : Int) (q : Bool) : (decide (1 ≤ d) && (decide (d ≤ 1000000000000000000) && (decide (-1000000000000000000 ≤ n) && (decide (n ≤ 1000000000000000000) && q)))) = (fr1 n d && q) := by
  unfold fr1; simp only [Bool.and_assoc]
theorem tri2 (x y : Int) : (x < y ∧ ¬ y < x ∧ ¬ x = y) ∨ (¬ x < y ∧ y < x ∧ ¬ x = y) ∨ (¬ x < y ∧ ¬ y < x ∧ x = y) := by omega

def R_fcmp : AV := (.int (.ite (.ite (.ite (.le (.lit 1) (.var 1)) (.ite (.le (.var 1) (.lit 1000000000000000000)) (.ite (.le (.lit (-1000000000000000000)) (.var 0)) (.le (.var 0) (.lit 1000000000000000000)) (.blit false)) (.blit false)) (.blit false)) (.ite (.le (.lit 1) (.var 3)) (.ite (.le (.var 3) (.lit 1000000000000000000)) (.ite (.le (.lit (-1000000000000000000)) (.var 2)) (.le (.var 2) (.lit 1000000000000000000)) (.blit false)) (.blit false)) (.blit false)) (.blit false)) (.ite (.ite (.eq (.app 50 0 (.cons (.var 0) (.cons (.var 3) .nil))) (.app 50 0 (.cons (.var 2) (.cons (.var 1) .nil)))) (.eq (.app 50 1 (.cons (.var 0) (.cons (.var 3) .nil))) (.app 50 1 (.cons (.var 2) (.cons (.var 1) .nil)))) (.blit false)) (.lit 0) (.ite (.ite (.lt (.app 50 0 (.cons (.var 0) (.cons (.var 3) .nil))) (.app 50 0 (.cons (.var 2) (.cons (.var 1) .nil)))) (.blit false) (.no (.lt (.app 50 0 (.cons (.var 2) (.cons (.var 1) .nil))) (.app 50 0 (.cons (.var 0) (.cons (.var 3) .nil)))))) (.ite (.ite (.lt (.app 50 1 (.cons (.var 0) (.cons (.var 3) .nil))) (.app 50 1 (.cons (.var 2) (.cons (.var 1) .nil)))) (.blit false) (.no (.lt (.app 50 1 (.cons (.var 2) (.cons (.var 1) .nil))) (.app 50 1 (.cons (.var 0) (.cons (.var 3) .nil)))))) (.lit 0) (.ite (.lt (.app 50 1 (.cons (.var 0) (.cons (.var 3) .nil))) (.app 50 1 (.cons (.var 2) (.cons (.var 1) .nil)))) (.lit (-1)) (.ite (.lt (.app 50 1 (.cons (.var 2) (.cons (.var 1) .nil))) (.app 50 1 (.cons (.var 0) (.cons (.var 3) .nil)))) (.lit 1) (.lit 0)))) (.ite (.lt (.app 50 0 (.cons (.var 0) (.cons (.var 3) .nil))) (.app 50 0 (.cons (.var 2) (.cons (.var 1) .nil)))) (.lit (-1)) (.ite (.lt (.app 50 0 (.cons (.var 2) (.cons (.var 1) .nil))) (.app 50 0 (.cons (.var 0) (.cons (.var 3) .nil)))) (.lit 1) (.lit 0))))) (.ite (.ite (.ite (.le (.lit 1) (.var 1)) (.ite (.le (.var 1) (.lit 1000000000000000000)) (.ite (.le (.lit (-1000000000000000000)) (.var 0)) (.le (.var 0) (.lit 1000000000000000000)) (.blit false)) (.blit false)) (.blit false)) (.ite (.le (.lit 1) (.var 3)) (.ite (.le (.var 3) (.lit 1000000000000000000)) (.ite (.le (.lit (-1000000000000000000)) (.var 2)) (.le (.var 2) (.lit 1000000000000000000)) (.blit false)) (.blit false)) (.blit false)) (.ite (.le (.lit 1) (.var 3)) (.ite (.le (.var 3) (.lit 1000000000000000000)) (.ite (.le (.lit (-1000000000000000000)) (.var 2)) (.le (.var 2) (.lit 1000000000000000000)) (.blit false)) (.blit false)) (.blit false))) (.lit (-1)) (.ite (.ite (.ite (.le (.lit 1) (.var 1)) (.ite (.le (.var 1) (.lit 1000000000000000000)) (.ite (.le (.lit (-1000000000000000000)) (.var 0)) (.le (.var 0) (.lit 1000000000000000000)) (.blit false)) (.blit false)) (.blit false)) (.ite (.le (.lit 1) (.var 1)) (.ite (.le (.var 1) (.lit 1000000000000000000)) (.ite (.le (.lit (-1000000000000000000)) (.var 0)) (.le (.var 0) (.lit 1000000000000000000)) (.blit false)) (.blit false)) (.blit false)) (.ite (.le (.lit 1) (.var 1)) (.ite (.le (.var 1) (.lit 1000000000000000000)) (.ite (.le (.lit (-1000000000000000000)) (.var 0)) (.le (.var 0) (.lit 1000000000000000000)) (.blit false)) (.blit false)) (.blit false))) (.lit 1) (.ite (.ite (.lt (.var 0) (.var 2)) (.blit false) (.no (.lt (.var 2) (.var 0)))) (.ite (.ite (.lt (.var 1) (.var 3)) (.blit false) (.no (.lt (.var 3) (.var 1)))) (.lit 0) (.ite (.lt (.var 1) (.var 3)) (.lit (-1)) (.ite (.lt (.var 3) (.var 1)) (.lit 1) (.lit 0)))) (.ite (.lt (.var 0) (.var 2)) (.lit (-1)) (.ite (.lt (.var 2) (.var 0)) (.lit 1) (.lit 0))))))))
theorem k_fcmp : acall ch5e 20 false 18 [] (argsG [.g 2, .g 2] 0 0) (heapG [.g 2, .g 2] 0) = .leaf (R_fcmp, heapG [.g 2, .g 2] 0) := by kernel_rfl
set_option maxHeartbeats 4000000 in
set_option maxRecDepth 20000 in
theorem v_fcmp : ∀ l : List Int, l.length = lenSh [.g 2, .g 2] → Any l → valOf (E.at l) R_fcmp = some (tupleV (resV E 51 l [.i] 0 0)) := by
  intro l hl hG
  have h0 : l.length = 4 := hl
  clear hl
  obtain ⟨a0, l1, rfl, h1⟩ := cut1 h0
  clear h0
  obtain ⟨a1, l2, rfl, h2⟩ := cut1 h1
  clear h1
  obtain ⟨a2, l3, rfl, h3⟩ := cut1 h2
  clear h2
  obtain ⟨a3, l4, rfl, h4⟩ := cut1 h3
  clear h3
  obtain rfl := cut0 h4
  clear h4
  simp only [R_fcmp, valOf, vals1, valInts, val1, tupleV, resV, valsI, den, bt1, bt2, bt3, bt4, Env.at, E, fb, fi, List.getD_cons_zero, List.getD_cons_succ, List.all_cons, List.all_nil, Bool.and_true, Bool.and_assoc, Option.map_some, List.all_append, Wh.fe, fcmp, fr4, fr4t]
  cases h : fr1 a0 a1 <;> cases k : fr1 a2 a3
  · rcases tri2 a0 a2 with ⟨p, q, r⟩ | ⟨p, q, r⟩ | ⟨p, q, r⟩ <;> rcases tri2 a1 a3 with ⟨p', q', r'⟩ | ⟨p', q', r'⟩ | ⟨p', q', r'⟩ <;> simp [p, q, r, p', q', r', sgc]
  · simp
  · simp
  · have p1 := fr1_ok h; have p2 := fr1_ok k
    have w1 : wok [a0, a3] = true := by simp [wok]; omega
    have w2 : wok [a2, a1] = true := by simp [wok]; omega
    simp only [w1, w2, if_true]
    generalize a0 * a3 = P
    generalize a2 * a1 = Q
    rcases tri2 (P / 1000000000000000000) (Q / 1000000000000000000) with ⟨p, q, r⟩ | ⟨p, q, r⟩ | ⟨p, q, r⟩
    · have : P < Q := by omega
      simp [p, q, r, sgc, this]
    · have : ¬ P < Q := by omega
      have : Q < P := by omega
      simp [p, q, r, sgc, *]
    · rcases tri2 (P % 1000000000000000000) (Q % 1000000000000000000) with ⟨p', q', r'⟩ | ⟨p', q', r'⟩ | ⟨p', q', r'⟩
      · have : P < Q := by omega
        simp [p, q, r, p', q', r', sgc, this]
      · have : ¬ P < Q := by omega
        have : Q < P := by omega
        simp [p, q, r, p', q', r', sgc, *]
      · have : P = Q := by omega
        subst this
        simp [sgc]

theorem c_fcmp (W : World) : Flat Try.prog E W Any 18 [.g 2, .g 2] fun l => tupleV (resV E 51 l [.i] 0 0) := flat_val (ch5e_ok W) k_fcmp v_fcmp

noncomputable def ch6 : Cx := ⟨ch5e.ty, ch5e.fn, [flatCon 18 [.g 2, .g 2] [.i] 51 noChk] ++ ch5e.con, ch5e.inl, ch5e.eqs⟩
theorem ch6_ok (W : World) : ∀ l, Any l → CxOk Try.prog (E.at l) W ch6 :=
  cx_more (ch5e_ok W) (List.forall_mem_cons.2 ⟨flat_con' (c_fcmp W), (fun _ h => by cases h)⟩)
end Go.Proofs.Ytndnjjeildnhdaa.Sx
