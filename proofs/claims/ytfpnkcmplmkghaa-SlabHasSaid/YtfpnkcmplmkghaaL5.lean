/- Contracts, reckoned. -/
import Derived.Test.YtfpnkcmplmkghaaL4
import Derived.KernelRfl
set_option linter.unusedVariables false
set_option linter.unusedSimpArgs false
namespace Go.Proofs.Ytfpnkcmplmkghaa.Sx
open Go.RowKit

theorem cr2_b {a b c d : Int} (ha : -32768 ≤ a ∧ a ≤ 32768) (hb : -32768 ≤ b ∧ b ≤ 32768) (hc : -32768 ≤ c ∧ c ≤ 32768) (hd : -32768 ≤ d ∧ d ≤ 32768) : -2147483648 ≤ cr2 a b c d ∧ cr2 a b c d ≤ 2147483648 := by
  have h1 := mul_bd (M := 32768) (N := 32768) 1073741824 (by decide) ha hd
  have h2 := mul_bd (M := 32768) (N := 32768) 1073741824 (by decide) hb hc
  unfold cr2; omega
theorem axis_012 (x y z : Int) : axis x y z = 0 ∨ axis x y z = 1 ∨ axis x y z = 2 := by
  unfold axis; (repeat' split) <;> simp

def R_volume : AV := (.tuple [(.int (.ite (.ite (.eq (.app 12 3 (.cons (.var 0) (.cons (.var 1) (.cons (.var 2) (.cons (.var 3) (.cons (.var 4) (.cons (.var 5) (.cons (.var 6) (.cons (.var 7) (.cons (.var 8) .nil)))))))))) (.lit 0)) (.no (.app 2 0 (.cons (.var 9) (.cons (.var 10) (.cons (.var 11) .nil))))) (.blit true)) (.lit 0) (.add (.add (.mul (.app 12 0 (.cons (.var 0) (.cons (.var 1) (.cons (.var 2) (.cons (.var 3) (.cons (.var 4) (.cons (.var 5) (.cons (.var 6) (.cons (.var 7) (.cons (.var 8) .nil)))))))))) (.app 4 0 (.cons (.var 9) (.cons (.var 10) (.cons (.var 11) (.cons (.var 0) (.cons (.var 1) (.cons (.var 2) .nil)))))))) (.mul (.app 12 1 (.cons (.var 0) (.cons (.var 1) (.cons (.var 2) (.cons (.var 3) (.cons (.var 4) (.cons (.var 5) (.cons (.var 6) (.cons (.var 7) (.cons (.var 8) .nil)))))))))) (.app 4 1 (.cons (.var 9) (.cons (.var 10) (.cons (.var 11) (.cons (.var 0) (.cons (.var 1) (.cons (.var 2) .nil))))))))) (.mul (.app 12 2 (.cons (.var 0) (.cons (.var 1) (.cons (.var 2) (.cons (.var 3) (.cons (.var 4) (.cons (.var 5) (.cons (.var 6) (.cons (.var 7) (.cons (.var 8) .nil)))))))))) (.app 4 2 (.cons (.var 9) (.cons (.var 10) (.cons (.var 11) (.cons (.var 0) (.cons (.var 1) (.cons (.var 2) .nil))))))))))), (.int (.ite (.ite (.eq (.app 12 3 (.cons (.var 0) (.cons (.var 1) (.cons (.var 2) (.cons (.var 3) (.cons (.var 4) (.cons (.var 5) (.cons (.var 6) (.cons (.var 7) (.cons (.var 8) .nil)))))))))) (.lit 0)) (.no (.app 2 0 (.cons (.var 9) (.cons (.var 10) (.cons (.var 11) .nil))))) (.blit true)) (.lit 5) (.lit 0)))])
theorem k_volume : acall cx4 20 false 75 [] (argsG [.g 3, .g 3, .g 3, .g 3] 0 0) (heapG [.g 3, .g 3, .g 3, .g 3] 0) = .leaf (R_volume, heapG [.g 3, .g 3, .g 3, .g 3] 0) := by kernel_rfl
set_option maxHeartbeats 4000000 in
set_option maxRecDepth 20000 in
theorem v_volume : ∀ l : List Int, l.length = lenSh [.g 3, .g 3, .g 3, .g 3] → Any l → valOf (E.at l) R_volume = some (tupleV (resV E 13 l [.i, .i] 0 0)) := by
  intro l hl hG
  have h0 : l.length = 12 := hl
  clear hl
  obtain ⟨a0, l1, rfl, h1⟩ := cut1 h0
  clear h0
  obtain ⟨a1, l2, rfl, h2⟩ := cut1 h1
  clear h1
  obtain ⟨a2, l3, rfl, h3⟩ := cut1 h2
  clear h2
  obtain ⟨a3, l4, rfl, h4⟩ := cut1 h3
  clear h3
  obtain ⟨a4, l5, rfl, h5⟩ := cut1 h4
  clear h4
  obtain ⟨a5, l6, rfl, h6⟩ := cut1 h5
  clear h5
  obtain ⟨a6, l7, rfl, h7⟩ := cut1 h6
  clear h6
  obtain ⟨a7, l8, rfl, h8⟩ := cut1 h7
  clear h7
  obtain ⟨a8, l9, rfl, h9⟩ := cut1 h8
  clear h8
  obtain ⟨a9, l10, rfl, h10⟩ := cut1 h9
  clear h9
  obtain ⟨a10, l11, rfl, h11⟩ := cut1 h10
  clear h10
  obtain ⟨a11, l12, rfl, h12⟩ := cut1 h11
  clear h11
  obtain rfl := cut0 h12
  clear h12
  simp only [R_volume, valOf, vals1, valInts, val1, tupleV, resV, valsI, den, bt1, bt2, bt3, bt4, Env.at, E, fb, fi, List.getD_cons_zero, List.getD_cons_succ, List.all_cons, List.all_nil, Bool.and_true, nr', us', ss', nr2, us2, ss2, nr3, us3, ss3, nx, ny, nz, volV, Bool.and_assoc, Option.map_some, List.all_append, cmps]
  cases h0 : ss a0
  · simp
  cases h1 : ss a1
  · simp
  cases h2 : ss a2
  · simp
  cases h3 : ss a3
  · simp
  cases h4 : ss a4
  · simp
  cases h5 : ss a5
  · simp
  cases h6 : ss a6
  · simp
  cases h7 : ss a7
  · simp
  cases h8 : ss a8
  · simp
  cases h9 : ss a9
  · simp
  cases h10 : ss a10
  · simp
  cases h11 : ss a11
  · simp
  have c0 := ss_b h0
  have c1 := ss_b h1
  have c2 := ss_b h2
  have c3 := ss_b h3
  have c4 := ss_b h4
  have c5 := ss_b h5
  have c6 := ss_b h6
  have c7 := ss_b h7
  have c8 := ss_b h8
  have c9 := ss_b h9
  have c10 := ss_b h10
  have c11 := ss_b h11
  have n0 : nr a0 = true := nr_i (by omega)
  have n1 : nr a1 = true := nr_i (by omega)
  have n2 : nr a2 = true := nr_i (by omega)
  have n9 : nr a9 = true := nr_i (by omega)
  have n10 : nr a10 = true := nr_i (by omega)
  have n11 : nr a11 = true := nr_i (by omega)
  have q0 := cr2_b (a := a4 - a1) (b := a5 - a2) (c := a7 - a1) (d := a8 - a2) (by omega) (by omega) (by omega) (by omega)
  have q1 := cr2_b (a := a5 - a2) (b := a3 - a0) (c := a8 - a2) (d := a6 - a0) (by omega) (by omega) (by omega) (by omega)
  have q2 := cr2_b (a := a3 - a0) (b := a4 - a1) (c := a6 - a0) (d := a7 - a1) (by omega) (by omega) (by omega) (by omega)
  have p0 := mul_bd (M := 2147483648) (N := 32768) 70368744177664 (by decide) q0 (show -32768 ≤ a9 - a0 ∧ a9 - a0 ≤ 32768 by omega)
  have p1 := mul_bd (M := 2147483648) (N := 32768) 70368744177664 (by decide) q1 (show -32768 ≤ a10 - a1 ∧ a10 - a1 ≤ 32768 by omega)
  have p2 := mul_bd (M := 2147483648) (N := 32768) 70368744177664 (by decide) q2 (show -32768 ≤ a11 - a2 ∧ a11 - a2 ≤ 32768 by omega)
  simp (disch := omega) [n0, n1, n2, n9, n10, n11, wr]

theorem c_volume (W : World) : Flat Try.prog E W Any 75 [.g 3, .g 3, .g 3, .g 3] fun l => tupleV (resV E 13 l [.i, .i] 0 0) := flat_val (cx4_ok W) k_volume v_volume

def R_rvolume : AV := (.tuple [(.int (.ite (.ite (.eq (.app 12 3 (.cons (.var 0) (.cons (.var 1) (.cons (.var 2) (.cons (.var 3) (.cons (.var 4) (.cons (.var 5) (.cons (.var 6) (.cons (.var 7) (.cons (.var 8) .nil)))))))))) (.lit 0)) (.no (.app 2 0 (.cons (.var 9) (.cons (.var 10) (.cons (.var 11) .nil))))) (.blit true)) (.lit 0) (.add (.add (.mul (.app 12 0 (.cons (.var 0) (.cons (.var 1) (.cons (.var 2) (.cons (.var 3) (.cons (.var 4) (.cons (.var 5) (.cons (.var 6) (.cons (.var 7) (.cons (.var 8) .nil)))))))))) (.sub (.var 9) (.var 0))) (.mul (.app 12 1 (.cons (.var 0) (.cons (.var 1) (.cons (.var 2) (.cons (.var 3) (.cons (.var 4) (.cons (.var 5) (.cons (.var 6) (.cons (.var 7) (.cons (.var 8) .nil)))))))))) (.sub (.var 10) (.var 1)))) (.mul (.app 12 2 (.cons (.var 0) (.cons (.var 1) (.cons (.var 2) (.cons (.var 3) (.cons (.var 4) (.cons (.var 5) (.cons (.var 6) (.cons (.var 7) (.cons (.var 8) .nil)))))))))) (.sub (.var 11) (.var 2)))))), (.int (.ite (.ite (.eq (.app 12 3 (.cons (.var 0) (.cons (.var 1) (.cons (.var 2) (.cons (.var 3) (.cons (.var 4) (.cons (.var 5) (.cons (.var 6) (.cons (.var 7) (.cons (.var 8) .nil)))))))))) (.lit 0)) (.no (.app 2 0 (.cons (.var 9) (.cons (.var 10) (.cons (.var 11) .nil))))) (.blit true)) (.lit 5) (.lit 0)))])
theorem k_rvolume : acall cx4 20 false 80 [] (argsG [.g 3, .g 3, .g 3, .g 3] 0 0) (heapG [.g 3, .g 3, .g 3, .g 3] 0) = .leaf (R_rvolume, heapG [.g 3, .g 3, .g 3, .g 3] 0) := by kernel_rfl
set_option maxHeartbeats 4000000 in
set_option maxRecDepth 20000 in
theorem v_rvolume : ∀ l : List Int, l.length = lenSh [.g 3, .g 3, .g 3, .g 3] → Any l → valOf (E.at l) R_rvolume = some (tupleV (resV E 13 l [.i, .i] 0 0)) := by
  intro l hl hG
  have h0 : l.length = 12 := hl
  clear hl
  obtain ⟨a0, l1, rfl, h1⟩ := cut1 h0
  clear h0
  obtain ⟨a1, l2, rfl, h2⟩ := cut1 h1
  clear h1
  obtain ⟨a2, l3, rfl, h3⟩ := cut1 h2
  clear h2
  obtain ⟨a3, l4, rfl, h4⟩ := cut1 h3
  clear h3
  obtain ⟨a4, l5, rfl, h5⟩ := cut1 h4
  clear h4
  obtain ⟨a5, l6, rfl, h6⟩ := cut1 h5
  clear h5
  obtain ⟨a6, l7, rfl, h7⟩ := cut1 h6
  clear h6
  obtain ⟨a7, l8, rfl, h8⟩ := cut1 h7
  clear h7
  obtain ⟨a8, l9, rfl, h9⟩ := cut1 h8
  clear h8
  obtain ⟨a9, l10, rfl, h10⟩ := cut1 h9
  clear h9
  obtain ⟨a10, l11, rfl, h11⟩ := cut1 h10
  clear h10
  obtain ⟨a11, l12, rfl, h12⟩ := cut1 h11
  clear h11
  obtain rfl := cut0 h12
  clear h12
  simp only [R_rvolume, valOf, vals1, valInts, val1, tupleV, resV, valsI, den, bt1, bt2, bt3, bt4, Env.at, E, fb, fi, List.getD_cons_zero, List.getD_cons_succ, List.all_cons, List.all_nil, Bool.and_true, nr', us', ss', nr2, us2, ss2, nr3, us3, ss3, nx, ny, nz, volV, Bool.and_assoc, Option.map_some, List.all_append, cmps]
  cases h0 : ss a0
  · simp
  cases h1 : ss a1
  · simp
  cases h2 : ss a2
  · simp
  cases h3 : ss a3
  · simp
  cases h4 : ss a4
  · simp
  cases h5 : ss a5
  · simp
  cases h6 : ss a6
  · simp
  cases h7 : ss a7
  · simp
  cases h8 : ss a8
  · simp
  cases h9 : ss a9
  · simp
  cases h10 : ss a10
  · simp
  cases h11 : ss a11
  · simp
  have c0 := ss_b h0
  have c1 := ss_b h1
  have c2 := ss_b h2
  have c3 := ss_b h3
  have c4 := ss_b h4
  have c5 := ss_b h5
  have c6 := ss_b h6
  have c7 := ss_b h7
  have c8 := ss_b h8
  have c9 := ss_b h9
  have c10 := ss_b h10
  have c11 := ss_b h11
  have n0 : nr a0 = true := nr_i (by omega)
  have n1 : nr a1 = true := nr_i (by omega)
  have n2 : nr a2 = true := nr_i (by omega)
  have n9 : nr a9 = true := nr_i (by omega)
  have n10 : nr a10 = true := nr_i (by omega)
  have n11 : nr a11 = true := nr_i (by omega)
  have q0 := cr2_b (a := a4 - a1) (b := a5 - a2) (c := a7 - a1) (d := a8 - a2) (by omega) (by omega) (by omega) (by omega)
  have q1 := cr2_b (a := a5 - a2) (b := a3 - a0) (c := a8 - a2) (d := a6 - a0) (by omega) (by omega) (by omega) (by omega)
  have q2 := cr2_b (a := a3 - a0) (b := a4 - a1) (c := a6 - a0) (d := a7 - a1) (by omega) (by omega) (by omega) (by omega)
  have p0 := mul_bd (M := 2147483648) (N := 32768) 70368744177664 (by decide) q0 (show -32768 ≤ a9 - a0 ∧ a9 - a0 ≤ 32768 by omega)
  have p1 := mul_bd (M := 2147483648) (N := 32768) 70368744177664 (by decide) q1 (show -32768 ≤ a10 - a1 ∧ a10 - a1 ≤ 32768 by omega)
  have p2 := mul_bd (M := 2147483648) (N := 32768) 70368744177664 (by decide) q2 (show -32768 ≤ a11 - a2 ∧ a11 - a2 ≤ 32768 by omega)
  simp (disch := omega) [n0, n1, n2, n9, n10, n11, wr]

theorem c_rvolume (W : World) : Flat Try.prog E W Any 80 [.g 3, .g 3, .g 3, .g 3] fun l => tupleV (resV E 13 l [.i, .i] 0 0) := flat_val (cx4_ok W) k_rvolume v_rvolume

noncomputable def cx5 : Cx := ⟨cx4.ty, cx4.fn, [flatCon 75 [.g 3, .g 3, .g 3, .g 3] [.i, .i] 13 noChk, flatCon 80 [.g 3, .g 3, .g 3, .g 3] [.i, .i] 13 noChk] ++ cx4.con, cx4.inl, cx4.eqs⟩
theorem cx5_ok (W : World) : ∀ l, Any l → CxOk Try.prog (E.at l) W cx5 :=
  cx_more (cx4_ok W) (List.forall_mem_cons.2 ⟨flat_con' (c_volume W), List.forall_mem_cons.2 ⟨flat_con' (c_rvolume W), (fun _ h => by cases h)⟩⟩)
end Go.Proofs.Ytfpnkcmplmkghaa.Sx
