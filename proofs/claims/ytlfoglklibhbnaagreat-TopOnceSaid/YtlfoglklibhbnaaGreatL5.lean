/- Contracts, reckoned. -/
import Derived.Test.YtlfoglklibhbnaaGreatL4
import Derived.KernelRfl
set_option linter.unusedVariables false
set_option linter.unusedSimpArgs false
namespace Go.Proofs.YtlfoglklibhbnaaGreat.Sx
open Go.RowKit

theorem cr2_b {a b c d : Int} (ha : -32768 ≤ a ∧ a ≤ 32768) (hb : -32768 ≤ b ∧ b ≤ 32768) (hc : -32768 ≤ c ∧ c ≤ 32768) (hd : -32768 ≤ d ∧ d ≤ 32768) : -2147483648 ≤ cr2 a b c d ∧ cr2 a b c d ≤ 2147483648 := by
  have h1 := mul_bd (M := 32768) (N := 32768) 1073741824 (by decide) ha hd
  have h2 := mul_bd (M := 32768) (N := 32768) 1073741824 (by decide) hb hc
  unfold cr2; omega
theorem axis_012 (x y z : Int) : axis x y z = 0 ∨ axis x y z = 1 ∨ axis x y z = 2 := by
  unfold axis; (repeat' split) <;> simp

def R_facing : Tree (AV × Hp) := (.node (.ite (.eq (.app 12 3 (.cons (.var 0) (.cons (.var 1) (.cons (.var 2) (.cons (.var 3) (.cons (.var 4) (.cons (.var 5) (.cons (.var 6) (.cons (.var 7) (.cons (.var 8) .nil)))))))))) (.lit 0)) (.ite (.ite (.eq (.app 12 0 (.cons (.var 0) (.cons (.var 1) (.cons (.var 2) (.cons (.var 3) (.cons (.var 4) (.cons (.var 5) (.cons (.var 6) (.cons (.var 7) (.cons (.var 8) .nil)))))))))) (.lit 0)) (.ite (.eq (.app 12 1 (.cons (.var 0) (.cons (.var 1) (.cons (.var 2) (.cons (.var 3) (.cons (.var 4) (.cons (.var 5) (.cons (.var 6) (.cons (.var 7) (.cons (.var 8) .nil)))))))))) (.lit 0)) (.eq (.app 12 2 (.cons (.var 0) (.cons (.var 1) (.cons (.var 2) (.cons (.var 3) (.cons (.var 4) (.cons (.var 5) (.cons (.var 6) (.cons (.var 7) (.cons (.var 8) .nil)))))))))) (.lit 0)) (.blit false)) (.blit false)) (.blit true) (.ite (.eq (.app 8 0 (.cons (.app 12 0 (.cons (.var 0) (.cons (.var 1) (.cons (.var 2) (.cons (.var 3) (.cons (.var 4) (.cons (.var 5) (.cons (.var 6) (.cons (.var 7) (.cons (.var 8) .nil)))))))))) (.cons (.app 12 1 (.cons (.var 0) (.cons (.var 1) (.cons (.var 2) (.cons (.var 3) (.cons (.var 4) (.cons (.var 5) (.cons (.var 6) (.cons (.var 7) (.cons (.var 8) .nil)))))))))) (.cons (.app 12 2 (.cons (.var 0) (.cons (.var 1) (.cons (.var 2) (.cons (.var 3) (.cons (.var 4) (.cons (.var 5) (.cons (.var 6) (.cons (.var 7) (.cons (.var 8) .nil)))))))))) .nil)))) (.lit 0)) (.blit true) (.ite (.eq (.app 8 0 (.cons (.app 12 0 (.cons (.var 0) (.cons (.var 1) (.cons (.var 2) (.cons (.var 3) (.cons (.var 4) (.cons (.var 5) (.cons (.var 6) (.cons (.var 7) (.cons (.var 8) .nil)))))))))) (.cons (.app 12 1 (.cons (.var 0) (.cons (.var 1) (.cons (.var 2) (.cons (.var 3) (.cons (.var 4) (.cons (.var 5) (.cons (.var 6) (.cons (.var 7) (.cons (.var 8) .nil)))))))))) (.cons (.app 12 2 (.cons (.var 0) (.cons (.var 1) (.cons (.var 2) (.cons (.var 3) (.cons (.var 4) (.cons (.var 5) (.cons (.var 6) (.cons (.var 7) (.cons (.var 8) .nil)))))))))) .nil)))) (.lit 1)) (.blit true) (.eq (.app 8 0 (.cons (.app 12 0 (.cons (.var 0) (.cons (.var 1) (.cons (.var 2) (.cons (.var 3) (.cons (.var 4) (.cons (.var 5) (.cons (.var 6) (.cons (.var 7) (.cons (.var 8) .nil)))))))))) (.cons (.app 12 1 (.cons (.var 0) (.cons (.var 1) (.cons (.var 2) (.cons (.var 3) (.cons (.var 4) (.cons (.var 5) (.cons (.var 6) (.cons (.var 7) (.cons (.var 8) .nil)))))))))) (.cons (.app 12 2 (.cons (.var 0) (.cons (.var 1) (.cons (.var 2) (.cons (.var 3) (.cons (.var 4) (.cons (.var 5) (.cons (.var 6) (.cons (.var 7) (.cons (.var 8) .nil)))))))))) .nil)))) (.lit 2))))) (.blit true)) (.leaf ((.tuple [(.int (.ite (.eq (.app 12 3 (.cons (.var 0) (.cons (.var 1) (.cons (.var 2) (.cons (.var 3) (.cons (.var 4) (.cons (.var 5) (.cons (.var 6) (.cons (.var 7) (.cons (.var 8) .nil)))))))))) (.lit 0)) (.ite (.ite (.eq (.app 12 0 (.cons (.var 0) (.cons (.var 1) (.cons (.var 2) (.cons (.var 3) (.cons (.var 4) (.cons (.var 5) (.cons (.var 6) (.cons (.var 7) (.cons (.var 8) .nil)))))))))) (.lit 0)) (.ite (.eq (.app 12 1 (.cons (.var 0) (.cons (.var 1) (.cons (.var 2) (.cons (.var 3) (.cons (.var 4) (.cons (.var 5) (.cons (.var 6) (.cons (.var 7) (.cons (.var 8) .nil)))))))))) (.lit 0)) (.eq (.app 12 2 (.cons (.var 0) (.cons (.var 1) (.cons (.var 2) (.cons (.var 3) (.cons (.var 4) (.cons (.var 5) (.cons (.var 6) (.cons (.var 7) (.cons (.var 8) .nil)))))))))) (.lit 0)) (.blit false)) (.blit false)) (.lit 0) (.app 8 0 (.cons (.app 12 0 (.cons (.var 0) (.cons (.var 1) (.cons (.var 2) (.cons (.var 3) (.cons (.var 4) (.cons (.var 5) (.cons (.var 6) (.cons (.var 7) (.cons (.var 8) .nil)))))))))) (.cons (.app 12 1 (.cons (.var 0) (.cons (.var 1) (.cons (.var 2) (.cons (.var 3) (.cons (.var 4) (.cons (.var 5) (.cons (.var 6) (.cons (.var 7) (.cons (.var 8) .nil)))))))))) (.cons (.app 12 2 (.cons (.var 0) (.cons (.var 1) (.cons (.var 2) (.cons (.var 3) (.cons (.var 4) (.cons (.var 5) (.cons (.var 6) (.cons (.var 7) (.cons (.var 8) .nil)))))))))) .nil))))) (.lit 0))), (.int (.ite (.eq (.app 12 3 (.cons (.var 0) (.cons (.var 1) (.cons (.var 2) (.cons (.var 3) (.cons (.var 4) (.cons (.var 5) (.cons (.var 6) (.cons (.var 7) (.cons (.var 8) .nil)))))))))) (.lit 0)) (.ite (.ite (.eq (.app 12 0 (.cons (.var 0) (.cons (.var 1) (.cons (.var 2) (.cons (.var 3) (.cons (.var 4) (.cons (.var 5) (.cons (.var 6) (.cons (.var 7) (.cons (.var 8) .nil)))))))))) (.lit 0)) (.ite (.eq (.app 12 1 (.cons (.var 0) (.cons (.var 1) (.cons (.var 2) (.cons (.var 3) (.cons (.var 4) (.cons (.var 5) (.cons (.var 6) (.cons (.var 7) (.cons (.var 8) .nil)))))))))) (.lit 0)) (.eq (.app 12 2 (.cons (.var 0) (.cons (.var 1) (.cons (.var 2) (.cons (.var 3) (.cons (.var 4) (.cons (.var 5) (.cons (.var 6) (.cons (.var 7) (.cons (.var 8) .nil)))))))))) (.lit 0)) (.blit false)) (.blit false)) (.lit 0) (.ite (.eq (.app 8 0 (.cons (.app 12 0 (.cons (.var 0) (.cons (.var 1) (.cons (.var 2) (.cons (.var 3) (.cons (.var 4) (.cons (.var 5) (.cons (.var 6) (.cons (.var 7) (.cons (.var 8) .nil)))))))))) (.cons (.app 12 1 (.cons (.var 0) (.cons (.var 1) (.cons (.var 2) (.cons (.var 3) (.cons (.var 4) (.cons (.var 5) (.cons (.var 6) (.cons (.var 7) (.cons (.var 8) .nil)))))))))) (.cons (.app 12 2 (.cons (.var 0) (.cons (.var 1) (.cons (.var 2) (.cons (.var 3) (.cons (.var 4) (.cons (.var 5) (.cons (.var 6) (.cons (.var 7) (.cons (.var 8) .nil)))))))))) .nil)))) (.lit 0)) (.ite (.lt (.app 12 0 (.cons (.var 0) (.cons (.var 1) (.cons (.var 2) (.cons (.var 3) (.cons (.var 4) (.cons (.var 5) (.cons (.var 6) (.cons (.var 7) (.cons (.var 8) .nil)))))))))) (.lit 0)) (.lit (-1)) (.ite (.lt (.lit 0) (.app 12 0 (.cons (.var 0) (.cons (.var 1) (.cons (.var 2) (.cons (.var 3) (.cons (.var 4) (.cons (.var 5) (.cons (.var 6) (.cons (.var 7) (.cons (.var 8) .nil))))))))))) (.lit 1) (.lit 0))) (.ite (.eq (.app 8 0 (.cons (.app 12 0 (.cons (.var 0) (.cons (.var 1) (.cons (.var 2) (.cons (.var 3) (.cons (.var 4) (.cons (.var 5) (.cons (.var 6) (.cons (.var 7) (.cons (.var 8) .nil)))))))))) (.cons (.app 12 1 (.cons (.var 0) (.cons (.var 1) (.cons (.var 2) (.cons (.var 3) (.cons (.var 4) (.cons (.var 5) (.cons (.var 6) (.cons (.var 7) (.cons (.var 8) .nil)))))))))) (.cons (.app 12 2 (.cons (.var 0) (.cons (.var 1) (.cons (.var 2) (.cons (.var 3) (.cons (.var 4) (.cons (.var 5) (.cons (.var 6) (.cons (.var 7) (.cons (.var 8) .nil)))))))))) .nil)))) (.lit 1)) (.ite (.lt (.app 12 1 (.cons (.var 0) (.cons (.var 1) (.cons (.var 2) (.cons (.var 3) (.cons (.var 4) (.cons (.var 5) (.cons (.var 6) (.cons (.var 7) (.cons (.var 8) .nil)))))))))) (.lit 0)) (.lit (-1)) (.ite (.lt (.lit 0) (.app 12 1 (.cons (.var 0) (.cons (.var 1) (.cons (.var 2) (.cons (.var 3) (.cons (.var 4) (.cons (.var 5) (.cons (.var 6) (.cons (.var 7) (.cons (.var 8) .nil))))))))))) (.lit 1) (.lit 0))) (.ite (.lt (.app 12 2 (.cons (.var 0) (.cons (.var 1) (.cons (.var 2) (.cons (.var 3) (.cons (.var 4) (.cons (.var 5) (.cons (.var 6) (.cons (.var 7) (.cons (.var 8) .nil)))))))))) (.lit 0)) (.lit (-1)) (.ite (.lt (.lit 0) (.app 12 2 (.cons (.var 0) (.cons (.var 1) (.cons (.var 2) (.cons (.var 3) (.cons (.var 4) (.cons (.var 5) (.cons (.var 6) (.cons (.var 7) (.cons (.var 8) .nil))))))))))) (.lit 1) (.lit 0)))))) (.lit 0))), (.int (.ite (.eq (.app 12 3 (.cons (.var 0) (.cons (.var 1) (.cons (.var 2) (.cons (.var 3) (.cons (.var 4) (.cons (.var 5) (.cons (.var 6) (.cons (.var 7) (.cons (.var 8) .nil)))))))))) (.lit 0)) (.ite (.ite (.eq (.app 12 0 (.cons (.var 0) (.cons (.var 1) (.cons (.var 2) (.cons (.var 3) (.cons (.var 4) (.cons (.var 5) (.cons (.var 6) (.cons (.var 7) (.cons (.var 8) .nil)))))))))) (.lit 0)) (.ite (.eq (.app 12 1 (.cons (.var 0) (.cons (.var 1) (.cons (.var 2) (.cons (.var 3) (.cons (.var 4) (.cons (.var 5) (.cons (.var 6) (.cons (.var 7) (.cons (.var 8) .nil)))))))))) (.lit 0)) (.eq (.app 12 2 (.cons (.var 0) (.cons (.var 1) (.cons (.var 2) (.cons (.var 3) (.cons (.var 4) (.cons (.var 5) (.cons (.var 6) (.cons (.var 7) (.cons (.var 8) .nil)))))))))) (.lit 0)) (.blit false)) (.blit false)) (.lit 3) (.lit 0)) (.app 12 3 (.cons (.var 0) (.cons (.var 1) (.cons (.var 2) (.cons (.var 3) (.cons (.var 4) (.cons (.var 5) (.cons (.var 6) (.cons (.var 7) (.cons (.var 8) .nil))))))))))))]), [])) (.fail ))
theorem k_facing : acall cx4 20 false 52 [] (argsG [.g 3, .g 3, .g 3] 0 0) (heapG [.g 3, .g 3, .g 3] 0) = R_facing := by kernel_rfl
set_option maxHeartbeats 4000000 in
set_option maxRecDepth 20000 in
theorem v_facing : ∀ l : List Int, l.length = lenSh [.g 3, .g 3, .g 3] → Any l → ((R_facing.map fun r => valOf (E.at l) r.1).sel (E.at l)) = some (some (tupleV (resV E 14 l [.i, .i, .i] 0 0))) := by
  intro l hl hG
  have h0 : l.length = 9 := hl
  clear hl
  obtain ⟨a0, l1, rfl, h1⟩ := cut1 h0
  clear h0
  obtain ⟨a1, l2, rfl, h2⟩ := cut1 h1
  clear h1
  obtain ⟨a2, l3, rfl, h3⟩ := cut1 h2
  clear h2
  obtain ⟨a3, l4, rfl, h4⟩ := cut1 h3
  clear h3
  obtain ⟨a4, l5, rfl, h5⟩ := cut1 h4
  clear h4
  obtain ⟨a5, l6, rfl, h6⟩ := cut1 h5
  clear h5
  obtain ⟨a6, l7, rfl, h7⟩ := cut1 h6
  clear h6
  obtain ⟨a7, l8, rfl, h8⟩ := cut1 h7
  clear h7
  obtain ⟨a8, l9, rfl, h9⟩ := cut1 h8
  clear h8
  obtain rfl := cut0 h9
  clear h9
  simp only [R_facing, Tree.map, Tree.sel, Env.b, Env.i, valOf, vals1, valInts, val1, tupleV, resV, valsI, den, bt1, bt2, bt3, bt4, Env.at, E, fb, fi, List.getD_cons_zero, List.getD_cons_succ, List.all_cons, List.all_nil, Bool.and_true, nr', us', ss', nr2, us2, ss2, nr3, us3, ss3, nx, ny, nz, volV, Bool.and_assoc, Option.map_some, List.all_append, cmps, flat0, faceA, faceS]
  cases h0 : ss a0
  · simp
  cases h1 : ss a1
  · simp
  cases h2 : ss a2
  · simp
  cases h3 : ss a3
  · simp
  cases h4 : ss a4
  · simp
  cases h5 : ss a5
  · simp
  cases h6 : ss a6
  · simp
  cases h7 : ss a7
  · simp
  cases h8 : ss a8
  · simp
  generalize cr2 (a4 - a1) (a5 - a2) (a7 - a1) (a8 - a2) = X, cr2 (a5 - a2) (a3 - a0) (a8 - a2) (a6 - a0) = Y, cr2 (a3 - a0) (a4 - a1) (a6 - a0) (a7 - a1) = Z
  cases hz : (X == 0 && (Y == 0 && Z == 0))
  · have hz' : X = 0 → Y = 0 → ¬ Z = 0 := by simpa using hz
    rcases axis_012 X Y Z with e | e | e <;> (simp [e, sgn]; grind)
  · have hz' : X = 0 ∧ Y = 0 ∧ Z = 0 := by simpa using hz
    obtain ⟨rfl, rfl, rfl⟩ := hz'
    simp

theorem c_facing (W : World) : Flat Tryz.prog E W Any 52 [.g 3, .g 3, .g 3] fun l => tupleV (resV E 14 l [.i, .i, .i] 0 0) := flat_sel (cx4_ok W) k_facing v_facing

noncomputable def cx5 : Cx := ⟨cx4.ty, cx4.fn, [flatCon 52 [.g 3, .g 3, .g 3] [.i, .i, .i] 14 noChk] ++ cx4.con, cx4.inl, cx4.eqs⟩
theorem cx5_ok (W : World) : ∀ l, Any l → CxOk Tryz.prog (E.at l) W cx5 :=
  cx_more (cx4_ok W) (List.forall_mem_cons.2 ⟨flat_con' (c_facing W), (fun _ h => by cases h)⟩)
end Go.Proofs.YtlfoglklibhbnaaGreat.Sx
