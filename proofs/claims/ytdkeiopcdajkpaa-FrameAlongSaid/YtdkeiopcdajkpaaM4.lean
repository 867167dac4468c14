/- Contracts, reckoned. -/
import Derived.Test.YtdkeiopcdajkpaaM3
import Derived.Test.YtdkeiopcdajkpaaFp
import Derived.KernelRfl
set_option linter.unusedVariables false
set_option linter.unusedSimpArgs false
namespace Go.Proofs.Ytdkeiopcdajkpaa.Sx
open Go.RowKit

theorem fit2r (a b : Int) : (decide (a < -1024) || (decide (1024 < a) || (decide (b < -1024) || decide (1024 < b)))) = !(kk a && kk b) := by
  rw [Bool.eq_iff_iff]; simp only [kk, Bool.or_eq_true, Bool.not_eq_true', Bool.and_eq_false_imp, Bool.and_eq_true, decide_eq_true_eq, decide_eq_false_iff_not]; omega

def R_rdirect : AV := (.tuple [(.agg [(.int (.ite (.eq (.app 41 9 (.cons (.var 0) (.cons (.var 1) (.cons (.var 2) .nil)))) (.lit 0)) (.ite (.ite (.lt (.var 3) (.lit (-1024))) (.blit true) (.ite (.lt (.lit 1024) (.var 3)) (.blit true) (.ite (.lt (.var 4) (.lit (-1024))) (.blit true) (.lt (.lit 1024) (.var 4))))) (.lit 0) (.app 30 0 (.cons (.add (.add (.mul (.app 41 3 (.cons (.var 0) (.cons (.var 1) (.cons (.var 2) .nil)))) (.var 3)) (.mul (.app 41 6 (.cons (.var 0) (.cons (.var 1) (.cons (.var 2) .nil)))) (.var 4))) (.mul (.app 41 0 (.cons (.var 0) (.cons (.var 1) (.cons (.var 2) .nil)))) (.app 31 0 (.cons (.ite (.lt (.sub (.sub (.lit 1048576) (.mul (.var 3) (.var 3))) (.mul (.var 4) (.var 4))) (.lit 0)) (.lit 0) (.sub (.sub (.lit 1048576) (.mul (.var 3) (.var 3))) (.mul (.var 4) (.var 4)))) .nil)))) (.cons (.lit 1024) .nil)))) (.lit 0))), (.int (.ite (.eq (.app 41 9 (.cons (.var 0) (.cons (.var 1) (.cons (.var 2) .nil)))) (.lit 0)) (.ite (.ite (.lt (.var 3) (.lit (-1024))) (.blit true) (.ite (.lt (.lit 1024) (.var 3)) (.blit true) (.ite (.lt (.var 4) (.lit (-1024))) (.blit true) (.lt (.lit 1024) (.var 4))))) (.lit 0) (.app 30 0 (.cons (.add (.add (.mul (.app 41 4 (.cons (.var 0) (.cons (.var 1) (.cons (.var 2) .nil)))) (.var 3)) (.mul (.app 41 7 (.cons (.var 0) (.cons (.var 1) (.cons (.var 2) .nil)))) (.var 4))) (.mul (.app 41 1 (.cons (.var 0) (.cons (.var 1) (.cons (.var 2) .nil)))) (.app 31 0 (.cons (.ite (.lt (.sub (.sub (.lit 1048576) (.mul (.var 3) (.var 3))) (.mul (.var 4) (.var 4))) (.lit 0)) (.lit 0) (.sub (.sub (.lit 1048576) (.mul (.var 3) (.var 3))) (.mul (.var 4) (.var 4)))) .nil)))) (.cons (.lit 1024) .nil)))) (.lit 0))), (.int (.ite (.eq (.app 41 9 (.cons (.var 0) (.cons (.var 1) (.cons (.var 2) .nil)))) (.lit 0)) (.ite (.ite (.lt (.var 3) (.lit (-1024))) (.blit true) (.ite (.lt (.lit 1024) (.var 3)) (.blit true) (.ite (.lt (.var 4) (.lit (-1024))) (.blit true) (.lt (.lit 1024) (.var 4))))) (.lit 0) (.app 30 0 (.cons (.add (.add (.mul (.app 41 5 (.cons (.var 0) (.cons (.var 1) (.cons (.var 2) .nil)))) (.var 3)) (.mul (.app 41 8 (.cons (.var 0) (.cons (.var 1) (.cons (.var 2) .nil)))) (.var 4))) (.mul (.app 41 2 (.cons (.var 0) (.cons (.var 1) (.cons (.var 2) .nil)))) (.app 31 0 (.cons (.ite (.lt (.sub (.sub (.lit 1048576) (.mul (.var 3) (.var 3))) (.mul (.var 4) (.var 4))) (.lit 0)) (.lit 0) (.sub (.sub (.lit 1048576) (.mul (.var 3) (.var 3))) (.mul (.var 4) (.var 4)))) .nil)))) (.cons (.lit 1024) .nil)))) (.lit 0)))]), (.int (.ite (.eq (.app 41 9 (.cons (.var 0) (.cons (.var 1) (.cons (.var 2) .nil)))) (.lit 0)) (.ite (.ite (.lt (.var 3) (.lit (-1024))) (.blit true) (.ite (.lt (.lit 1024) (.var 3)) (.blit true) (.ite (.lt (.var 4) (.lit (-1024))) (.blit true) (.lt (.lit 1024) (.var 4))))) (.lit 1) (.lit 0)) (.app 41 9 (.cons (.var 0) (.cons (.var 1) (.cons (.var 2) .nil))))))])
theorem k_rdirect : acall cm3 20 false 18 [] (argsG [.g 3, .g 2] 0 0) (heapG [.g 3, .g 2] 0) = .leaf (R_rdirect, heapG [.g 3, .g 2] 0) := by kernel_rfl
set_option maxHeartbeats 4000000 in
set_option maxRecDepth 20000 in
theorem v_rdirect : ∀ l : List Int, l.length = lenSh [.g 3, .g 2] → AllI l → valOf (E.at l) R_rdirect = some (tupleV (resV E 42 l [.g 3, .i] 0 0)) := by
  intro l hl hG
  have h0 : l.length = 5 := hl
  clear hl
  obtain ⟨a0, l1, rfl, h1⟩ := cut1 h0
  clear h0
  obtain ⟨a1, l2, rfl, h2⟩ := cut1 h1
  clear h1
  obtain ⟨a2, l3, rfl, h3⟩ := cut1 h2
  clear h2
  obtain ⟨a3, l4, rfl, h4⟩ := cut1 h3
  clear h3
  obtain ⟨a4, l5, rfl, h5⟩ := cut1 h4
  clear h4
  obtain rfl := cut0 h5
  clear h5
  have hk := fit2r a3 a4
  have z0 := beq_self_eq_true (0 : Int)
  simp only [R_rdirect, minI, maxI, de, dv, List.take_succ_cons, List.take_zero, List.drop_succ_cons, List.drop_zero, hk, valOf, vals1, valInts, val1, tupleV, resV, valsI, den, bt1, bt2, bt3, bt4, Env.at, E, fb, fi, List.getD_cons_zero, List.getD_cons_succ, List.all_cons, List.all_nil, Bool.and_true, nr', us', ss', nr2, us2, ss2, nr3, us3, ss3, Bool.and_assoc, Option.map_some, List.all_append, Env.b, Env.i, Tree.map, Tree.sel]
  by_cases he : te [a0, a1, a2] = 0
  · cases hc : (kk a3 && kk a4)
    · simp [he]
    · have hb := hc
      simp only [Bool.and_eq_true] at hb
      have k3 := kk_bd hb.1; have k4 := kk_bd hb.2
      have q3 := mul_bd (M := 1024) (N := 1024) 1048576 (by decide) k3 k3; have q4 := mul_bd (M := 1024) (N := 1024) 1048576 (by decide) k4 k4
      have p3 := sq_bd1 (x := a3) (by omega); have p4 := sq_bd1 (x := a4) (by omega)
      have w1 : IntKind.i64.wrap (a3 * a3) = a3 * a3 := wr (by omega)
      have w2 : IntKind.i64.wrap (a4 * a4) = a4 * a4 := wr (by omega)
      have w3 : IntKind.i64.wrap (1048576 - a3 * a3) = 1048576 - a3 * a3 := wr (by omega)
      have w4 : IntKind.i64.wrap (1048576 - a3 * a3 - a4 * a4) = 1048576 - a3 * a3 - a4 * a4 := wr (by omega)
      have g1 : ¬ max (1048576 - a3 * a3 - a4 * a4) 0 < 0 := by omega
      have g2 : ¬ 9223372036854775807 < max (1048576 - a3 * a3 - a4 * a4) 0 := by omega
      have hz := sq_disc (m := max (1048576 - a3 * a3 - a4 * a4) 0) (by omega) (by omega)
      simp only [w1, w2, w3, w4, g1, g2, he, if_true, if_false, dz, List.getD_cons_zero, List.getD_cons_succ, Bool.not_true, Bool.false_eq_true, z0]
      generalize Wh.sqC (max (1048576 - a3 * a3 - a4 * a4) 0) = z at *
      have hv := fv_bd a0 a1 a2
      have e0 := dsum (hv 3 (by decide)) (hv 6 (by decide)) (hv 0 (by decide)) k3 k4 hz
      have e1 := dsum (hv 4 (by decide)) (hv 7 (by decide)) (hv 1 (by decide)) k3 k4 hz
      have e2 := dsum (hv 5 (by decide)) (hv 8 (by decide)) (hv 2 (by decide)) k3 k4 hz
      simp only [e0, e1, e2, Nat.reduceAdd]
  · have hg : (te [a0, a1, a2] == 0) = false := by simpa using he
    simp [he, hg]

theorem c_rdirect (W : World) : Flat Try.prog E W AllI 18 [.g 3, .g 2] fun l => tupleV (resV E 42 l [.g 3, .i] 0 0) := flat_val (cm3_ok W) k_rdirect v_rdirect

noncomputable def cm4 : Cx := ⟨cm3.ty, cm3.fn, [flatCon 18 [.g 3, .g 2] [.g 3, .i] 42 (rangesOk okId)] ++ cm3.con, cm3.inl, cm3.eqs⟩
theorem cm4_ok (W : World) : ∀ l, AllI l → CxOk Try.prog (E.at l) W cm4 :=
  cx_more (cm3_ok W) (List.forall_mem_cons.2 ⟨flat_conI okId_I (c_rdirect W), (fun _ h => by cases h)⟩)
end Go.Proofs.Ytdkeiopcdajkpaa.Sx
