/- Contracts, reckoned. -/
import Derived.Test.YtfpnkcmplmkghaaS2v
import Derived.Test.YtfpnkcmplmkghaaFw
import Derived.Test.YtfpnkcmplmkghaaSm
import Derived.KernelRfl
set_option linter.unusedVariables false
set_option linter.unusedSimpArgs false
namespace Go.Proofs.Ytfpnkcmplmkghaa.Sx
open Go.RowKit


def R_sjoin : AV := (.tuple [(.agg [(.int (.ite (.ite (.app 53 0 (.cons (.var 0) (.cons (.var 1) (.cons (.var 2) (.cons (.var 3) (.cons (.var 4) (.cons (.var 5) .nil))))))) (.no (.app 53 0 (.cons (.var 6) (.cons (.var 7) (.cons (.var 8) (.cons (.var 9) (.cons (.var 10) (.cons (.var 11) .nil)))))))) (.blit true)) (.lit 0) (.ite (.app 2 0 (.cons (.var 0) (.cons (.var 1) (.cons (.var 2) (.cons (.var 3) (.cons (.var 4) (.cons (.var 5) (.cons (.var 6) (.cons (.var 7) (.cons (.var 8) (.cons (.var 9) (.cons (.var 10) (.cons (.var 11) .nil))))))))))))) (.ite (.lt (.var 9) (.ite (.lt (.var 6) (.ite (.lt (.var 3) (.var 0)) (.var 3) (.var 0))) (.var 6) (.ite (.lt (.var 3) (.var 0)) (.var 3) (.var 0)))) (.var 9) (.ite (.lt (.var 6) (.ite (.lt (.var 3) (.var 0)) (.var 3) (.var 0))) (.var 6) (.ite (.lt (.var 3) (.var 0)) (.var 3) (.var 0)))) (.lit 0)))), (.int (.ite (.ite (.app 53 0 (.cons (.var 0) (.cons (.var 1) (.cons (.var 2) (.cons (.var 3) (.cons (.var 4) (.cons (.var 5) .nil))))))) (.no (.app 53 0 (.cons (.var 6) (.cons (.var 7) (.cons (.var 8) (.cons (.var 9) (.cons (.var 10) (.cons (.var 11) .nil)))))))) (.blit true)) (.lit 0) (.ite (.app 2 0 (.cons (.var 0) (.cons (.var 1) (.cons (.var 2) (.cons (.var 3) (.cons (.var 4) (.cons (.var 5) (.cons (.var 6) (.cons (.var 7) (.cons (.var 8) (.cons (.var 9) (.cons (.var 10) (.cons (.var 11) .nil))))))))))))) (.ite (.lt (.var 10) (.ite (.lt (.var 7) (.ite (.lt (.var 4) (.var 1)) (.var 4) (.var 1))) (.var 7) (.ite (.lt (.var 4) (.var 1)) (.var 4) (.var 1)))) (.var 10) (.ite (.lt (.var 7) (.ite (.lt (.var 4) (.var 1)) (.var 4) (.var 1))) (.var 7) (.ite (.lt (.var 4) (.var 1)) (.var 4) (.var 1)))) (.lit 0)))), (.int (.ite (.ite (.app 53 0 (.cons (.var 0) (.cons (.var 1) (.cons (.var 2) (.cons (.var 3) (.cons (.var 4) (.cons (.var 5) .nil))))))) (.no (.app 53 0 (.cons (.var 6) (.cons (.var 7) (.cons (.var 8) (.cons (.var 9) (.cons (.var 10) (.cons (.var 11) .nil)))))))) (.blit true)) (.lit 0) (.ite (.app 2 0 (.cons (.var 0) (.cons (.var 1) (.cons (.var 2) (.cons (.var 3) (.cons (.var 4) (.cons (.var 5) (.cons (.var 6) (.cons (.var 7) (.cons (.var 8) (.cons (.var 9) (.cons (.var 10) (.cons (.var 11) .nil))))))))))))) (.ite (.lt (.var 11) (.ite (.lt (.var 8) (.ite (.lt (.var 5) (.var 2)) (.var 5) (.var 2))) (.var 8) (.ite (.lt (.var 5) (.var 2)) (.var 5) (.var 2)))) (.var 11) (.ite (.lt (.var 8) (.ite (.lt (.var 5) (.var 2)) (.var 5) (.var 2))) (.var 8) (.ite (.lt (.var 5) (.var 2)) (.var 5) (.var 2)))) (.lit 0)))), (.int (.ite (.ite (.app 53 0 (.cons (.var 0) (.cons (.var 1) (.cons (.var 2) (.cons (.var 3) (.cons (.var 4) (.cons (.var 5) .nil))))))) (.no (.app 53 0 (.cons (.var 6) (.cons (.var 7) (.cons (.var 8) (.cons (.var 9) (.cons (.var 10) (.cons (.var 11) .nil)))))))) (.blit true)) (.lit 0) (.ite (.app 2 0 (.cons (.var 0) (.cons (.var 1) (.cons (.var 2) (.cons (.var 3) (.cons (.var 4) (.cons (.var 5) (.cons (.var 6) (.cons (.var 7) (.cons (.var 8) (.cons (.var 9) (.cons (.var 10) (.cons (.var 11) .nil))))))))))))) (.ite (.lt (.ite (.lt (.ite (.lt (.var 0) (.var 3)) (.var 3) (.var 0)) (.var 6)) (.var 6) (.ite (.lt (.var 0) (.var 3)) (.var 3) (.var 0))) (.var 9)) (.var 9) (.ite (.lt (.ite (.lt (.var 0) (.var 3)) (.var 3) (.var 0)) (.var 6)) (.var 6) (.ite (.lt (.var 0) (.var 3)) (.var 3) (.var 0)))) (.lit 0)))), (.int (.ite (.ite (.app 53 0 (.cons (.var 0) (.cons (.var 1) (.cons (.var 2) (.cons (.var 3) (.cons (.var 4) (.cons (.var 5) .nil))))))) (.no (.app 53 0 (.cons (.var 6) (.cons (.var 7) (.cons (.var 8) (.cons (.var 9) (.cons (.var 10) (.cons (.var 11) .nil)))))))) (.blit true)) (.lit 0) (.ite (.app 2 0 (.cons (.var 0) (.cons (.var 1) (.cons (.var 2) (.cons (.var 3) (.cons (.var 4) (.cons (.var 5) (.cons (.var 6) (.cons (.var 7) (.cons (.var 8) (.cons (.var 9) (.cons (.var 10) (.cons (.var 11) .nil))))))))))))) (.ite (.lt (.ite (.lt (.ite (.lt (.var 1) (.var 4)) (.var 4) (.var 1)) (.var 7)) (.var 7) (.ite (.lt (.var 1) (.var 4)) (.var 4) (.var 1))) (.var 10)) (.var 10) (.ite (.lt (.ite (.lt (.var 1) (.var 4)) (.var 4) (.var 1)) (.var 7)) (.var 7) (.ite (.lt (.var 1) (.var 4)) (.var 4) (.var 1)))) (.lit 0)))), (.int (.ite (.ite (.app 53 0 (.cons (.var 0) (.cons (.var 1) (.cons (.var 2) (.cons (.var 3) (.cons (.var 4) (.cons (.var 5) .nil))))))) (.no (.app 53 0 (.cons (.var 6) (.cons (.var 7) (.cons (.var 8) (.cons (.var 9) (.cons (.var 10) (.cons (.var 11) .nil)))))))) (.blit true)) (.lit 0) (.ite (.app 2 0 (.cons (.var 0) (.cons (.var 1) (.cons (.var 2) (.cons (.var 3) (.cons (.var 4) (.cons (.var 5) (.cons (.var 6) (.cons (.var 7) (.cons (.var 8) (.cons (.var 9) (.cons (.var 10) (.cons (.var 11) .nil))))))))))))) (.ite (.lt (.ite (.lt (.ite (.lt (.var 2) (.var 5)) (.var 5) (.var 2)) (.var 8)) (.var 8) (.ite (.lt (.var 2) (.var 5)) (.var 5) (.var 2))) (.var 11)) (.var 11) (.ite (.lt (.ite (.lt (.var 2) (.var 5)) (.var 5) (.var 2)) (.var 8)) (.var 8) (.ite (.lt (.var 2) (.var 5)) (.var 5) (.var 2)))) (.lit 0))))]), (.int (.ite (.ite (.app 53 0 (.cons (.var 0) (.cons (.var 1) (.cons (.var 2) (.cons (.var 3) (.cons (.var 4) (.cons (.var 5) .nil))))))) (.no (.app 53 0 (.cons (.var 6) (.cons (.var 7) (.cons (.var 8) (.cons (.var 9) (.cons (.var 10) (.cons (.var 11) .nil)))))))) (.blit true)) (.lit 1) (.ite (.app 2 0 (.cons (.var 0) (.cons (.var 1) (.cons (.var 2) (.cons (.var 3) (.cons (.var 4) (.cons (.var 5) (.cons (.var 6) (.cons (.var 7) (.cons (.var 8) (.cons (.var 9) (.cons (.var 10) (.cons (.var 11) .nil))))))))))))) (.lit 0) (.lit 5))))])
theorem k_sjoin : acall cs2 20 false 54 [] (argsG [.g 6, .g 6] 0 0) (heapG [.g 6, .g 6] 0) = .leaf (R_sjoin, heapG [.g 6, .g 6] 0) := by kernel_rfl
set_option maxHeartbeats 4000000 in
set_option maxRecDepth 20000 in
theorem v_sjoin : ∀ l : List Int, l.length = lenSh [.g 6, .g 6] → Any l → valOf (E.at l) R_sjoin = some (tupleV (resV E 55 l [.g 6, .i] 0 0)) := by
  intro l hl hG
  have h0 : l.length = 12 := hl
  clear hl
  obtain ⟨a0, l1, rfl, h1⟩ := cut1 h0
  clear h0
  obtain ⟨a1, l2, rfl, h2⟩ := cut1 h1
  clear h1
  obtain ⟨a2, l3, rfl, h3⟩ := cut1 h2
  clear h2
  obtain ⟨a3, l4, rfl, h4⟩ := cut1 h3
  clear h3
  obtain ⟨a4, l5, rfl, h5⟩ := cut1 h4
  clear h4
  obtain ⟨a5, l6, rfl, h6⟩ := cut1 h5
  clear h5
  obtain ⟨a6, l7, rfl, h7⟩ := cut1 h6
  clear h6
  obtain ⟨a7, l8, rfl, h8⟩ := cut1 h7
  clear h7
  obtain ⟨a8, l9, rfl, h9⟩ := cut1 h8
  clear h8
  obtain ⟨a9, l10, rfl, h10⟩ := cut1 h9
  clear h9
  obtain ⟨a10, l11, rfl, h11⟩ := cut1 h10
  clear h10
  obtain ⟨a11, l12, rfl, h12⟩ := cut1 h11
  clear h11
  obtain rfl := cut0 h12
  clear h12
  simp only [R_sjoin, valOf, vals1, valInts, val1, tupleV, resV, valsI, den, bt1, bt2, bt3, bt4, Env.at, E, fb, fi, List.getD_cons_zero, List.getD_cons_succ, List.all_cons, List.all_nil, Bool.and_true, nr', us', ss', nr2, us2, ss2, nr3, us3, ss3, Bool.and_assoc, Option.map_some, List.all_append, List.take_succ_cons, List.take_zero, List.drop_succ_cons, List.drop_zero, minI, maxI]
  cases h : sis [a0, a1, a2, a3, a4, a5]
  · simp
  cases k : sis [a6, a7, a8, a9, a10, a11]
  · simp
  have b1 := sis_iff.1 h; have b2 := sis_iff.1 k
  have s0 := sm_iff.2 b1.sl0; have s1 := sm_iff.2 b1.sl1; have s2 := sm_iff.2 b1.sl2; have s3 := sm_iff.2 b1.sh0; have s4 := sm_iff.2 b1.sh1; have s5 := sm_iff.2 b1.sh2
  have s6 := sm_iff.2 b2.sl0; have s7 := sm_iff.2 b2.sl1; have s8 := sm_iff.2 b2.sl2; have s9 := sm_iff.2 b2.sh0; have s10 := sm_iff.2 b2.sh1; have s11 := sm_iff.2 b2.sh2
  have c0 := b1.le0; have c1 := b1.le1; have c2 := b1.le2; have c3 := b2.le0; have c4 := b2.le1; have c5 := b2.le2
  have e0 : min (min (min a0 a3) a6) a9 = min a0 a6 := by omega
  have e1 : min (min (min a1 a4) a7) a10 = min a1 a7 := by omega
  have e2 : min (min (min a2 a5) a8) a11 = min a2 a8 := by omega
  have e3 : max (max (max a0 a3) a6) a9 = max a3 a9 := by omega
  have e4 : max (max (max a1 a4) a7) a10 = max a4 a10 := by omega
  have e5 : max (max (max a2 a5) a8) a11 = max a5 a11 := by omega
  simp [s0, s1, s2, s3, s4, s5, s6, s7, s8, s9, s10, s11]
  omega

theorem c_sjoin (W : World) : Flat Try.prog E W Any 54 [.g 6, .g 6] fun l => tupleV (resV E 55 l [.g 6, .i] 0 0) := flat_val (cs2_ok W) k_sjoin v_sjoin

noncomputable def cs3 : Cx := ⟨cs2.ty, cs2.fn, [flatCon 54 [.g 6, .g 6] [.g 6, .i] 55 noChk] ++ cs2.con, cs2.inl, cs2.eqs⟩
theorem cs3_ok (W : World) : ∀ l, Any l → CxOk Try.prog (E.at l) W cs3 :=
  cx_more (cs2_ok W) (List.forall_mem_cons.2 ⟨flat_con' (c_sjoin W), (fun _ h => by cases h)⟩)
end Go.Proofs.Ytfpnkcmplmkghaa.Sx
