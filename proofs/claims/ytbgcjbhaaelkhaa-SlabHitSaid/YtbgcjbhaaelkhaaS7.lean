/- Contracts, reckoned. -/
import Derived.Test.YtbgcjbhaaelkhaaS4
import Derived.Test.YtbgcjbhaaelkhaaFw
import Derived.Test.YtbgcjbhaaelkhaaSm
import Derived.KernelRfl
set_option linter.unusedVariables false
set_option linter.unusedSimpArgs false
namespace Go.Proofs.Ytbgcjbhaaelkhaa.Sx
open Go.RowKit


def R_SlabHit : AV := (.bool (.ite (.app 20 0 .nil) (.ite (.eq (.app 16 0 (.cons (.var 0) (.cons (.var 1) (.cons (.var 2) (.cons (.var 3) (.cons (.var 4) (.cons (.var 5) (.cons (.var 6) (.cons (.var 7) (.cons (.var 8) (.cons (.var 9) (.cons (.var 10) (.cons (.var 11) (.cons (.var 12) (.cons (.var 13) (.cons (.var 14) .nil)))))))))))))))) (.lit 0)) (.ite (.app 2 0 (.cons (.var 6) (.cons (.var 7) (.cons (.var 8) (.cons (.var 9) (.cons (.var 10) (.cons (.var 11) (.cons (.var 12) (.cons (.var 13) (.cons (.var 14) .nil)))))))))) (.ite (.eq (.app 54 0 (.cons (.var 0) (.cons (.var 1) (.cons (.var 2) (.cons (.var 3) (.cons (.var 4) (.cons (.var 5) (.cons (.ite (.app 2 0 (.cons (.var 6) (.cons (.var 7) (.cons (.var 8) (.cons (.var 9) (.cons (.var 10) (.cons (.var 11) (.cons (.var 12) (.cons (.var 13) (.cons (.var 14) .nil)))))))))) (.ite (.lt (.var 12) (.ite (.lt (.var 9) (.var 6)) (.var 9) (.var 6))) (.var 12) (.ite (.lt (.var 9) (.var 6)) (.var 9) (.var 6))) (.lit 0)) (.cons (.ite (.app 2 0 (.cons (.var 6) (.cons (.var 7) (.cons (.var 8) (.cons (.var 9) (.cons (.var 10) (.cons (.var 11) (.cons (.var 12) (.cons (.var 13) (.cons (.var 14) .nil)))))))))) (.ite (.lt (.var 13) (.ite (.lt (.var 10) (.var 7)) (.var 10) (.var 7))) (.var 13) (.ite (.lt (.var 10) (.var 7)) (.var 10) (.var 7))) (.lit 0)) (.cons (.ite (.app 2 0 (.cons (.var 6) (.cons (.var 7) (.cons (.var 8) (.cons (.var 9) (.cons (.var 10) (.cons (.var 11) (.cons (.var 12) (.cons (.var 13) (.cons (.var 14) .nil)))))))))) (.ite (.lt (.var 14) (.ite (.lt (.var 11) (.var 8)) (.var 11) (.var 8))) (.var 14) (.ite (.lt (.var 11) (.var 8)) (.var 11) (.var 8))) (.lit 0)) (.cons (.ite (.app 2 0 (.cons (.var 6) (.cons (.var 7) (.cons (.var 8) (.cons (.var 9) (.cons (.var 10) (.cons (.var 11) (.cons (.var 12) (.cons (.var 13) (.cons (.var 14) .nil)))))))))) (.ite (.lt (.ite (.lt (.var 6) (.var 9)) (.var 9) (.var 6)) (.var 12)) (.var 12) (.ite (.lt (.var 6) (.var 9)) (.var 9) (.var 6))) (.lit 0)) (.cons (.ite (.app 2 0 (.cons (.var 6) (.cons (.var 7) (.cons (.var 8) (.cons (.var 9) (.cons (.var 10) (.cons (.var 11) (.cons (.var 12) (.cons (.var 13) (.cons (.var 14) .nil)))))))))) (.ite (.lt (.ite (.lt (.var 7) (.var 10)) (.var 10) (.var 7)) (.var 13)) (.var 13) (.ite (.lt (.var 7) (.var 10)) (.var 10) (.var 7))) (.lit 0)) (.cons (.ite (.app 2 0 (.cons (.var 6) (.cons (.var 7) (.cons (.var 8) (.cons (.var 9) (.cons (.var 10) (.cons (.var 11) (.cons (.var 12) (.cons (.var 13) (.cons (.var 14) .nil)))))))))) (.ite (.lt (.ite (.lt (.var 8) (.var 11)) (.var 11) (.var 8)) (.var 14)) (.var 14) (.ite (.lt (.var 8) (.var 11)) (.var 11) (.var 8))) (.lit 0)) .nil))))))))))))) (.lit 0)) (.ite (.app 16 0 (.cons (.var 0) (.cons (.var 1) (.cons (.var 2) (.cons (.var 3) (.cons (.var 4) (.cons (.var 5) (.cons (.var 6) (.cons (.var 7) (.cons (.var 8) (.cons (.var 9) (.cons (.var 10) (.cons (.var 11) (.cons (.var 12) (.cons (.var 13) (.cons (.var 14) .nil)))))))))))))))) (.app 54 0 (.cons (.var 0) (.cons (.var 1) (.cons (.var 2) (.cons (.var 3) (.cons (.var 4) (.cons (.var 5) (.cons (.ite (.app 2 0 (.cons (.var 6) (.cons (.var 7) (.cons (.var 8) (.cons (.var 9) (.cons (.var 10) (.cons (.var 11) (.cons (.var 12) (.cons (.var 13) (.cons (.var 14) .nil)))))))))) (.ite (.lt (.var 12) (.ite (.lt (.var 9) (.var 6)) (.var 9) (.var 6))) (.var 12) (.ite (.lt (.var 9) (.var 6)) (.var 9) (.var 6))) (.lit 0)) (.cons (.ite (.app 2 0 (.cons (.var 6) (.cons (.var 7) (.cons (.var 8) (.cons (.var 9) (.cons (.var 10) (.cons (.var 11) (.cons (.var 12) (.cons (.var 13) (.cons (.var 14) .nil)))))))))) (.ite (.lt (.var 13) (.ite (.lt (.var 10) (.var 7)) (.var 10) (.var 7))) (.var 13) (.ite (.lt (.var 10) (.var 7)) (.var 10) (.var 7))) (.lit 0)) (.cons (.ite (.app 2 0 (.cons (.var 6) (.cons (.var 7) (.cons (.var 8) (.cons (.var 9) (.cons (.var 10) (.cons (.var 11) (.cons (.var 12) (.cons (.var 13) (.cons (.var 14) .nil)))))))))) (.ite (.lt (.var 14) (.ite (.lt (.var 11) (.var 8)) (.var 11) (.var 8))) (.var 14) (.ite (.lt (.var 11) (.var 8)) (.var 11) (.var 8))) (.lit 0)) (.cons (.ite (.app 2 0 (.cons (.var 6) (.cons (.var 7) (.cons (.var 8) (.cons (.var 9) (.cons (.var 10) (.cons (.var 11) (.cons (.var 12) (.cons (.var 13) (.cons (.var 14) .nil)))))))))) (.ite (.lt (.ite (.lt (.var 6) (.var 9)) (.var 9) (.var 6)) (.var 12)) (.var 12) (.ite (.lt (.var 6) (.var 9)) (.var 9) (.var 6))) (.lit 0)) (.cons (.ite (.app 2 0 (.cons (.var 6) (.cons (.var 7) (.cons (.var 8) (.cons (.var 9) (.cons (.var 10) (.cons (.var 11) (.cons (.var 12) (.cons (.var 13) (.cons (.var 14) .nil)))))))))) (.ite (.lt (.ite (.lt (.var 7) (.var 10)) (.var 10) (.var 7)) (.var 13)) (.var 13) (.ite (.lt (.var 7) (.var 10)) (.var 10) (.var 7))) (.lit 0)) (.cons (.ite (.app 2 0 (.cons (.var 6) (.cons (.var 7) (.cons (.var 8) (.cons (.var 9) (.cons (.var 10) (.cons (.var 11) (.cons (.var 12) (.cons (.var 13) (.cons (.var 14) .nil)))))))))) (.ite (.lt (.ite (.lt (.var 8) (.var 11)) (.var 11) (.var 8)) (.var 14)) (.var 14) (.ite (.lt (.var 8) (.var 11)) (.var 11) (.var 8))) (.lit 0)) .nil))))))))))))) (.blit true)) (.blit false)) (.blit false)) (.blit true)) (.blit false)))
theorem k_SlabHit : acall cs4 20 false 14 [] (argsG [.g 3, .g 3, .g 9] 0 0) (heapG [.g 3, .g 3, .g 9] 0) = .leaf (R_SlabHit, heapG [.g 3, .g 3, .g 9] 0) := by kernel_rfl
set_option maxHeartbeats 4000000 in
set_option maxRecDepth 20000 in
theorem v_SlabHit : ∀ l : List Int, l.length = lenSh [.g 3, .g 3, .g 9] → Any l → valOf (E.at l) R_SlabHit = some (tupleV (resV E 20 l [.b] 0 0)) := by
  intro l hl hG
  have h0 : l.length = 15 := hl
  clear hl
  obtain ⟨a0, l1, rfl, h1⟩ := cut1 h0
  clear h0
  obtain ⟨a1, l2, rfl, h2⟩ := cut1 h1
  clear h1
  obtain ⟨a2, l3, rfl, h3⟩ := cut1 h2
  clear h2
  obtain ⟨a3, l4, rfl, h4⟩ := cut1 h3
  clear h3
  obtain ⟨a4, l5, rfl, h5⟩ := cut1 h4
  clear h4
  obtain ⟨a5, l6, rfl, h6⟩ := cut1 h5
  clear h5
  obtain ⟨a6, l7, rfl, h7⟩ := cut1 h6
  clear h6
  obtain ⟨a7, l8, rfl, h8⟩ := cut1 h7
  clear h7
  obtain ⟨a8, l9, rfl, h9⟩ := cut1 h8
  clear h8
  obtain ⟨a9, l10, rfl, h10⟩ := cut1 h9
  clear h9
  obtain ⟨a10, l11, rfl, h11⟩ := cut1 h10
  clear h10
  obtain ⟨a11, l12, rfl, h12⟩ := cut1 h11
  clear h11
  obtain ⟨a12, l13, rfl, h13⟩ := cut1 h12
  clear h12
  obtain ⟨a13, l14, rfl, h14⟩ := cut1 h13
  clear h13
  obtain ⟨a14, l15, rfl, h15⟩ := cut1 h14
  clear h14
  obtain rfl := cut0 h15
  clear h15
  simp only [R_SlabHit, valOf, vals1, valInts, val1, tupleV, resV, valsI, den, bt1, bt2, bt3, bt4, Env.at, E, fb, fi, List.getD_cons_zero, List.getD_cons_succ, List.all_cons, List.all_nil, Bool.and_true, nr', us', ss', nr2, us2, ss2, nr3, us3, ss3, Bool.and_assoc, Option.map_some, List.all_append, List.take_succ_cons, List.take_zero, List.drop_succ_cons, List.drop_zero, minI, maxI, vA, vB, r0, r1, r2]
  cases c : (ss a0 && (ss a1 && (ss a2 && (ss a3 && (ss a4 && (ss a5 && (ss a6 && (ss a7 && (ss a8 && (ss a9 && (ss a10 && (ss a11 && (ss a12 && (ss a13 && (ss a14)))))))))))))))
  · simp
  simp only [Bool.and_eq_true] at c
  obtain ⟨h0, h1, h2, h3, h4, h5, h6, h7, h8, h9, h10, h11, h12, h13, h14⟩ := c
  simp only [h0, h1, h2, h3, h4, h5, h6, h7, h8, h9, h10, h11, h12, h13, h14, Bool.and_self, Bool.true_and, if_true]
  have s0 := sm_iff.1 h0
  have s1 := sm_iff.1 h1
  have s2 := sm_iff.1 h2
  have s3 := sm_iff.1 h3
  have s4 := sm_iff.1 h4
  have s5 := sm_iff.1 h5
  have s6 := sm_iff.1 h6
  have s7 := sm_iff.1 h7
  have s8 := sm_iff.1 h8
  have s9 := sm_iff.1 h9
  have s10 := sm_iff.1 h10
  have s11 := sm_iff.1 h11
  have s12 := sm_iff.1 h12
  have s13 := sm_iff.1 h13
  have s14 := sm_iff.1 h14
  have bx : Bx (min (min a6 a9) a12) (min (min a7 a10) a13) (min (min a8 a11) a14) (max (max a6 a9) a12) (max (max a7 a10) a13) (max (max a8 a11) a14) := by
    unfold Sm at s6 s7 s8 s9 s10 s11 s12 s13 s14
    constructor <;> (try unfold Sm) <;> omega
  have k : sis [min (min a6 a9) a12, min (min a7 a10) a13, min (min a8 a11) a14, max (max a6 a9) a12, max (max a7 a10) a13, max (max a8 a11) a14] = true := sis_iff.2 bx
  simp only [k, if_true, Bool.true_and]
  cases hx : hitB (volV [a6, a7, a8, a9, a10, a11, a12, a13, a14, a0, a1, a2]) (volV [a6, a7, a8, a9, a10, a11, a12, a13, a14, a3, a4, a5]) (volV [a0, a1, a2, a3, a4, a5, a6, a7, a8, a9, a10, a11]) (volV [a0, a1, a2, a3, a4, a5, a9, a10, a11, a12, a13, a14]) (volV [a0, a1, a2, a3, a4, a5, a12, a13, a14, a6, a7, a8])
  · simp
  · obtain ⟨hs, p, q, r, α, β, W⟩ := hit_wt hx
    have ha := W.ha; have hb := W.hb
    have m : meetB [a0, a1, a2, a3, a4, a5, min (min a6 a9) a12, min (min a7 a10) a13, min (min a8 a11) a14, max (max a6 a9) a12, max (max a7 a10) a13, max (max a8 a11) a14] = true := (meet_iff s0 s1 s2 s3 s4 s5 bx.sl0 bx.sl1 bx.sl2 bx.sh0 bx.sh1 bx.sh2).2 ⟨α, α + β, by omega, by omega, by omega, at_wt W.hp W.hq W.hr W.sum W.e0 (by omega) (by omega) (by omega), at_wt W.hp W.hq W.hr W.sum W.e1 (by omega) (by omega) (by omega), at_wt W.hp W.hq W.hr W.sum W.e2 (by omega) (by omega) (by omega)⟩
    simp only [m]
    rfl

theorem c_SlabHit (W : World) : Flat Try.prog E W Any 14 [.g 3, .g 3, .g 9] fun l => tupleV (resV E 20 l [.b] 0 0) := flat_val (cs4_ok W) k_SlabHit v_SlabHit

end Go.Proofs.Ytbgcjbhaaelkhaa.Sx
