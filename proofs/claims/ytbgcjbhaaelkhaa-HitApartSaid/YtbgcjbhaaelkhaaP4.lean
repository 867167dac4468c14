/- Contracts, reckoned. -/
import Derived.Test.YtbgcjbhaaelkhaaP2
import Derived.Test.YtbgcjbhaaelkhaaFw
import Derived.Test.YtbgcjbhaaelkhaaHp
import Derived.KernelRfl
set_option linter.unusedVariables false
set_option linter.unusedSimpArgs false
namespace Go.Proofs.Ytbgcjbhaaelkhaa.Sx
open Go.RowKit


def S0_HitApart : SE := (.cons (.var 3) (.cons (.var 4) (.cons (.var 5) (.cons (.var 6) (.cons (.var 7) (.cons (.var 8) (.cons (.var 9) (.cons (.var 10) (.cons (.var 11) (.cons (.var 12) (.cons (.var 13) (.cons (.var 14) .nil))))))))))))
def S1_HitApart : SE := (.app 16 0 (.cons (.var 0) (.cons (.var 1) (.cons (.var 2) S0_HitApart))))
def S2_HitApart : SE := (.ite (.lt (.ite (.lt (.var 0) (.var 3)) (.var 3) (.var 0)) (.ite (.lt (.var 12) (.ite (.lt (.var 9) (.var 6)) (.var 9) (.var 6))) (.var 12) (.ite (.lt (.var 9) (.var 6)) (.var 9) (.var 6)))) S1_HitApart S1_HitApart)
def S3_HitApart : SE := (.ite (.ite (.lt (.ite (.lt (.var 0) (.var 3)) (.var 3) (.var 0)) (.ite (.lt (.var 12) (.ite (.lt (.var 9) (.var 6)) (.var 9) (.var 6))) (.var 12) (.ite (.lt (.var 9) (.var 6)) (.var 9) (.var 6)))) (.blit true) (.lt (.ite (.lt (.ite (.lt (.var 6) (.var 9)) (.var 9) (.var 6)) (.var 12)) (.var 12) (.ite (.lt (.var 6) (.var 9)) (.var 9) (.var 6))) (.ite (.lt (.var 3) (.var 0)) (.var 3) (.var 0)))) S2_HitApart (.ite (.lt (.ite (.lt (.var 1) (.var 4)) (.var 4) (.var 1)) (.ite (.lt (.var 13) (.ite (.lt (.var 10) (.var 7)) (.var 10) (.var 7))) (.var 13) (.ite (.lt (.var 10) (.var 7)) (.var 10) (.var 7)))) S2_HitApart S2_HitApart))
def R_HitApart : AV := (.bool (.ite (.eq S1_HitApart (.lit 0)) (.ite (.app 20 0 .nil) (.ite (.eq (.app 15 1 (.cons (.var 0) (.cons (.var 1) (.cons (.var 2) (.cons (.var 6) (.cons (.var 7) (.cons (.var 8) (.cons (.var 9) (.cons (.var 10) (.cons (.var 11) (.cons (.var 12) (.cons (.var 13) (.cons (.var 14) .nil))))))))))))) (.lit 0)) (.ite (.eq (.app 15 1 S0_HitApart) (.lit 0)) (.ite (.ite (.ite (.ite (.lt (.ite (.lt (.var 0) (.var 3)) (.var 3) (.var 0)) (.ite (.lt (.var 12) (.ite (.lt (.var 9) (.var 6)) (.var 9) (.var 6))) (.var 12) (.ite (.lt (.var 9) (.var 6)) (.var 9) (.var 6)))) (.blit true) (.lt (.ite (.lt (.ite (.lt (.var 6) (.var 9)) (.var 9) (.var 6)) (.var 12)) (.var 12) (.ite (.lt (.var 6) (.var 9)) (.var 9) (.var 6))) (.ite (.lt (.var 3) (.var 0)) (.var 3) (.var 0)))) (.blit true) (.ite (.lt (.ite (.lt (.var 1) (.var 4)) (.var 4) (.var 1)) (.ite (.lt (.var 13) (.ite (.lt (.var 10) (.var 7)) (.var 10) (.var 7))) (.var 13) (.ite (.lt (.var 10) (.var 7)) (.var 10) (.var 7)))) (.blit true) (.lt (.ite (.lt (.ite (.lt (.var 7) (.var 10)) (.var 10) (.var 7)) (.var 13)) (.var 13) (.ite (.lt (.var 7) (.var 10)) (.var 10) (.var 7))) (.ite (.lt (.var 4) (.var 1)) (.var 4) (.var 1))))) (.blit true) (.ite (.lt (.ite (.lt (.var 2) (.var 5)) (.var 5) (.var 2)) (.ite (.lt (.var 14) (.ite (.lt (.var 11) (.var 8)) (.var 11) (.var 8))) (.var 14) (.ite (.lt (.var 11) (.var 8)) (.var 11) (.var 8)))) (.blit true) (.lt (.ite (.lt (.ite (.lt (.var 8) (.var 11)) (.var 11) (.var 8)) (.var 14)) (.var 14) (.ite (.lt (.var 8) (.var 11)) (.var 11) (.var 8))) (.ite (.lt (.var 5) (.var 2)) (.var 5) (.var 2))))) (.ite (.ite (.ite (.ite (.lt (.ite (.lt (.var 0) (.var 3)) (.var 3) (.var 0)) (.ite (.lt (.var 12) (.ite (.lt (.var 9) (.var 6)) (.var 9) (.var 6))) (.var 12) (.ite (.lt (.var 9) (.var 6)) (.var 9) (.var 6)))) (.blit true) (.lt (.ite (.lt (.ite (.lt (.var 6) (.var 9)) (.var 9) (.var 6)) (.var 12)) (.var 12) (.ite (.lt (.var 6) (.var 9)) (.var 9) (.var 6))) (.ite (.lt (.var 3) (.var 0)) (.var 3) (.var 0)))) (.blit true) (.ite (.lt (.ite (.lt (.var 1) (.var 4)) (.var 4) (.var 1)) (.ite (.lt (.var 13) (.ite (.lt (.var 10) (.var 7)) (.var 10) (.var 7))) (.var 13) (.ite (.lt (.var 10) (.var 7)) (.var 10) (.var 7)))) (.blit true) (.lt (.ite (.lt (.ite (.lt (.var 7) (.var 10)) (.var 10) (.var 7)) (.var 13)) (.var 13) (.ite (.lt (.var 7) (.var 10)) (.var 10) (.var 7))) (.ite (.lt (.var 4) (.var 1)) (.var 4) (.var 1))))) S3_HitApart (.ite (.lt (.ite (.lt (.var 2) (.var 5)) (.var 5) (.var 2)) (.ite (.lt (.var 14) (.ite (.lt (.var 11) (.var 8)) (.var 11) (.var 8))) (.var 14) (.ite (.lt (.var 11) (.var 8)) (.var 11) (.var 8)))) S3_HitApart S3_HitApart)) (.blit false) (.ite (.lt (.mul (.app 15 0 (.cons (.var 0) (.cons (.var 1) (.cons (.var 2) (.cons (.var 6) (.cons (.var 7) (.cons (.var 8) (.cons (.var 9) (.cons (.var 10) (.cons (.var 11) (.cons (.var 12) (.cons (.var 13) (.cons (.var 14) .nil))))))))))))) (.app 15 0 S0_HitApart)) (.lit 0)) (.blit true) (.no (.ite (.ite (.ite (.lt (.ite (.lt (.var 0) (.var 3)) (.var 3) (.var 0)) (.ite (.lt (.var 12) (.ite (.lt (.var 9) (.var 6)) (.var 9) (.var 6))) (.var 12) (.ite (.lt (.var 9) (.var 6)) (.var 9) (.var 6)))) (.blit true) (.lt (.ite (.lt (.ite (.lt (.var 6) (.var 9)) (.var 9) (.var 6)) (.var 12)) (.var 12) (.ite (.lt (.var 6) (.var 9)) (.var 9) (.var 6))) (.ite (.lt (.var 3) (.var 0)) (.var 3) (.var 0)))) (.blit true) (.ite (.lt (.ite (.lt (.var 1) (.var 4)) (.var 4) (.var 1)) (.ite (.lt (.var 13) (.ite (.lt (.var 10) (.var 7)) (.var 10) (.var 7))) (.var 13) (.ite (.lt (.var 10) (.var 7)) (.var 10) (.var 7)))) (.blit true) (.lt (.ite (.lt (.ite (.lt (.var 7) (.var 10)) (.var 10) (.var 7)) (.var 13)) (.var 13) (.ite (.lt (.var 7) (.var 10)) (.var 10) (.var 7))) (.ite (.lt (.var 4) (.var 1)) (.var 4) (.var 1))))) S3_HitApart (.ite (.lt (.ite (.lt (.var 2) (.var 5)) (.var 5) (.var 2)) (.ite (.lt (.var 14) (.ite (.lt (.var 11) (.var 8)) (.var 11) (.var 8))) (.var 14) (.ite (.lt (.var 11) (.var 8)) (.var 11) (.var 8)))) S3_HitApart S3_HitApart))))) (.ite (.lt (.mul (.app 15 0 (.cons (.var 0) (.cons (.var 1) (.cons (.var 2) (.cons (.var 6) (.cons (.var 7) (.cons (.var 8) (.cons (.var 9) (.cons (.var 10) (.cons (.var 11) (.cons (.var 12) (.cons (.var 13) (.cons (.var 14) .nil))))))))))))) (.app 15 0 S0_HitApart)) (.lit 0)) (.blit true) (.no (.ite (.ite (.ite (.lt (.ite (.lt (.var 0) (.var 3)) (.var 3) (.var 0)) (.ite (.lt (.var 12) (.ite (.lt (.var 9) (.var 6)) (.var 9) (.var 6))) (.var 12) (.ite (.lt (.var 9) (.var 6)) (.var 9) (.var 6)))) (.blit true) (.lt (.ite (.lt (.ite (.lt (.var 6) (.var 9)) (.var 9) (.var 6)) (.var 12)) (.var 12) (.ite (.lt (.var 6) (.var 9)) (.var 9) (.var 6))) (.ite (.lt (.var 3) (.var 0)) (.var 3) (.var 0)))) (.blit true) (.ite (.lt (.ite (.lt (.var 1) (.var 4)) (.var 4) (.var 1)) (.ite (.lt (.var 13) (.ite (.lt (.var 10) (.var 7)) (.var 10) (.var 7))) (.var 13) (.ite (.lt (.var 10) (.var 7)) (.var 10) (.var 7)))) (.blit true) (.lt (.ite (.lt (.ite (.lt (.var 7) (.var 10)) (.var 10) (.var 7)) (.var 13)) (.var 13) (.ite (.lt (.var 7) (.var 10)) (.var 10) (.var 7))) (.ite (.lt (.var 4) (.var 1)) (.var 4) (.var 1))))) S3_HitApart (.ite (.lt (.ite (.lt (.var 2) (.var 5)) (.var 5) (.var 2)) (.ite (.lt (.var 14) (.ite (.lt (.var 11) (.var 8)) (.var 11) (.var 8))) (.var 14) (.ite (.lt (.var 11) (.var 8)) (.var 11) (.var 8)))) S3_HitApart S3_HitApart))))) (.blit false)) (.blit false)) (.blit false)) (.ite (.app 20 0 .nil) (.ite S1_HitApart (.blit false) (.no (.app 2 0 (.cons (.var 0) (.cons (.var 1) (.cons (.var 2) S0_HitApart)))))) (.blit false))))
theorem k_HitApart : acall cy2 20 false 4 [] (argsG [.g 3, .g 3, .g 9] 0 0) (heapG [.g 3, .g 3, .g 9] 0) = .leaf (R_HitApart, heapG [.g 3, .g 3, .g 9] 0) := by kernel_rfl
set_option maxHeartbeats 4000000 in
set_option maxRecDepth 20000 in
theorem v_HitApart : ∀ l : List Int, l.length = lenSh [.g 3, .g 3, .g 9] → Any l → valOf (E.at l) R_HitApart = some (tupleV (resV E 20 l [.b] 0 0)) := by
  intro l hl hG
  have h0 : l.length = 15 := hl
  clear hl
  obtain ⟨a0, l1, rfl, h1⟩ := cut1 h0
  clear h0
  obtain ⟨a1, l2, rfl, h2⟩ := cut1 h1
  clear h1
  obtain ⟨a2, l3, rfl, h3⟩ := cut1 h2
  clear h2
  obtain ⟨a3, l4, rfl, h4⟩ := cut1 h3
  clear h3
  obtain ⟨a4, l5, rfl, h5⟩ := cut1 h4
  clear h4
  obtain ⟨a5, l6, rfl, h6⟩ := cut1 h5
  clear h5
  obtain ⟨a6, l7, rfl, h7⟩ := cut1 h6
  clear h6
  obtain ⟨a7, l8, rfl, h8⟩ := cut1 h7
  clear h7
  obtain ⟨a8, l9, rfl, h9⟩ := cut1 h8
  clear h8
  obtain ⟨a9, l10, rfl, h10⟩ := cut1 h9
  clear h9
  obtain ⟨a10, l11, rfl, h11⟩ := cut1 h10
  clear h10
  obtain ⟨a11, l12, rfl, h12⟩ := cut1 h11
  clear h11
  obtain ⟨a12, l13, rfl, h13⟩ := cut1 h12
  clear h12
  obtain ⟨a13, l14, rfl, h14⟩ := cut1 h13
  clear h13
  obtain ⟨a14, l15, rfl, h15⟩ := cut1 h14
  clear h14
  obtain rfl := cut0 h15
  clear h15
  simp only [R_HitApart, S0_HitApart, S1_HitApart, S2_HitApart, S3_HitApart, valOf, vals1, valInts, val1, tupleV, resV, valsI, den, bt1, bt2, bt3, bt4, Env.at, E, fb, fi, List.getD_cons_zero, List.getD_cons_succ, List.all_cons, List.all_nil, Bool.and_true, nr', us', ss', nr2, us2, ss2, nr3, us3, ss3, Bool.and_assoc, Option.map_some, List.all_append, minI, maxI, sdV, vA, vB, r0, r1, r2]
  cases c : (ss a0 && (ss a1 && (ss a2 && (ss a3 && (ss a4 && (ss a5 && (ss a6 && (ss a7 && (ss a8 && (ss a9 && (ss a10 && (ss a11 && (ss a12 && (ss a13 && (ss a14)))))))))))))))
  · simp
    grind
  · simp only [Bool.and_eq_true] at c
    obtain ⟨h0, h1, h2, h3, h4, h5, h6, h7, h8, h9, h10, h11, h12, h13, h14⟩ := c
    simp only [h0, h1, h2, h3, h4, h5, h6, h7, h8, h9, h10, h11, h12, h13, h14, Bool.and_self, Bool.true_and, Bool.and_true, if_true]
    cases hx : hitB (volV [a6, a7, a8, a9, a10, a11, a12, a13, a14, a0, a1, a2]) (volV [a6, a7, a8, a9, a10, a11, a12, a13, a14, a3, a4, a5]) (volV [a0, a1, a2, a3, a4, a5, a6, a7, a8, a9, a10, a11]) (volV [a0, a1, a2, a3, a4, a5, a9, a10, a11, a12, a13, a14]) (volV [a0, a1, a2, a3, a4, a5, a12, a13, a14, a6, a7, a8])
    · simp
    · obtain ⟨hs, p, q, r, α, β, W⟩ := hit_wt hx
      have s0 := sep' W.hp W.hq W.hr W.ha W.hb W.sum W.e0
      have s1 := sep' W.hp W.hq W.hr W.ha W.hb W.sum W.e1
      have s2 := sep' W.hp W.hq W.hr W.ha W.hb W.sum W.e2
      have w : IntKind.i64.wrap (-1) = -1 := by decide
      simp only [hs, w]
      simp
      omega

theorem c_HitApart (W : World) : Flat Try.prog E W Any 4 [.g 3, .g 3, .g 9] fun l => tupleV (resV E 20 l [.b] 0 0) := flat_val (cy2_ok W) k_HitApart v_HitApart

end Go.Proofs.Ytbgcjbhaaelkhaa.Sx
