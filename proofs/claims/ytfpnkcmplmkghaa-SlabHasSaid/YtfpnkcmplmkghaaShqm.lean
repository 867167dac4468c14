/- What the rest of SlabHas reckons to, and that it is true. -/
import Derived.Test.YtfpnkcmplmkghaaShpm
import Derived.Test.YtfpnkcmplmkghaaFw
import Derived.Test.YtfpnkcmplmkghaaSm
import Derived.KernelRfl
set_option linter.unusedVariables false
set_option linter.unusedSimpArgs false
namespace Go.Proofs.Ytfpnkcmplmkghaa.Sx
open Go.RowKit

def S0_Sh : SE := (.cons (.var 0) (.cons (.var 1) (.cons (.var 2) (.cons (.var 3) (.cons (.var 4) (.cons (.var 5) .nil))))))
def S1_Sh : SE := (.cons (.var 0) (.cons (.var 1) (.cons (.var 2) (.cons (.var 3) (.cons (.var 4) (.cons (.var 5) (.cons (.var 6) (.cons (.var 7) (.cons (.var 8) (.cons (.var 9) (.cons (.var 10) (.cons (.var 11) .nil))))))))))))
def S2_Sh : SE := (.cons (.var 6) (.cons (.var 7) (.cons (.var 8) (.cons (.var 9) (.cons (.var 10) (.cons (.var 11) S0_Sh))))))
def S3_Sh : SE := (.app 55 6 S1_Sh)
def S4_Sh : SE := (.app 55 0 S1_Sh)
def S5_Sh : SE := (.app 55 1 S1_Sh)
def S6_Sh : SE := (.app 55 2 S1_Sh)
def S7_Sh : SE := (.app 55 3 S1_Sh)
def S8_Sh : SE := (.app 55 4 S1_Sh)
def S9_Sh : SE := (.app 55 5 S1_Sh)
def S10_Sh : SE := (.cons S4_Sh (.cons S5_Sh (.cons S6_Sh (.cons S7_Sh (.cons S8_Sh (.cons S9_Sh S0_Sh))))))
def g_Sh : SE := (.eq S3_Sh (.lit 0))
def e1_Sh : SE := (.ite (.app 20 0 .nil) (.ite (.ite (.eq S4_Sh (.app 55 0 S2_Sh)) (.ite (.eq S5_Sh (.app 55 1 S2_Sh)) (.ite (.eq S6_Sh (.app 55 2 S2_Sh)) (.ite (.eq S7_Sh (.app 55 3 S2_Sh)) (.ite (.eq S8_Sh (.app 55 4 S2_Sh)) (.eq S9_Sh (.app 55 5 S2_Sh)) (.blit false)) (.blit false)) (.blit false)) (.blit false)) (.blit false)) (.ite (.eq (.app 55 6 S2_Sh) S3_Sh) (.ite (.eq (.app 55 6 S10_Sh) S3_Sh) (.ite (.ite (.eq (.app 55 0 S10_Sh) S4_Sh) (.ite (.eq (.app 55 1 S10_Sh) S5_Sh) (.ite (.eq (.app 55 2 S10_Sh) S6_Sh) (.ite (.eq (.app 55 3 S10_Sh) S7_Sh) (.ite (.eq (.app 55 4 S10_Sh) S8_Sh) (.eq (.app 55 5 S10_Sh) S9_Sh) (.blit false)) (.blit false)) (.blit false)) (.blit false)) (.blit false)) (.ite (.app 63 0 (.cons S4_Sh (.cons S5_Sh (.cons S6_Sh (.cons S7_Sh (.cons S8_Sh (.cons S9_Sh (.cons (.var 0) (.cons (.var 1) (.cons (.var 2) .nil)))))))))) (.ite (.app 63 0 (.cons S4_Sh (.cons S5_Sh (.cons S6_Sh (.cons S7_Sh (.cons S8_Sh (.cons S9_Sh (.cons (.var 3) (.cons (.var 4) (.cons (.var 5) .nil)))))))))) (.ite (.app 63 0 (.cons S4_Sh (.cons S5_Sh (.cons S6_Sh (.cons S7_Sh (.cons S8_Sh (.cons S9_Sh (.cons (.var 6) (.cons (.var 7) (.cons (.var 8) .nil)))))))))) (.app 63 0 (.cons S4_Sh (.cons S5_Sh (.cons S6_Sh (.cons S7_Sh (.cons S8_Sh (.cons S9_Sh (.cons (.var 9) (.cons (.var 10) (.cons (.var 11) .nil)))))))))) (.blit false)) (.blit false)) (.blit false)) (.blit false)) (.blit false)) (.blit false)) (.blit false)) (.blit false))
def e2_Sh : SE := (.ite (.app 20 0 .nil) (.ite (.eq (.app 55 6 S2_Sh) S3_Sh) (.ite (.app 53 0 S0_Sh) (.no (.app 53 0 (.cons (.var 6) (.cons (.var 7) (.cons (.var 8) (.cons (.var 9) (.cons (.var 10) (.cons (.var 11) .nil)))))))) (.blit true)) (.blit false)) (.blit false))
theorem k_Sh : run_Sh.map (lookT 6) = .node g_Sh (.leaf (true, some (.bool e1_Sh))) (.leaf (true, some (.bool e2_Sh))) := by kernel_rfl
theorem sis_join {a0 a1 a2 a3 a4 a5 a6 a7 a8 a9 a10 a11 : Int} (h : sis [a0, a1, a2, a3, a4, a5] = true) (k : sis [a6, a7, a8, a9, a10, a11] = true) : sis [min a0 a6, min a1 a7, min a2 a8, max a3 a9, max a4 a10, max a5 a11] = true := by
  have b1 := sis_iff.1 h; have b2 := sis_iff.1 k
  have s0 := b1.sl0; have s1 := b1.sl1; have s2 := b1.sl2; have s3 := b1.sh0; have s4 := b1.sh1; have s5 := b1.sh2
  have t0 := b2.sl0; have t1 := b2.sl1; have t2 := b2.sl2; have t3 := b2.sh0; have t4 := b2.sh1; have t5 := b2.sh2
  have c0 := b1.le0; have c1 := b1.le1; have c2 := b1.le2; have d0 := b2.le0; have d1 := b2.le1; have d2 := b2.le2
  unfold Sm at *
  refine sis_iff.2 ⟨?_, ?_, ?_, ?_, ?_, ?_, ?_, ?_, ?_⟩ <;> (try unfold Sm) <;> omega
set_option maxHeartbeats 4000000 in
theorem t1_Sh (a0 a1 a2 a3 a4 a5 a6 a7 a8 a9 a10 a11 : Int) (hg : ((E).at [a0, a1, a2, a3, a4, a5, a6, a7, a8, a9, a10, a11]).b g_Sh = true) : ((E).at [a0, a1, a2, a3, a4, a5, a6, a7, a8, a9, a10, a11]).b e1_Sh = true := by
  unfold Env.b at *
  simp only [S0_Sh, S1_Sh, S2_Sh, S3_Sh, S4_Sh, S5_Sh, S6_Sh, S7_Sh, S8_Sh, S9_Sh, S10_Sh, g_Sh, e1_Sh, e2_Sh, valOf, vals1, valInts, val1, tupleV, resV, valsI, den, bt1, bt2, bt3, bt4, Env.at, E, fb, fi, List.getD_cons_zero, List.getD_cons_succ, List.all_cons, List.all_nil, Bool.and_true, nr', us', ss', nr2, us2, ss2, nr3, us3, ss3, Bool.and_assoc, Option.map_some, List.all_append, List.take_succ_cons, List.take_zero, List.drop_succ_cons, List.drop_zero] at *
  cases k1 : sis [a0, a1, a2, a3, a4, a5] <;> cases k2 : sis [a6, a7, a8, a9, a10, a11]
  · simp [k1, k2] at hg
  · simp [k1, k2] at hg
  · simp [k1, k2] at hg
  have hu := sis_join k1 k2
  have b1 := sis_iff.1 k1; have b2 := sis_iff.1 k2
  have c0 := b1.le0; have c1 := b1.le1; have c2 := b1.le2; have d0 := b2.le0; have d1 := b2.le1; have d2 := b2.le2
  clear b1 b2 hg
  have e0 : min a6 a0 = min a0 a6 := by omega
  have m0 : min (min a0 a6) a0 = min a0 a6 := by omega
  have e1 : min a7 a1 = min a1 a7 := by omega
  have m1 : min (min a1 a7) a1 = min a1 a7 := by omega
  have e2 : min a8 a2 = min a2 a8 := by omega
  have m2 : min (min a2 a8) a2 = min a2 a8 := by omega
  have e3 : max a9 a3 = max a3 a9 := by omega
  have m3 : max (max a3 a9) a3 = max a3 a9 := by omega
  have e4 : max a10 a4 = max a4 a10 := by omega
  have m4 : max (max a4 a10) a4 = max a4 a10 := by omega
  have e5 : max a11 a5 = max a5 a11 := by omega
  have m5 : max (max a5 a11) a5 = max a5 a11 := by omega
  simp [hasB, k1, k2, hu, e0, m0, e1, m1, e2, m2, e3, m3, e4, m4, e5, m5]
  omega
set_option maxHeartbeats 4000000 in
theorem t2_Sh (a0 a1 a2 a3 a4 a5 a6 a7 a8 a9 a10 a11 : Int) (hg : ((E).at [a0, a1, a2, a3, a4, a5, a6, a7, a8, a9, a10, a11]).b g_Sh = false) : ((E).at [a0, a1, a2, a3, a4, a5, a6, a7, a8, a9, a10, a11]).b e2_Sh = true := by
  unfold Env.b at *
  simp only [S0_Sh, S1_Sh, S2_Sh, S3_Sh, S4_Sh, S5_Sh, S6_Sh, S7_Sh, S8_Sh, S9_Sh, S10_Sh, g_Sh, e1_Sh, e2_Sh, valOf, vals1, valInts, val1, tupleV, resV, valsI, den, bt1, bt2, bt3, bt4, Env.at, E, fb, fi, List.getD_cons_zero, List.getD_cons_succ, List.all_cons, List.all_nil, Bool.and_true, nr', us', ss', nr2, us2, ss2, nr3, us3, ss3, Bool.and_assoc, Option.map_some, List.all_append, List.take_succ_cons, List.take_zero, List.drop_succ_cons, List.drop_zero] at *
  cases k1 : sis [a0, a1, a2, a3, a4, a5] <;> cases k2 : sis [a6, a7, a8, a9, a10, a11] <;> simp [k1, k2] at hg ⊢

end Go.Proofs.Ytfpnkcmplmkghaa.Sx
