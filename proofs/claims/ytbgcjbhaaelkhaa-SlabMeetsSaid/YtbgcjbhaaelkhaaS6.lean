/- Contracts, reckoned. -/
import Derived.Test.YtbgcjbhaaelkhaaS4
import Derived.Test.YtbgcjbhaaelkhaaFw
import Derived.Test.YtbgcjbhaaelkhaaSm
import Derived.KernelRfl
set_option linter.unusedVariables false
set_option linter.unusedSimpArgs false
namespace Go.Proofs.Ytbgcjbhaaelkhaa.Sx
open Go.RowKit


def S0_SlabMeets : SE := (.lt (.ite (.lt (.var 0) (.var 3)) (.var 3) (.var 0)) (.var 6))
def S1_SlabMeets : SE := (.cons (.var 6) (.cons (.var 7) (.cons (.var 8) (.cons (.var 9) (.cons (.var 10) (.cons (.var 11) .nil))))))
def S2_SlabMeets : SE := (.cons (.var 6) (.cons (.var 7) (.cons (.var 8) (.cons (.var 9) (.cons (.var 10) (.cons (.var 11) (.cons (.var 12) (.cons (.var 13) (.cons (.var 14) (.cons (.var 15) (.cons (.var 16) (.cons (.var 17) .nil))))))))))))
def S3_SlabMeets : SE := (.app 54 0 (.cons (.var 0) (.cons (.var 1) (.cons (.var 2) (.cons (.var 3) (.cons (.var 4) (.cons (.var 5) S1_SlabMeets)))))))
def S4_SlabMeets : SE := (.app 54 0 (.cons (.var 3) (.cons (.var 4) (.cons (.var 5) (.cons (.var 0) (.cons (.var 1) (.cons (.var 2) S1_SlabMeets)))))))
def S5_SlabMeets : SE := (.eq S3_SlabMeets (.lit 0))
def S6_SlabMeets : SE := (.ite (.eq S3_SlabMeets S4_SlabMeets) (.ite (.ite S3_SlabMeets (.no S4_SlabMeets) S4_SlabMeets) S3_SlabMeets (.ite S5_SlabMeets S3_SlabMeets S3_SlabMeets)) S3_SlabMeets)
def S7_SlabMeets : SE := (.ite (.lt (.var 10) (.ite (.lt (.var 4) (.var 1)) (.var 4) (.var 1))) S6_SlabMeets (.blit false))
def S8_SlabMeets : SE := (.ite (.lt (.var 10) (.ite (.lt (.var 4) (.var 1)) (.var 4) (.var 1))) S6_SlabMeets S6_SlabMeets)
def R_SlabMeets : AV := (.bool (.ite (.ite (.eq S3_SlabMeets S4_SlabMeets) (.ite (.ite S3_SlabMeets (.no S4_SlabMeets) S4_SlabMeets) (.blit true) (.ite S5_SlabMeets (.blit false) S3_SlabMeets)) (.blit true)) (.blit false) (.ite S5_SlabMeets (.ite (.ite (.ite (.app 53 0 S1_SlabMeets) (.ite (.ite (.lt (.var 0) (.var 6)) (.blit true) (.lt (.var 9) (.var 0))) (.blit false) (.ite (.ite (.lt (.var 1) (.var 7)) (.blit true) (.lt (.var 10) (.var 1))) (.blit false) (.no (.ite (.lt (.var 2) (.var 8)) (.blit true) (.lt (.var 11) (.var 2)))))) (.blit false)) (.ite S6_SlabMeets (.ite S0_SlabMeets (.blit true) S7_SlabMeets) (.blit true)) (.ite (.ite (.app 53 0 S1_SlabMeets) (.ite (.ite (.lt (.var 3) (.var 6)) (.blit true) (.lt (.var 9) (.var 3))) (.blit false) (.ite (.ite (.lt (.var 4) (.var 7)) (.blit true) (.lt (.var 10) (.var 4))) (.blit false) (.no (.ite (.lt (.var 5) (.var 8)) (.blit true) (.lt (.var 11) (.var 5)))))) (.blit false)) (.ite S6_SlabMeets (.ite S0_SlabMeets (.blit true) S7_SlabMeets) (.blit true)) (.ite S0_SlabMeets (.ite S6_SlabMeets (.blit true) S7_SlabMeets) S7_SlabMeets))) (.blit false) (.ite (.app 20 0 .nil) (.ite (.eq (.app 55 6 S2_SlabMeets) (.lit 0)) (.ite (.eq (.app 54 0 (.cons (.var 0) (.cons (.var 1) (.cons (.var 2) (.cons (.var 3) (.cons (.var 4) (.cons (.var 5) (.cons (.app 55 0 S2_SlabMeets) (.cons (.app 55 1 S2_SlabMeets) (.cons (.app 55 2 S2_SlabMeets) (.cons (.app 55 3 S2_SlabMeets) (.cons (.app 55 4 S2_SlabMeets) (.cons (.app 55 5 S2_SlabMeets) .nil))))))))))))) (.lit 0)) (.ite (.ite (.ite (.app 53 0 S1_SlabMeets) (.ite (.ite (.lt (.var 0) (.var 6)) (.blit true) (.lt (.var 9) (.var 0))) (.blit false) (.ite (.ite (.lt (.var 1) (.var 7)) (.blit true) (.lt (.var 10) (.var 1))) (.blit false) (.no (.ite (.lt (.var 2) (.var 8)) (.blit true) (.lt (.var 11) (.var 2)))))) (.blit false)) (.ite S6_SlabMeets (.ite S0_SlabMeets S6_SlabMeets S8_SlabMeets) S6_SlabMeets) (.ite (.ite (.app 53 0 S1_SlabMeets) (.ite (.ite (.lt (.var 3) (.var 6)) (.blit true) (.lt (.var 9) (.var 3))) (.blit false) (.ite (.ite (.lt (.var 4) (.var 7)) (.blit true) (.lt (.var 10) (.var 4))) (.blit false) (.no (.ite (.lt (.var 5) (.var 8)) (.blit true) (.lt (.var 11) (.var 5)))))) (.blit false)) (.ite S6_SlabMeets (.ite S0_SlabMeets S6_SlabMeets S8_SlabMeets) S6_SlabMeets) (.ite S0_SlabMeets (.ite S6_SlabMeets S6_SlabMeets S8_SlabMeets) S8_SlabMeets))) (.app 54 0 (.cons (.var 0) (.cons (.var 1) (.cons (.var 2) (.cons (.var 3) (.cons (.var 4) (.cons (.var 5) (.cons (.app 55 0 S2_SlabMeets) (.cons (.app 55 1 S2_SlabMeets) (.cons (.app 55 2 S2_SlabMeets) (.cons (.app 55 3 S2_SlabMeets) (.cons (.app 55 4 S2_SlabMeets) (.cons (.app 55 5 S2_SlabMeets) .nil))))))))))))) (.blit true)) (.blit false)) (.blit true)) (.blit false))) (.app 20 0 .nil))))
theorem k_SlabMeets : acall cs4 20 false 12 [] (argsG [.g 3, .g 3, .g 6, .g 6] 0 0) (heapG [.g 3, .g 3, .g 6, .g 6] 0) = .leaf (R_SlabMeets, heapG [.g 3, .g 3, .g 6, .g 6] 0) := by kernel_rfl
set_option maxHeartbeats 4000000 in
set_option maxRecDepth 20000 in
theorem v_SlabMeets : ∀ l : List Int, l.length = lenSh [.g 3, .g 3, .g 6, .g 6] → Any l → valOf (E.at l) R_SlabMeets = some (tupleV (resV E 20 l [.b] 0 0)) := by
  intro l hl hG
  have h0 : l.length = 18 := hl
  clear hl
  obtain ⟨a0, l1, rfl, h1⟩ := cut1 h0
  clear h0
  obtain ⟨a1, l2, rfl, h2⟩ := cut1 h1
  clear h1
  obtain ⟨a2, l3, rfl, h3⟩ := cut1 h2
  clear h2
  obtain ⟨a3, l4, rfl, h4⟩ := cut1 h3
  clear h3
  obtain ⟨a4, l5, rfl, h5⟩ := cut1 h4
  clear h4
  obtain ⟨a5, l6, rfl, h6⟩ := cut1 h5
  clear h5
  obtain ⟨a6, l7, rfl, h7⟩ := cut1 h6
  clear h6
  obtain ⟨a7, l8, rfl, h8⟩ := cut1 h7
  clear h7
  obtain ⟨a8, l9, rfl, h9⟩ := cut1 h8
  clear h8
  obtain ⟨a9, l10, rfl, h10⟩ := cut1 h9
  clear h9
  obtain ⟨a10, l11, rfl, h11⟩ := cut1 h10
  clear h10
  obtain ⟨a11, l12, rfl, h12⟩ := cut1 h11
  clear h11
  obtain ⟨a12, l13, rfl, h13⟩ := cut1 h12
  clear h12
  obtain ⟨a13, l14, rfl, h14⟩ := cut1 h13
  clear h13
  obtain ⟨a14, l15, rfl, h15⟩ := cut1 h14
  clear h14
  obtain ⟨a15, l16, rfl, h16⟩ := cut1 h15
  clear h15
  obtain ⟨a16, l17, rfl, h17⟩ := cut1 h16
  clear h16
  obtain ⟨a17, l18, rfl, h18⟩ := cut1 h17
  clear h17
  obtain rfl := cut0 h18
  clear h18
  have u1 : (ss a3 && (ss a4 && (ss a5 && (ss a0 && (ss a1 && (ss a2)))))) = (ss a0 && (ss a1 && (ss a2 && (ss a3 && (ss a4 && (ss a5)))))) := by ac_rfl
  have t0 : ∀ X : Bool, (ss a0 && (ss a1 && (ss a2 && (ss a3 && (ss a4 && (ss a5 && (X))))))) = ((ss a0 && (ss a1 && (ss a2 && (ss a3 && (ss a4 && (ss a5)))))) && X) := fun X => by simp only [Bool.and_assoc]
  have t1 : ∀ X : Bool, (ss a3 && (ss a4 && (ss a5 && (ss a0 && (ss a1 && (ss a2 && (X))))))) = ((ss a0 && (ss a1 && (ss a2 && (ss a3 && (ss a4 && (ss a5)))))) && X) := fun X => by rw [← u1]; simp only [Bool.and_assoc]
  simp only [R_SlabMeets, S0_SlabMeets, S1_SlabMeets, S2_SlabMeets, S3_SlabMeets, S4_SlabMeets, S5_SlabMeets, S6_SlabMeets, S7_SlabMeets, S8_SlabMeets, valOf, vals1, valInts, val1, tupleV, resV, valsI, den, bt1, bt2, bt3, bt4, Env.at, E, fb, fi, List.getD_cons_zero, List.getD_cons_succ, List.all_cons, List.all_nil, Bool.and_true, nr', us', ss', nr2, us2, ss2, nr3, us3, ss3, Bool.and_assoc, Option.map_some, List.all_append, List.take_succ_cons, List.take_zero, List.drop_succ_cons, List.drop_zero, minI, maxI]
  simp only [u1, t0, t1]
  cases c : (ss a0 && (ss a1 && (ss a2 && (ss a3 && (ss a4 && (ss a5))))))
  · simp
  cases k : sis [a6, a7, a8, a9, a10, a11]
  · simp
  simp only [Bool.and_eq_true] at c
  obtain ⟨h0, h1, h2, h3, h4, h5⟩ := c
  have s0 := sm_iff.1 h0; have s1 := sm_iff.1 h1; have s2 := sm_iff.1 h2; have s3 := sm_iff.1 h3; have s4 := sm_iff.1 h4; have s5 := sm_iff.1 h5
  have b := sis_iff.1 k
  have mi := meet_iff s0 s1 s2 s3 s4 s5 b.sl0 b.sl1 b.sl2 b.sh0 b.sh1 b.sh2
  have e2 : meetB [a3, a4, a5, a0, a1, a2, a6, a7, a8, a9, a10, a11] = meetB [a0, a1, a2, a3, a4, a5, a6, a7, a8, a9, a10, a11] := meet_swap s0 s1 s2 s3 s4 s5 b
  have fa : (!(decide (a0 < a6) || decide (a9 < a0)) && (!(decide (a1 < a7) || decide (a10 < a1)) && !(decide (a2 < a8) || decide (a11 < a2)))) = true → meetB [a0, a1, a2, a3, a4, a5, a6, a7, a8, a9, a10, a11] = true := fun h => by
    simp only [Bool.and_eq_true, Bool.not_eq_true', Bool.or_eq_false_iff, decide_eq_false_iff_not] at h
    exact mi.2 ⟨0, 1, by decide, by decide, by decide, (at_end (by omega)).1, (at_end (by omega)).1, (at_end (by omega)).1⟩
  have fc : (!(decide (a3 < a6) || decide (a9 < a3)) && (!(decide (a4 < a7) || decide (a10 < a4)) && !(decide (a5 < a8) || decide (a11 < a5)))) = true → meetB [a0, a1, a2, a3, a4, a5, a6, a7, a8, a9, a10, a11] = true := fun h => by
    simp only [Bool.and_eq_true, Bool.not_eq_true', Bool.or_eq_false_iff, decide_eq_false_iff_not] at h
    exact mi.2 ⟨1, 1, by decide, by decide, by decide, (at_end (by omega)).2, (at_end (by omega)).2, (at_end (by omega)).2⟩
  have fl : meetB [a0, a1, a2, a3, a4, a5, a6, a7, a8, a9, a10, a11] = true → decide (max a0 a3 < a6) = false := fun h => by
    obtain ⟨x, y, y0, x0, x1, a, -, -⟩ := mi.1 h
    have := at_low y0 x0 x1 a
    simp only [decide_eq_false_iff_not]; omega
  have fh : meetB [a0, a1, a2, a3, a4, a5, a6, a7, a8, a9, a10, a11] = true → decide (a10 < min a1 a4) = false := fun h => by
    obtain ⟨x, y, y0, x0, x1, -, a, -⟩ := mi.1 h
    have := at_high y0 x0 x1 a
    simp only [decide_eq_false_iff_not]; omega
  have fu : sis [a12, a13, a14, a15, a16, a17] = true → sis [min a6 a12, min a7 a13, min a8 a14, max a9 a15, max a10 a16, max a11 a17] = true ∧ (meetB [a0, a1, a2, a3, a4, a5, a6, a7, a8, a9, a10, a11] = true → meetB [a0, a1, a2, a3, a4, a5, min a6 a12, min a7 a13, min a8 a14, max a9 a15, max a10 a16, max a11 a17] = true) := fun h => by
    have d := sis_iff.1 h
    have bu : Bx (min a6 a12) (min a7 a13) (min a8 a14) (max a9 a15) (max a10 a16) (max a11 a17) := by
      have c0 := b.sl0; have c1 := b.sl1; have c2 := b.sl2; have c3 := b.sh0; have c4 := b.sh1; have c5 := b.sh2; have c6 := b.le0; have c7 := b.le1; have c8 := b.le2
      have d0 := d.sl0; have d1 := d.sl1; have d2 := d.sl2; have d3 := d.sh0; have d4 := d.sh1; have d5 := d.sh2; have d6 := d.le0; have d7 := d.le1; have d8 := d.le2
      unfold Sm at c0 c1 c2 c3 c4 c5 d0 d1 d2 d3 d4 d5
      constructor <;> (try unfold Sm) <;> omega
    refine ⟨sis_iff.2 bu, fun hm => ?_⟩
    obtain ⟨x, y, y0, x0, x1, p0, p1, p2⟩ := mi.1 hm
    exact (meet_iff s0 s1 s2 s3 s4 s5 bu.sl0 bu.sl1 bu.sl2 bu.sh0 bu.sh1 bu.sh2).2 ⟨x, y, y0, x0, x1, at_more y0 (by omega) (by omega) p0, at_more y0 (by omega) (by omega) p1, at_more y0 (by omega) (by omega) p2⟩
  simp only [h0, h1, h2, h3, h4, h5, e2, Bool.and_self, Bool.true_and, if_true]
  clear mi e2 s0 s1 s2 s3 s4 s5 h0 h1 h2 h3 h4 h5 b u1 t0 t1
  generalize (!(decide (a0 < a6) || decide (a9 < a0)) && (!(decide (a1 < a7) || decide (a10 < a1)) && !(decide (a2 < a8) || decide (a11 < a2)))) = ia at *
  generalize (!(decide (a3 < a6) || decide (a9 < a3)) && (!(decide (a4 < a7) || decide (a10 < a4)) && !(decide (a5 < a8) || decide (a11 < a5)))) = ic at *
  generalize decide (max a0 a3 < a6) = l at *
  generalize decide (a10 < min a1 a4) = u at *
  cases kd : sis [a12, a13, a14, a15, a16, a17]
  · clear fu kd
    generalize meetB [a0, a1, a2, a3, a4, a5, a6, a7, a8, a9, a10, a11] = z at *
    cases z
    · cases ia
      · cases ic
        · clear fl fh fa fc
          cases l <;> cases u <;> rfl
        · cases fc rfl
      · cases fa rfl
    · rw [fl rfl, fh rfl]
      clear fl fh fa fc
      cases ia <;> cases ic <;> rfl
  · obtain ⟨ku, fm⟩ := fu kd
    simp only [if_true, if_false, Nat.reduceLT, ku]
    clear fu kd ku
    generalize meetB [a0, a1, a2, a3, a4, a5, a6, a7, a8, a9, a10, a11] = z at *
    generalize meetB [a0, a1, a2, a3, a4, a5, min a6 a12, min a7 a13, min a8 a14, max a9 a15, max a10 a16, max a11 a17] = zu at *
    cases z
    · cases ia
      · cases ic
        · clear fl fh fa fc fm
          cases l <;> cases u <;> cases zu <;> rfl
        · cases fc rfl
      · cases fa rfl
    · rw [fl rfl, fh rfl, fm rfl]
      clear fl fh fa fc fm
      cases ia <;> cases ic <;> rfl

theorem c_SlabMeets (W : World) : Flat Try.prog E W Any 12 [.g 3, .g 3, .g 6, .g 6] fun l => tupleV (resV E 20 l [.b] 0 0) := flat_val (cs4_ok W) k_SlabMeets v_SlabMeets

end Go.Proofs.Ytbgcjbhaaelkhaa.Sx
