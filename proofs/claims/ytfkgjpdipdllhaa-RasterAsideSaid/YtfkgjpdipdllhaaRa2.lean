/- Contracts, reckoned. -/
import Derived.Test.YtfkgjpdipdllhaaAo
import Derived.KernelRfl
set_option linter.unusedVariables false
set_option linter.unusedSimpArgs false
namespace Go.Proofs.Ytfkgjpdipdllhaa.Sx
open Go.RowKit

theorem sqB_box {p q c t0 t1 t2 t3 t4 t5 : Int} (h : sqB [p, q, c, t0, t1, t2, t3, t4, t5] = true) : (min (min t0 t2) t4 ≤ p + c ∧ min (min t1 t3) t5 ≤ q + c) ∧ p ≤ max (max t0 t2) t4 ∧ q ≤ max (max t1 t3) t5 := by
  unfold sqB sqBox at h
  simp only [Bool.and_eq_true, decide_eq_true_eq, List.getD_cons_zero, List.getD_cons_succ] at h
  obtain ⟨⟨⟨a, b⟩, c, d⟩, _⟩ := h
  exact ⟨⟨a, b⟩, c, d⟩
theorem rgt_us {t0 t1 t2 t3 t4 t5 : Int} (h : rgt [t0, t1, t2, t3, t4, t5] = true) : us t0 = true ∧ us t1 = true ∧ us t2 = true ∧ us t3 = true ∧ us t4 = true ∧ us t5 = true := (rgt_iff.1 h).1
theorem sq_corners {p q c t0 t1 t2 t3 t4 t5 : Int} (h : rgt [t0, t1, t2, t3, t4, t5] = true) (hg : sqg [p, q, c] = true) (hc : (p ≤ t0 ∧ t0 ≤ p + c ∧ q ≤ t1 ∧ t1 ≤ q + c) ∨ (p ≤ t2 ∧ t2 ≤ p + c ∧ q ≤ t3 ∧ t3 ≤ q + c) ∨ (p ≤ t4 ∧ t4 ≤ p + c ∧ q ≤ t5 ∧ t5 ≤ q + c)) : sqB [p, q, c, t0, t1, t2, t3, t4, t5] = true := by
  obtain ⟨u0, u1, u2, u3, u4, u5⟩ := rgt_us h
  obtain ⟨k0, k1, k2⟩ := corners h
  rcases hc with ⟨a, b, c, d⟩ | ⟨a, b, c, d⟩ | ⟨a, b, c, d⟩
  · exact sq_has h hg u0 u1 (by rw [k0]; decide) a b c d
  · exact sq_has h hg u2 u3 (by rw [k1]; decide) a b c d
  · exact sq_has h hg u4 u5 (by rw [k2]; decide) a b c d
theorem mx_d (a b c : Int) : (if decide ((if decide (a < b) = true then b else a) < c) = true then c else if decide (a < b) = true then b else a) = max (max a b) c := by
  simp only [decide_eq_true_eq]; split <;> split at * <;> omega
theorem mn_d (a b c : Int) : (if decide (c < if decide (b < a) = true then b else a) = true then c else if decide (b < a) = true then b else a) = min (min a b) c := by
  simp only [decide_eq_true_eq]; split <;> split at * <;> omega

def S0_RasterAside : SE := (.le (.var 2) (.add (.mul (.lit 16) (.var 0)) (.lit 16)))
def S1_RasterAside : SE := (.le (.var 4) (.add (.mul (.lit 16) (.var 0)) (.lit 16)))
def S2_RasterAside : SE := (.le (.var 6) (.add (.mul (.lit 16) (.var 0)) (.lit 16)))
def S3_RasterAside : SE := (.app 56 0 (.cons (.var 2) (.cons (.var 3) (.cons (.var 4) (.cons (.var 5) (.cons (.var 6) (.cons (.var 7) .nil)))))))
def S4_RasterAside : SE := (.app 66 0 (.cons (.var 0) (.cons (.var 1) (.cons (.var 2) (.cons (.var 3) (.cons (.var 4) (.cons (.var 5) (.cons (.var 6) (.cons (.var 7) .nil)))))))))
def S5_RasterAside : SE := (.eq S4_RasterAside (.lit 5))
def S6_RasterAside : SE := (.ite (.le (.mul (.lit 16) (.var 0)) (.var 2)) (.ite S0_RasterAside (.ite (.le (.mul (.lit 16) (.var 1)) (.var 3)) (.le (.var 3) (.add (.mul (.lit 16) (.var 1)) (.lit 16))) (.blit false)) (.blit false)) (.blit false))
def S7_RasterAside : SE := (.ite S6_RasterAside (.blit true) (.ite (.le (.mul (.lit 16) (.var 0)) (.var 4)) (.ite S1_RasterAside (.ite (.le (.mul (.lit 16) (.var 1)) (.var 5)) (.le (.var 5) (.add (.mul (.lit 16) (.var 1)) (.lit 16))) (.blit false)) (.blit false)) (.blit false)))
def S8_RasterAside : SE := (.ite (.lt (.ite (.lt (.ite (.lt (.var 2) (.var 4)) (.var 4) (.var 2)) (.var 6)) (.var 6) (.ite (.lt (.var 2) (.var 4)) (.var 4) (.var 2))) (.mul (.lit 16) (.var 0))) (.blit true) (.ite (.lt (.add (.mul (.lit 16) (.var 0)) (.lit 16)) (.ite (.lt (.var 6) (.ite (.lt (.var 4) (.var 2)) (.var 4) (.var 2))) (.var 6) (.ite (.lt (.var 4) (.var 2)) (.var 4) (.var 2)))) (.blit true) (.ite (.lt (.ite (.lt (.ite (.lt (.var 3) (.var 5)) (.var 5) (.var 3)) (.var 7)) (.var 7) (.ite (.lt (.var 3) (.var 5)) (.var 5) (.var 3))) (.mul (.lit 16) (.var 1))) (.blit true) (.lt (.add (.mul (.lit 16) (.var 1)) (.lit 16)) (.ite (.lt (.var 7) (.ite (.lt (.var 5) (.var 3)) (.var 5) (.var 3))) (.var 7) (.ite (.lt (.var 5) (.var 3)) (.var 5) (.var 3)))))))
def S9_RasterAside : SE := (.ite (.lt (.ite (.lt (.ite (.lt (.var 2) (.var 4)) (.var 4) (.var 2)) (.var 6)) (.var 6) (.ite (.lt (.var 2) (.var 4)) (.var 4) (.var 2))) (.mul (.lit 16) (.var 0))) S4_RasterAside (.ite (.lt (.add (.mul (.lit 16) (.var 0)) (.lit 16)) (.ite (.lt (.var 6) (.ite (.lt (.var 4) (.var 2)) (.var 4) (.var 2))) (.var 6) (.ite (.lt (.var 4) (.var 2)) (.var 4) (.var 2)))) S4_RasterAside (.ite (.lt (.ite (.lt (.ite (.lt (.var 3) (.var 5)) (.var 5) (.var 3)) (.var 7)) (.var 7) (.ite (.lt (.var 3) (.var 5)) (.var 5) (.var 3))) (.mul (.lit 16) (.var 1))) S4_RasterAside S4_RasterAside)))
def S10_RasterAside : SE := (.ite (.le (.mul (.lit 16) (.var 0)) (.var 2)) (.ite S0_RasterAside (.ite (.le (.mul (.lit 16) (.var 1)) (.var 3)) S8_RasterAside S8_RasterAside) S8_RasterAside) S8_RasterAside)
def S11_RasterAside : SE := (.ite (.le (.mul (.lit 16) (.var 0)) (.var 2)) (.ite S0_RasterAside (.ite (.le (.mul (.lit 16) (.var 1)) (.var 3)) S9_RasterAside S9_RasterAside) S9_RasterAside) S9_RasterAside)
def S12_RasterAside : SE := (.ite S6_RasterAside S10_RasterAside (.ite (.le (.mul (.lit 16) (.var 0)) (.var 4)) (.ite S1_RasterAside (.ite (.le (.mul (.lit 16) (.var 1)) (.var 5)) S10_RasterAside S10_RasterAside) S10_RasterAside) S10_RasterAside))
def S13_RasterAside : SE := (.ite S6_RasterAside S11_RasterAside (.ite (.le (.mul (.lit 16) (.var 0)) (.var 4)) (.ite S1_RasterAside (.ite (.le (.mul (.lit 16) (.var 1)) (.var 5)) S11_RasterAside S11_RasterAside) S11_RasterAside) S11_RasterAside))
def R_RasterAside : AV := (.bool (.ite (.eq S4_RasterAside (.lit 0)) (.ite (.app 20 0 .nil) (.ite (.ite S7_RasterAside S12_RasterAside (.ite (.le (.mul (.lit 16) (.var 0)) (.var 6)) (.ite S2_RasterAside (.ite (.le (.mul (.lit 16) (.var 1)) (.var 7)) S12_RasterAside S12_RasterAside) S12_RasterAside) S12_RasterAside)) (.ite (.ite S7_RasterAside S13_RasterAside (.ite (.le (.mul (.lit 16) (.var 0)) (.var 6)) (.ite S2_RasterAside (.ite (.le (.mul (.lit 16) (.var 1)) (.var 7)) S13_RasterAside S13_RasterAside) S13_RasterAside) S13_RasterAside)) (.blit false) (.ite (.ite S7_RasterAside (.blit true) (.ite (.le (.mul (.lit 16) (.var 0)) (.var 6)) (.ite S2_RasterAside (.ite (.le (.mul (.lit 16) (.var 1)) (.var 7)) (.le (.var 7) (.add (.mul (.lit 16) (.var 1)) (.lit 16))) (.blit false)) (.blit false)) (.blit false))) (.blit false) S3_RasterAside)) (.ite (.ite S7_RasterAside (.blit true) (.ite (.le (.mul (.lit 16) (.var 0)) (.var 6)) (.ite S2_RasterAside (.ite (.le (.mul (.lit 16) (.var 1)) (.var 7)) (.le (.var 7) (.add (.mul (.lit 16) (.var 1)) (.lit 16))) (.blit false)) (.blit false)) (.blit false))) (.ite (.ite S7_RasterAside S13_RasterAside (.ite (.le (.mul (.lit 16) (.var 0)) (.var 6)) (.ite S2_RasterAside (.ite (.le (.mul (.lit 16) (.var 1)) (.var 7)) S13_RasterAside S13_RasterAside) S13_RasterAside) S13_RasterAside)) S3_RasterAside (.blit false)) S3_RasterAside)) (.blit false)) (.ite (.app 20 0 .nil) (.ite S4_RasterAside (.blit false) (.ite (.lt (.var 0) (.lit 0)) S5_RasterAside (.ite (.lt (.lit 255) (.var 0)) S5_RasterAside (.ite (.lt (.var 1) (.lit 0)) S5_RasterAside (.ite S5_RasterAside (.lt (.lit 255) (.var 1)) (.no (.lt (.lit 255) (.var 1)))))))) (.blit false))))
theorem k_RasterAside : acall crx2 20 false 5 [] (argsG [.i, .i, .g 6] 0 0) (heapG [.i, .i, .g 6] 0) = .leaf (R_RasterAside, heapG [.i, .i, .g 6] 0) := by kernel_rfl
set_option maxHeartbeats 4000000 in
set_option maxRecDepth 20000 in
theorem v_RasterAside : ∀ l : List Int, l.length = lenSh [.i, .i, .g 6] → Any l → valOf (E.at l) R_RasterAside = some (tupleV (resV E 20 l [.b] 0 0)) := by
  intro l hl hG
  have h0 : l.length = 8 := hl
  clear hl
  obtain ⟨a0, l1, rfl, h1⟩ := cut1 h0
  clear h0
  obtain ⟨a1, l2, rfl, h2⟩ := cut1 h1
  clear h1
  obtain ⟨a2, l3, rfl, h3⟩ := cut1 h2
  clear h2
  obtain ⟨a3, l4, rfl, h4⟩ := cut1 h3
  clear h3
  obtain ⟨a4, l5, rfl, h5⟩ := cut1 h4
  clear h4
  obtain ⟨a5, l6, rfl, h6⟩ := cut1 h5
  clear h5
  obtain ⟨a6, l7, rfl, h7⟩ := cut1 h6
  clear h6
  obtain ⟨a7, l8, rfl, h8⟩ := cut1 h7
  clear h7
  obtain rfl := cut0 h8
  clear h8
  by_cases g : 0 ≤ a0 ∧ a0 ≤ 255 ∧ 0 ≤ a1 ∧ a1 ≤ 255
  · have c : cvr [a0, a1, a2, a3, a4, a5, a6, a7] = true := cvr_iff.2 g
    have u0 := us_16 g.1 g.2.1
    have u1 := us_16 g.2.2.1 g.2.2.2
    have w0 : IntKind.i64.wrap (16 * a0) = 16 * a0 := wr (by omega)
    have w1 : IntKind.i64.wrap (16 * a1) = 16 * a1 := wr (by omega)
    have w2 : IntKind.i64.wrap (16 * a0 + 16) = 16 * a0 + 16 := wr (by omega)
    have w3 : IntKind.i64.wrap (16 * a1 + 16) = 16 * a1 + 16 := wr (by omega)
    have s : sqg [16 * a0, 16 * a1, 16] = true := by simp [sqg, u0.1, u0.2, u1.1, u1.2]
    simp only [R_RasterAside, S0_RasterAside, S1_RasterAside, S2_RasterAside, S3_RasterAside, S4_RasterAside, S5_RasterAside, S6_RasterAside, S7_RasterAside, S8_RasterAside, S9_RasterAside, S10_RasterAside, S11_RasterAside, S12_RasterAside, S13_RasterAside, valOf, vals1, valInts, val1, tupleV, resV, valsI, den, bt1, bt2, bt3, bt4, Env.at, E, fb, fi, List.getD_cons_zero, List.getD_cons_succ, List.all_cons, List.all_nil, Bool.and_true, Bool.and_assoc, Option.map_some, List.all_append, ite_self, w0, w1, w2, w3, c, covL, List.drop_succ_cons, List.drop_zero, List.getD_cons_zero, List.getD_cons_succ, if_true, Bool.true_and]
    have hA : (decide ((if decide ((if decide (a2 < a4) = true then a4 else a2) < a6) = true then a6 else if decide (a2 < a4) = true then a4 else a2) < 16 * a0) || (decide (16 * a0 + 16 < (if decide (a6 < if decide (a4 < a2) = true then a4 else a2) = true then a6 else if decide (a4 < a2) = true then a4 else a2)) || (decide ((if decide ((if decide (a3 < a5) = true then a5 else a3) < a7) = true then a7 else if decide (a3 < a5) = true then a5 else a3) < 16 * a1) || decide (16 * a1 + 16 < (if decide (a7 < if decide (a5 < a3) = true then a5 else a3) = true then a7 else if decide (a5 < a3) = true then a5 else a3))))) = true → sqB [16 * a0, 16 * a1, 16, a2, a3, a4, a5, a6, a7] = false := by
      intro h
      rw [mx_d, mn_d, mx_d, mn_d] at h
      simp only [Bool.or_eq_true, decide_eq_true_eq] at h
      rw [Bool.eq_false_iff]
      intro hs
      have := sqB_box hs
      omega
    have hK : rgt [a2, a3, a4, a5, a6, a7] = true → (decide (16 * a0 ≤ a2) && (decide (a2 ≤ 16 * a0 + 16) && (decide (16 * a1 ≤ a3) && decide (a3 ≤ 16 * a1 + 16))) || decide (16 * a0 ≤ a4) && (decide (a4 ≤ 16 * a0 + 16) && (decide (16 * a1 ≤ a5) && decide (a5 ≤ 16 * a1 + 16))) || decide (16 * a0 ≤ a6) && (decide (a6 ≤ 16 * a0 + 16) && (decide (16 * a1 ≤ a7) && decide (a7 ≤ 16 * a1 + 16)))) = true → sqB [16 * a0, 16 * a1, 16, a2, a3, a4, a5, a6, a7] = true := by
      intro hr h
      simp only [Bool.or_eq_true, Bool.and_eq_true, decide_eq_true_eq] at h
      refine sq_corners hr s ?_
      rcases h with (h | h) | h
      · exact .inl h
      · exact .inr (.inl h)
      · exact .inr (.inr h)
    generalize (decide ((if decide ((if decide (a2 < a4) = true then a4 else a2) < a6) = true then a6 else if decide (a2 < a4) = true then a4 else a2) < 16 * a0) || (decide (16 * a0 + 16 < (if decide (a6 < if decide (a4 < a2) = true then a4 else a2) = true then a6 else if decide (a4 < a2) = true then a4 else a2)) || (decide ((if decide ((if decide (a3 < a5) = true then a5 else a3) < a7) = true then a7 else if decide (a3 < a5) = true then a5 else a3) < 16 * a1) || decide (16 * a1 + 16 < (if decide (a7 < if decide (a5 < a3) = true then a5 else a3) = true then a7 else if decide (a5 < a3) = true then a5 else a3))))) = A at hA ⊢
    generalize (decide (16 * a0 ≤ a2) && (decide (a2 ≤ 16 * a0 + 16) && (decide (16 * a1 ≤ a3) && decide (a3 ≤ 16 * a1 + 16))) || decide (16 * a0 ≤ a4) && (decide (a4 ≤ 16 * a0 + 16) && (decide (16 * a1 ≤ a5) && decide (a5 ≤ 16 * a1 + 16))) || decide (16 * a0 ≤ a6) && (decide (a6 ≤ 16 * a0 + 16) && (decide (16 * a1 ≤ a7) && decide (a7 ≤ 16 * a1 + 16)))) = K at hK ⊢
    generalize sqB [16 * a0, 16 * a1, 16, a2, a3, a4, a5, a6, a7] = S at *
    have d0 : decide (a0 < 0) = false := by simp; omega
    have d1 : decide (255 < a0) = false := by simp; omega
    have d2 : decide (a1 < 0) = false := by simp; omega
    have d3 : decide (255 < a1) = false := by simp; omega
    rw [d0, d1, d2, d3]
    generalize rgt [a2, a3, a4, a5, a6, a7] = R at *
    cases R <;> cases A <;> cases K <;> cases S <;> first | rfl | (exfalso; revert hA hK; decide)
  · have c : cvr [a0, a1, a2, a3, a4, a5, a6, a7] = false := cvr_no g
    simp only [R_RasterAside, S0_RasterAside, S1_RasterAside, S2_RasterAside, S3_RasterAside, S4_RasterAside, S5_RasterAside, S6_RasterAside, S7_RasterAside, S8_RasterAside, S9_RasterAside, S10_RasterAside, S11_RasterAside, S12_RasterAside, S13_RasterAside, valOf, vals1, valInts, val1, tupleV, resV, valsI, den, bt1, bt2, bt3, bt4, Env.at, E, fb, fi, List.getD_cons_zero, List.getD_cons_succ, List.all_cons, List.all_nil, Bool.and_true, Bool.and_assoc, Option.map_some, List.all_append, ite_self, c, Bool.false_and, Bool.false_eq_true, if_false, if_true]
    by_cases h0 : a0 < 0
    · simp [h0]
    · by_cases h1 : 255 < a0
      · simp [h0, h1]
      · by_cases h2 : a1 < 0
        · simp [h0, h1, h2]
        · have h3 : 255 < a1 := by omega
          simp [h0, h1, h2, h3]

theorem c_RasterAside (W : World) : Flat Try.prog E W Any 5 [.i, .i, .g 6] fun l => tupleV (resV E 20 l [.b] 0 0) := flat_val (crx2_ok W) k_RasterAside v_RasterAside

end Go.Proofs.Ytfkgjpdipdllhaa.Sx
