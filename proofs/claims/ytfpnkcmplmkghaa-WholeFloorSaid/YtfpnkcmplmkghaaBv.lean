/- Numbers in digits: the reference's Times of chapter 02, walked. -/
import Derived.Test.YtfpnkcmplmkghaaBu
import Derived.Test.YtfpnkcmplmkghaaBw
set_option linter.unusedVariables false
set_option linter.unusedSimpArgs false
namespace Go.Proofs.Ytfpnkcmplmkghaa
open Go.RowKit
namespace Bg
theorem I_40 {n : Int} (h : I n) : (n.natAbs : Int) < p10 20 := by
  have e : p10 20 = 100000000000000000000 := by decide
  unfold I at h; omega
set_option maxHeartbeats 4000000 in
set_option maxRecDepth 100000 in
theorem rtimes_any (a b q r : Int) (ha : I a) (hb : I b) (hq : I q) (hr : I r) (h : a = b * q + r) (w : World) :
    Calls Try.prog 16 #[.int .i64 a, .int .i64 b, .int .i64 q, .int .i64 r] w fun e w' => e = .returned (.bool true) ∧ Gr w w' := by
  have IA := Lib.hid ha; have IB := Lib.hid hb; have IQ := Lib.hid hq; have IR := Lib.hid hr; have HE := Lib.hid h
  clear ha hb hq hr h
  go_enter Try.func16, Try.ntmps16
  go_wp2_with fail
  refine (ofInt_any b IB.out _).mono ?_; rintro e w1 ⟨⟨v1, rfl, hn1⟩, g1⟩
  go_wp2_with fail
  refine (ofInt_any q IQ.out _).mono ?_; rintro e w2 ⟨⟨v2, rfl, hn2⟩, g2⟩
  go_wp2_with fail
  refine (times_any _ _ b q _ (hn1.gr g2) hn2 (by have := I_40 IB.out; have := p10_mono (show 20 ≤ 40 by decide); omega) (by have := I_40 IQ.out; have := p10_mono (show 20 ≤ 40 by decide); omega)).mono ?_; rintro e w3 ⟨⟨v3, rfl, hn3⟩, g3⟩
  go_wp2_with fail
  refine (ofInt_any r IR.out _).mono ?_; rintro e w4 ⟨⟨v4, rfl, hn4⟩, g4⟩
  go_wp2_with fail
  refine (sum_any _ _ (b * q) r _ (hn3.gr g4) hn4 ?c1 ?c2).mono ?_
  case c1 =>
    have h1 := I_40 IB.out; have h2 := I_40 IQ.out
    have e1 : p10 40 = p10 20 * p10 20 := p10_add 20 20
    rw [Int.natAbs_mul, e1]
    push_cast
    have h3 : (b.natAbs : Int) * (q.natAbs : Int) ≤ (b.natAbs : Int) * p10 20 := Int.mul_le_mul_of_nonneg_left (by omega) (by omega)
    have h4 : (b.natAbs : Int) * p10 20 < p10 20 * p10 20 := Int.mul_lt_mul_of_pos_right (by omega) (p10_pos 20)
    omega
  case c2 => have := I_40 IR.out; have := p10_mono (show 20 ≤ 40 by decide); omega
  rintro e w5 ⟨⟨v5, rfl, hn5⟩, g5⟩
  obtain ⟨a1, len1, cap1, zs1, rfl, hr1, hc1, hv1, -, -⟩ := parts hn5
  unfold NumV
  go_wp2_with fail
  refine (ofInt_any a IA.out _).mono ?_; rintro e w6 ⟨⟨v6, rfl, hn6⟩, g6⟩
  obtain ⟨a2, len2, cap2, zs2, rfl, hr2, hc2, hv2, -, -⟩ := parts hn6
  have hzz : zs1 = zs2 := hc1.uniq hc2 (by rw [hv1, hv2, HE.out])
  subst hzz
  have hll : len1 = len2 := hr1.1.symm.trans hr2.1
  subst hll
  have hz : Blk w6 w5.heap.size [.bool (decide (b * q + r < 0)), .slice a1 len1 cap1] := (Blk.new (w := w5) (T := 88) (vs := [.bool (decide (b * q + r < 0)), .slice a1 len1 cap1]) rfl).gr g6
  rw [← HE.out] at hz g6
  have z0 := hz.cell 0 rfl; have z1 := hz.cell 1 rfl
  have hlt := hz.1
  have G6 : Gr w w6 := ((((((g1.trans g2).trans g3).trans g4).trans g5)).alloc _).trans g6
  have R1 : IsRow .i64 w6 a1 len1 zs1 := (hr1.later ((Gr.refl _).alloc _)).later g6
  have HR1 := Lib.hid R1; have HR2 := Lib.hid hr2; have HG6 := Lib.hid G6
  clear R1 G6 hr1 hr2 hc1 hc2 hv1 hv2 hn1 hn2 hn3 hn4 hn5 hn6 g1 g2 g3 g4 g5 hz
  unfold NumV
  rw [← HE.out]
  generalize decide (a < 0) = sb at *
  go_wp2_with fail
  refine (Ow.same_any a1 a2 len1 cap1 cap2 zs1 _ (HR1.out.later ((Gr.refl _).alloc _)) (HR2.out.later ((Gr.refl _).alloc _))).mono ?_
  rintro e w7 ⟨rfl, hd7⟩
  have g7 := hd7.gr
  clear hd7
  go_wp2
  go_ret
  exact ⟨rfl, (HG6.out.alloc _).trans g7⟩
end Bg
end Go.Proofs.Ytfpnkcmplmkghaa
