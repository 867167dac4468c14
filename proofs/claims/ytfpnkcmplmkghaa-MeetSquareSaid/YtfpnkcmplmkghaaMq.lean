/- Plain geometry: two triangles that no edge parts are not apart along an axis. Nothing of the program. -/
import Derived.Test.YtfpnkcmplmkghaaCm
set_option linter.unusedVariables false
namespace Go.Proofs.Ytfpnkcmplmkghaa.Geo

theorem nn {a b : Int} (h : 0 ≤ a) (k : 0 ≤ b) : 0 ≤ a * b := Int.mul_nonneg h k
theorem pn {a b : Int} (h : 0 ≤ a) (k : b ≤ 0) : a * b ≤ 0 := Int.mul_nonpos_of_nonneg_of_nonpos h k
theorem np {a b : Int} (h : a ≤ 0) (k : 0 ≤ b) : a * b ≤ 0 := by rw [Int.mul_comm]; exact pn k h
theorem mm {a b : Int} (h : a ≤ 0) (k : b ≤ 0) : 0 ≤ a * b := Int.mul_nonneg_of_nonpos_of_nonpos h k
theorem pp {a b : Int} (h : 0 < a) (k : 0 < b) : 0 < a * b := Int.mul_pos h k
theorem pos_of {a b : Int} (h : 0 < a * b) (k : 0 ≤ a) : 0 < a ∧ 0 < b := by
  have ha : 0 < a := by
    rcases Int.lt_or_eq_of_le k with h1 | h1
    · exact h1
    · rw [← h1] at h; simp at h
  refine ⟨ha, ?_⟩
  apply Classical.byContradiction; intro hb
  have := pn k (show b ≤ 0 by omega)
  omega
theorem neg_of {a b : Int} (h : 0 < a * b) (k : a ≤ 0) : a < 0 ∧ b < 0 := by
  have h2 : 0 < (-a) * (-b) := by rw [Int.neg_mul_neg]; exact h
  have := pos_of h2 (by omega)
  omega
theorem le_of {a b : Int} (h : 0 ≤ a * b) (k : 0 < a) : 0 ≤ b := by
  apply Classical.byContradiction; intro hb
  have : 0 < a * (-b) := pp k (by omega)
  rw [Int.mul_neg] at this; omega
theorem ge_of {a b : Int} (h : a * b ≤ 0) (k : 0 < a) : b ≤ 0 := by
  apply Classical.byContradiction; intro hb
  have := pp k (show 0 < b by omega)
  omega
def cr (ax ay bx b' : Int) : Int := ax * b' - ay * bx
theorem cr_anti (a b c d : Int) : cr a b c d = - cr c d a b := by unfold cr; grind
theorem tri3 (ax ay bx b' cx cy : Int) : ax * cr bx b' cx cy + bx * cr cx cy ax ay + cx * cr ax ay bx b' = 0 := by unfold cr; grind

theorem id1 (px py rx ry sx sy : Int) : rx * cr px py sx sy = -px * cr sx sy rx ry + sx * cr px py rx ry := by unfold cr; grind
theorem id2 (qx qy rx ry sx sy : Int) : sx * cr qx qy rx ry = qx * cr sx sy rx ry + rx * cr qx qy sx sy := by unfold cr; grind
theorem id3 (px py qx qy rx ry : Int) : px * cr qx qy rx ry = qx * cr px py rx ry + rx * cr qx qy px py := by unfold cr; grind
theorem id4 (px py qx qy sx sy : Int) : -qx * cr px py sx sy = sx * cr qx qy px py - px * cr qx qy sx sy := by unfold cr; grind
theorem jd1 (px py sx sy wx wy : Int) : wx * cr px py sx sy = px * cr wx wy sx sy - sx * cr wx wy px py := by unfold cr; grind
theorem jd2 (px py qx qy wx wy : Int) : wx * cr qx qy px py = -px * cr wx wy qx qy + qx * cr wx wy px py := by unfold cr; grind
theorem jd3 (rx ry sx sy wx wy : Int) : wx * cr sx sy rx ry = -rx * cr wx wy sx sy + sx * cr wx wy rx ry := by unfold cr; grind
theorem jd4 (qx qy rx ry wx wy : Int) : wx * cr qx qy rx ry = qx * cr wx wy rx ry - rx * cr wx wy qx qy := by unfold cr; grind
theorem z1 (sx sy ry : Int) : cr sx sy 0 ry = sx * ry := by unfold cr; grind
theorem z2 (sy rx ry : Int) : cr 0 sy rx ry = -(rx * sy) := by unfold cr; grind

set_option maxHeartbeats 4000000 in
/-- Two vectors p, q that go left (the triangle's far corner is its rightmost), two r, s that go right: if one of four sides parts them .. -/
theorem sat0 (px py qx qy rx ry sx sy wx wy : Int) (hp : px ≤ 0) (hq : qx ≤ 0) (hr : 0 ≤ rx) (hs : 0 ≤ sx) (hA : 0 < cr qx qy px py) (hB : 0 < cr sx sy rx ry) (hw : 0 < wx)
    (h1 : 0 ≤ cr wx wy px py ∨ 0 ≤ cr wx wy px py - cr px py rx ry ∨ 0 ≤ cr wx wy px py - cr px py sx sy)
    (h2 : cr wx wy qx qy ≤ 0 ∨ cr wx wy qx qy ≤ cr qx qy rx ry ∨ cr wx wy qx qy ≤ cr qx qy sx sy)
    (h3 : cr wx wy rx ry ≤ 0 ∨ cr wx wy rx ry ≤ cr px py rx ry ∨ cr wx wy rx ry ≤ cr qx qy rx ry)
    (h4 : 0 ≤ cr wx wy sx sy ∨ 0 ≤ cr wx wy sx sy - cr px py sx sy ∨ 0 ≤ cr wx wy sx sy - cr qx qy sx sy) : False := by
  have i1 := id1 px py rx ry sx sy
  have i2 := id2 qx qy rx ry sx sy
  have i3 := id3 px py qx qy rx ry
  have i4 := id4 px py qx qy sx sy
  have j1 := jd1 px py sx sy wx wy
  have j2 := jd2 px py qx qy wx wy
  have j3 := jd3 rx ry sx sy wx wy
  have j4 := jd4 qx qy rx ry wx wy
  -- what vertical sides give
  have vr : rx = 0 → 0 < sx ∧ 0 < ry := by
    intro e; rw [e, z1] at hB
    exact pos_of hB hs
  have vs : sx = 0 → sy < 0 ∧ 0 < rx := by
    intro e; rw [e, z2] at hB
    have h : 0 < rx * (-sy) := by rw [Int.mul_neg]; exact hB
    have := pos_of h hr
    omega
  have vp : px = 0 → qx < 0 ∧ py < 0 := by
    intro e; rw [e, z1] at hA
    exact neg_of hA hq
  have vq : qx = 0 → px < 0 ∧ 0 < qy := by
    intro e; rw [e, z2] at hA
    have h : 0 < px * (-qy) := by rw [Int.mul_neg]; exact hA
    have := neg_of h hp
    omega
  have L1 : 0 ≤ cr px py rx ry → 0 ≤ cr px py sx sy := by
    intro h
    have e1 := nn (show 0 ≤ -px by omega) (show 0 ≤ cr sx sy rx ry by omega)
    have e2 := nn hs h
    rcases Int.lt_or_eq_of_le hr with h0 | h0
    · refine le_of (a := rx) ?_ h0
      omega
    · have hv := vr h0.symm
      have e0 : rx * cr px py sx sy = 0 := by rw [← h0]; simp
      have e3 : px = 0 := by
        apply Classical.byContradiction; intro hne
        have := pp (show 0 < -px by omega) hB
        omega
      have hv2 := vp e3
      rw [e3, z2]
      have := nn hs (show 0 ≤ -py by omega)
      rw [Int.mul_neg] at this
      exact this
  have L2 : cr qx qy sx sy ≤ 0 → cr qx qy rx ry ≤ 0 := by
    intro h
    have e1 := np hq (show 0 ≤ cr sx sy rx ry by omega)
    have e2 := pn hr h
    rcases Int.lt_or_eq_of_le hs with h0 | h0
    · refine ge_of (a := sx) ?_ h0
      omega
    · have hv := vs h0.symm
      have e0 : sx * cr qx qy rx ry = 0 := by rw [← h0]; simp
      have e3 : qx = 0 := by
        apply Classical.byContradiction; intro hne
        have := pp (show 0 < -qx by omega) hB
        rw [Int.neg_mul] at this
        omega
      have hq' := vq e3
      rw [e3, z2]
      have := nn hr (show 0 ≤ qy by omega)
      omega
  have L3 : cr px py rx ry ≤ 0 → cr qx qy rx ry ≤ 0 := by
    intro h
    have e1 := mm hq h
    have e2 := nn hr (show 0 ≤ cr qx qy px py by omega)
    rcases Int.lt_or_eq_of_le hp with h0 | h0
    · apply Classical.byContradiction; intro hn
      have := pp (show 0 < -px by omega) (show 0 < cr qx qy rx ry by omega)
      rw [Int.neg_mul] at this
      omega
    · have hv := vp h0
      have e0 : px * cr qx qy rx ry = 0 := by rw [h0]; simp
      have e3 : rx = 0 := by
        apply Classical.byContradiction; intro hne
        have := pp (show 0 < rx by omega) hA
        omega
      have hv2 := vr e3
      rw [e3, z1]
      exact np hq (by omega)
  have L4 : 0 ≤ cr qx qy sx sy → 0 ≤ cr px py sx sy := by
    intro h
    have e1 := nn hs (show 0 ≤ cr qx qy px py by omega)
    have e2 := np hp h
    rcases Int.lt_or_eq_of_le hq with h0 | h0
    · refine le_of (a := -qx) ?_ (by omega)
      omega
    · have hv := vq h0
      have e0 : -qx * cr px py sx sy = 0 := by rw [h0]; simp
      have e3 : sx = 0 := by
        apply Classical.byContradiction; intro hne
        have := pp (show 0 < sx by omega) hA
        omega
      have hv2 := vs e3
      rw [e3, z1]
      exact mm hp (by omega)
  rcases Int.le_total 0 (cr px py rx ry) with c1 | c1
  · have c3 := L1 c1
    have w1 : 0 ≤ cr wx wy px py := by omega
    rcases Int.le_total 0 (cr qx qy sx sy) with c2 | c2
    · have w4 : 0 ≤ cr wx wy sx sy := by omega
      have e1 := np hp w4
      have e2 := nn hs w1
      have e3 := nn (show 0 ≤ wx by omega) c3
      have e4 : cr px py sx sy = 0 := by
        apply Classical.byContradiction; intro hne
        have := pp hw (show 0 < cr px py sx sy by omega)
        omega
      rw [e4] at i1
      have e5 := nn (show 0 ≤ -px by omega) (show 0 ≤ cr sx sy rx ry by omega)
      have e6 := nn hs c1
      have e7 : px = 0 := by
        apply Classical.byContradiction; intro hne
        have := pp (show 0 < -px by omega) hB
        simp only [Int.mul_zero] at i1
        omega
      have hv := vp e7
      have e8 : cr wx wy px py = wx * py := by rw [e7, z1]
      have := pp hw (show 0 < -py by omega)
      rw [Int.mul_neg] at this
      omega
    · have w2 : cr wx wy qx qy ≤ 0 := by have := L2 c2; omega
      have e1 := pn (show 0 ≤ -px by omega) w2
      have e2 := np hq w1
      have e3 := pp hw hA
      omega
  · have c3 := L3 c1
    have w3 : cr wx wy rx ry ≤ 0 := by omega
    rcases Int.le_total 0 (cr qx qy sx sy) with c2 | c2
    · have w4 : 0 ≤ cr wx wy sx sy := by have := L4 c2; omega
      have e1 := np (show -rx ≤ 0 by omega) w4
      have e2 := pn hs w3
      have e3 := pp hw hB
      omega
    · have w2 : cr wx wy qx qy ≤ 0 := by omega
      have e1 := mm hq w3
      have e2 := pn hr w2
      have e3 := pn (show 0 ≤ wx by omega) c3
      have e4 : cr qx qy rx ry = 0 := by
        apply Classical.byContradiction; intro hne
        have := pp hw (show 0 < -cr qx qy rx ry by omega)
        rw [Int.mul_neg] at this
        omega
      rw [e4] at i3
      have e5 := mm hq c1
      have e6 := nn hr (show 0 ≤ cr qx qy px py by omega)
      have e7 : rx = 0 := by
        apply Classical.byContradiction; intro hne
        have := pp (show 0 < rx by omega) hA
        simp only [Int.mul_zero] at i3
        omega
      have hv := vr e7
      have e8 : cr wx wy rx ry = wx * ry := by rw [e7, z1]
      have := pp hw hv.2
      omega
end Go.Proofs.Ytfpnkcmplmkghaa.Geo
