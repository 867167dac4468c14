/- Texts that stood alone before, in one. -/
import Derived.Test.YtfkgjpdipdllhaaCm
import Derived.Test.YtfkgjpdipdllhaaMu
import Derived.Test.YtfkgjpdipdllhaaRQ1
/- Plain geometry: two triangles that no edge parts are not apart along an axis. Nothing of the program. -/
set_option linter.unusedVariables false
namespace Go.Proofs.Ytfkgjpdipdllhaa.Geo

theorem nn {a b : Int} (h : 0 ≤ a) (k : 0 ≤ b) : 0 ≤ a * b := Int.mul_nonneg h k
theorem pn {a b : Int} (h : 0 ≤ a) (k : b ≤ 0) : a * b ≤ 0 := Int.mul_nonpos_of_nonneg_of_nonpos h k
theorem np {a b : Int} (h : a ≤ 0) (k : 0 ≤ b) : a * b ≤ 0 := by rw [Int.mul_comm]; exact pn k h
theorem mm {a b : Int} (h : a ≤ 0) (k : b ≤ 0) : 0 ≤ a * b := Int.mul_nonneg_of_nonpos_of_nonpos h k
theorem pp {a b : Int} (h : 0 < a) (k : 0 < b) : 0 < a * b := Int.mul_pos h k
theorem pos_of {a b : Int} (h : 0 < a * b) (k : 0 ≤ a) : 0 < a ∧ 0 < b := by
  have ha : 0 < a := by
    rcases Int.lt_or_eq_of_le k with h1 | h1
    · exact h1
    · rw [← h1] at h; simp at h
  refine ⟨ha, ?_⟩
  apply Classical.byContradiction; intro hb
  have := pn k (show b ≤ 0 by omega)
  omega
theorem neg_of {a b : Int} (h : 0 < a * b) (k : a ≤ 0) : a < 0 ∧ b < 0 := by
  have h2 : 0 < (-a) * (-b) := by rw [Int.neg_mul_neg]; exact h
  have := pos_of h2 (by omega)
  omega
theorem le_of {a b : Int} (h : 0 ≤ a * b) (k : 0 < a) : 0 ≤ b := by
  apply Classical.byContradiction; intro hb
  have : 0 < a * (-b) := pp k (by omega)
  rw [Int.mul_neg] at this; omega
theorem ge_of {a b : Int} (h : a * b ≤ 0) (k : 0 < a) : b ≤ 0 := by
  apply Classical.byContradiction; intro hb
  have := pp k (show 0 < b by omega)
  omega
def cr (ax ay bx b' : Int) : Int := ax * b' - ay * bx
theorem cr_anti (a b c d : Int) : cr a b c d = - cr c d a b := by unfold cr; grind
theorem tri3 (ax ay bx b' cx cy : Int) : ax * cr bx b' cx cy + bx * cr cx cy ax ay + cx * cr ax ay bx b' = 0 := by unfold cr; grind

theorem id1 (px py rx ry sx sy : Int) : rx * cr px py sx sy = -px * cr sx sy rx ry + sx * cr px py rx ry := by unfold cr; grind
theorem id2 (qx qy rx ry sx sy : Int) : sx * cr qx qy rx ry = qx * cr sx sy rx ry + rx * cr qx qy sx sy := by unfold cr; grind
theorem id3 (px py qx qy rx ry : Int) : px * cr qx qy rx ry = qx * cr px py rx ry + rx * cr qx qy px py := by unfold cr; grind
theorem id4 (px py qx qy sx sy : Int) : -qx * cr px py sx sy = sx * cr qx qy px py - px * cr qx qy sx sy := by unfold cr; grind
theorem jd1 (px py sx sy wx wy : Int) : wx * cr px py sx sy = px * cr wx wy sx sy - sx * cr wx wy px py := by unfold cr; grind
theorem jd2 (px py qx qy wx wy : Int) : wx * cr qx qy px py = -px * cr wx wy qx qy + qx * cr wx wy px py := by unfold cr; grind
theorem jd3 (rx ry sx sy wx wy : Int) : wx * cr sx sy rx ry = -rx * cr wx wy sx sy + sx * cr wx wy rx ry := by unfold cr; grind
theorem jd4 (qx qy rx ry wx wy : Int) : wx * cr qx qy rx ry = qx * cr wx wy rx ry - rx * cr wx wy qx qy := by unfold cr; grind
theorem z1 (sx sy ry : Int) : cr sx sy 0 ry = sx * ry := by unfold cr; grind
theorem z2 (sy rx ry : Int) : cr 0 sy rx ry = -(rx * sy) := by unfold cr; grind

set_option maxHeartbeats 4000000 in
/-- Two vectors p, q that go left (the triangle's far corner is its rightmost), two r, s that go right: if one of four sides parts them .. -/
theorem sat0 (px py qx qy rx ry sx sy wx wy : Int) (hp : px ≤ 0) (hq : qx ≤ 0) (hr : 0 ≤ rx) (hs : 0 ≤ sx) (hA : 0 < cr qx qy px py) (hB : 0 < cr sx sy rx ry) (hw : 0 < wx)
    (h1 : 0 ≤ cr wx wy px py ∨ 0 ≤ cr wx wy px py - cr px py rx ry ∨ 0 ≤ cr wx wy px py - cr px py sx sy)
    (h2 : cr wx wy qx qy ≤ 0 ∨ cr wx wy qx qy ≤ cr qx qy rx ry ∨ cr wx wy qx qy ≤ cr qx qy sx sy)
    (h3 : cr wx wy rx ry ≤ 0 ∨ cr wx wy rx ry ≤ cr px py rx ry ∨ cr wx wy rx ry ≤ cr qx qy rx ry)
    (h4 : 0 ≤ cr wx wy sx sy ∨ 0 ≤ cr wx wy sx sy - cr px py sx sy ∨ 0 ≤ cr wx wy sx sy - cr qx qy sx sy) : False := by
  have i1 := id1 px py rx ry sx sy
  have i2 := id2 qx qy rx ry sx sy
  have i3 := id3 px py qx qy rx ry
  have i4 := id4 px py qx qy sx sy
  have j1 := jd1 px py sx sy wx wy
  have j2 := jd2 px py qx qy wx wy
  have j3 := jd3 rx ry sx sy wx wy
  have j4 := jd4 qx qy rx ry wx wy
  -- what vertical sides give
  have vr : rx = 0 → 0 < sx ∧ 0 < ry := by
    intro e; rw [e, z1] at hB
    exact pos_of hB hs
  have vs : sx = 0 → sy < 0 ∧ 0 < rx := by
    intro e; rw [e, z2] at hB
    have h : 0 < rx * (-sy) := by rw [Int.mul_neg]; exact hB
    have := pos_of h hr
    omega
  have vp : px = 0 → qx < 0 ∧ py < 0 := by
    intro e; rw [e, z1] at hA
    exact neg_of hA hq
  have vq : qx = 0 → px < 0 ∧ 0 < qy := by
    intro e; rw [e, z2] at hA
    have h : 0 < px * (-qy) := by rw [Int.mul_neg]; exact hA
    have := neg_of h hp
    omega
  have L1 : 0 ≤ cr px py rx ry → 0 ≤ cr px py sx sy := by
    intro h
    have e1 := nn (show 0 ≤ -px by omega) (show 0 ≤ cr sx sy rx ry by omega)
    have e2 := nn hs h
    rcases Int.lt_or_eq_of_le hr with h0 | h0
    · refine le_of (a := rx) ?_ h0
      omega
    · have hv := vr h0.symm
      have e0 : rx * cr px py sx sy = 0 := by rw [← h0]; simp
      have e3 : px = 0 := by
        apply Classical.byContradiction; intro hne
        have := pp (show 0 < -px by omega) hB
        omega
      have hv2 := vp e3
      rw [e3, z2]
      have := nn hs (show 0 ≤ -py by omega)
      rw [Int.mul_neg] at this
      exact this
  have L2 : cr qx qy sx sy ≤ 0 → cr qx qy rx ry ≤ 0 := by
    intro h
    have e1 := np hq (show 0 ≤ cr sx sy rx ry by omega)
    have e2 := pn hr h
    rcases Int.lt_or_eq_of_le hs with h0 | h0
    · refine ge_of (a := sx) ?_ h0
      omega
    · have hv := vs h0.symm
      have e0 : sx * cr qx qy rx ry = 0 := by rw [← h0]; simp
      have e3 : qx = 0 := by
        apply Classical.byContradiction; intro hne
        have := pp (show 0 < -qx by omega) hB
        rw [Int.neg_mul] at this
        omega
      have hq' := vq e3
      rw [e3, z2]
      have := nn hr (show 0 ≤ qy by omega)
      omega
  have L3 : cr px py rx ry ≤ 0 → cr qx qy rx ry ≤ 0 := by
    intro h
    have e1 := mm hq h
    have e2 := nn hr (show 0 ≤ cr qx qy px py by omega)
    rcases Int.lt_or_eq_of_le hp with h0 | h0
    · apply Classical.byContradiction; intro hn
      have := pp (show 0 < -px by omega) (show 0 < cr qx qy rx ry by omega)
      rw [Int.neg_mul] at this
      omega
    · have hv := vp h0
      have e0 : px * cr qx qy rx ry = 0 := by rw [h0]; simp
      have e3 : rx = 0 := by
        apply Classical.byContradiction; intro hne
        have := pp (show 0 < rx by omega) hA
        omega
      have hv2 := vr e3
      rw [e3, z1]
      exact np hq (by omega)
  have L4 : 0 ≤ cr qx qy sx sy → 0 ≤ cr px py sx sy := by
    intro h
    have e1 := nn hs (show 0 ≤ cr qx qy px py by omega)
    have e2 := np hp h
    rcases Int.lt_or_eq_of_le hq with h0 | h0
    · refine le_of (a := -qx) ?_ (by omega)
      omega
    · have hv := vq h0
      have e0 : -qx * cr px py sx sy = 0 := by rw [h0]; simp
      have e3 : sx = 0 := by
        apply Classical.byContradiction; intro hne
        have := pp (show 0 < sx by omega) hA
        omega
      have hv2 := vs e3
      rw [e3, z1]
      exact mm hp (by omega)
  rcases Int.le_total 0 (cr px py rx ry) with c1 | c1
  · have c3 := L1 c1
    have w1 : 0 ≤ cr wx wy px py := by omega
    rcases Int.le_total 0 (cr qx qy sx sy) with c2 | c2
    · have w4 : 0 ≤ cr wx wy sx sy := by omega
      have e1 := np hp w4
      have e2 := nn hs w1
      have e3 := nn (show 0 ≤ wx by omega) c3
      have e4 : cr px py sx sy = 0 := by
        apply Classical.byContradiction; intro hne
        have := pp hw (show 0 < cr px py sx sy by omega)
        omega
      rw [e4] at i1
      have e5 := nn (show 0 ≤ -px by omega) (show 0 ≤ cr sx sy rx ry by omega)
      have e6 := nn hs c1
      have e7 : px = 0 := by
        apply Classical.byContradiction; intro hne
        have := pp (show 0 < -px by omega) hB
        simp only [Int.mul_zero] at i1
        omega
      have hv := vp e7
      have e8 : cr wx wy px py = wx * py := by rw [e7, z1]
      have := pp hw (show 0 < -py by omega)
      rw [Int.mul_neg] at this
      omega
    · have w2 : cr wx wy qx qy ≤ 0 := by have := L2 c2; omega
      have e1 := pn (show 0 ≤ -px by omega) w2
      have e2 := np hq w1
      have e3 := pp hw hA
      omega
  · have c3 := L3 c1
    have w3 : cr wx wy rx ry ≤ 0 := by omega
    rcases Int.le_total 0 (cr qx qy sx sy) with c2 | c2
    · have w4 : 0 ≤ cr wx wy sx sy := by have := L4 c2; omega
      have e1 := np (show -rx ≤ 0 by omega) w4
      have e2 := pn hs w3
      have e3 := pp hw hB
      omega
    · have w2 : cr wx wy qx qy ≤ 0 := by omega
      have e1 := mm hq w3
      have e2 := pn hr w2
      have e3 := pn (show 0 ≤ wx by omega) c3
      have e4 : cr qx qy rx ry = 0 := by
        apply Classical.byContradiction; intro hne
        have := pp hw (show 0 < -cr qx qy rx ry by omega)
        rw [Int.mul_neg] at this
        omega
      rw [e4] at i3
      have e5 := mm hq c1
      have e6 := nn hr (show 0 ≤ cr qx qy px py by omega)
      have e7 : rx = 0 := by
        apply Classical.byContradiction; intro hne
        have := pp (show 0 < rx by omega) hA
        simp only [Int.mul_zero] at i3
        omega
      have hv := vr e7
      have e8 : cr wx wy rx ry = wx * ry := by rw [e7, z1]
      have := pp hw hv.2
      omega
end Go.Proofs.Ytfkgjpdipdllhaa.Geo
/- Plain geometry of triangles: sides, points inside, squares; what chapter 10's laws say. Nothing of the program. -/
set_option linter.unusedVariables false
namespace Go.Proofs.Ytfkgjpdipdllhaa.Geo
open Sx

def crp (o p q : P2) : Int := (p.x - o.x) * (q.y - o.y) - (p.y - o.y) * (q.x - o.x)
theorem crp_cyc (o p q : P2) : crp o p q = crp p q o := by unfold crp; grind
theorem crp_sw (o p q : P2) : crp o p q = - crp p o q := by unfold crp; grind
theorem k1 (P R U : P2) : crp R P U = cr (U.x - P.x) (U.y - P.y) (R.x - P.x) (R.y - P.y) := by unfold crp cr; grind
theorem k2 (P R U V : P2) : crp R P V = cr (U.x - P.x) (U.y - P.y) (R.x - P.x) (R.y - P.y) - cr (R.x - P.x) (R.y - P.y) (V.x - U.x) (V.y - U.y) := by unfold crp cr; grind
theorem k3 (P Q U : P2) : crp P Q U = - cr (U.x - P.x) (U.y - P.y) (Q.x - P.x) (Q.y - P.y) := by unfold crp cr; grind
theorem k4 (P Q U V : P2) : crp P Q V = cr (Q.x - P.x) (Q.y - P.y) (V.x - U.x) (V.y - U.y) - cr (U.x - P.x) (U.y - P.y) (Q.x - P.x) (Q.y - P.y) := by unfold crp cr; grind
theorem k5 (P U W : P2) : crp W U P = - cr (U.x - P.x) (U.y - P.y) (W.x - U.x) (W.y - U.y) := by unfold crp cr; grind
theorem k6 (P Q U W : P2) : crp W U Q = cr (Q.x - P.x) (Q.y - P.y) (W.x - U.x) (W.y - U.y) - cr (U.x - P.x) (U.y - P.y) (W.x - U.x) (W.y - U.y) := by unfold crp cr; grind
theorem k7 (P U V : P2) : crp U V P = cr (U.x - P.x) (U.y - P.y) (V.x - U.x) (V.y - U.y) := by unfold crp cr; grind
theorem k8 (P Q U V : P2) : crp U V Q = cr (U.x - P.x) (U.y - P.y) (V.x - U.x) (V.y - U.y) - cr (Q.x - P.x) (Q.y - P.y) (V.x - U.x) (V.y - U.y) := by unfold crp cr; grind

theorem satP (P Q R U V W : P2) (hA : 0 < crp P Q R) (hB : 0 < crp U V W) (hq : Q.x ≤ P.x) (hr : R.x ≤ P.x) (hv : U.x ≤ V.x) (hw : U.x ≤ W.x) (hs : P.x < U.x)
    (e1 : 0 ≤ crp P Q U ∨ 0 ≤ crp P Q V ∨ 0 ≤ crp P Q W) (e3 : 0 ≤ crp R P U ∨ 0 ≤ crp R P V ∨ 0 ≤ crp R P W) (f1 : 0 ≤ crp U V P ∨ 0 ≤ crp U V Q ∨ 0 ≤ crp U V R) (f3 : 0 ≤ crp W U P ∨ 0 ≤ crp W U Q ∨ 0 ≤ crp W U R) : False := by
  rw [k3 P Q U, k4 P Q U V, k4 P Q U W] at e1
  rw [k1 P R U, k2 P R U V, k2 P R U W] at e3
  rw [k7 P U V, k8 P Q U V, k8 P R U V] at f1
  rw [k5 P U W, k6 P Q U W, k6 P R U W] at f3
  refine sat0 (R.x - P.x) (R.y - P.y) (Q.x - P.x) (Q.y - P.y) (W.x - U.x) (W.y - U.y) (V.x - U.x) (V.y - U.y) (U.x - P.x) (U.y - P.y) (by omega) (by omega) (by omega) (by omega) hA hB (by omega) ?_ ?_ ?_ ?_
  · omega
  · omega
  · omega
  · omega

/-- No edge parts two triangles (turned one way): then none lies wholly left of the other one. -/
theorem sat1 (P Q R U V W : P2) (hA : 0 < crp P Q R) (hB : 0 < crp U V W)
    (e1 : 0 ≤ crp P Q U ∨ 0 ≤ crp P Q V ∨ 0 ≤ crp P Q W) (e2 : 0 ≤ crp Q R U ∨ 0 ≤ crp Q R V ∨ 0 ≤ crp Q R W) (e3 : 0 ≤ crp R P U ∨ 0 ≤ crp R P V ∨ 0 ≤ crp R P W)
    (f1 : 0 ≤ crp U V P ∨ 0 ≤ crp U V Q ∨ 0 ≤ crp U V R) (f2 : 0 ≤ crp V W P ∨ 0 ≤ crp V W Q ∨ 0 ≤ crp V W R) (f3 : 0 ≤ crp W U P ∨ 0 ≤ crp W U Q ∨ 0 ≤ crp W U R) :
    ¬ (max (max P.x Q.x) R.x < min (min U.x V.x) W.x) := by
  intro h
  have hA2 : 0 < crp Q R P := by rw [← crp_cyc P Q R]; exact hA
  have hA3 : 0 < crp R P Q := by rw [← crp_cyc Q R P]; exact hA2
  have hB2 : 0 < crp V W U := by rw [← crp_cyc U V W]; exact hB
  have hB3 : 0 < crp W U V := by rw [← crp_cyc V W U]; exact hB2
  have r3 : ∀ {a b c : Prop}, a ∨ b ∨ c → b ∨ c ∨ a := fun h => by rcases h with h | h | h <;> simp [h]
  have s3 : ∀ {a b c : Prop}, a ∨ b ∨ c → c ∨ a ∨ b := fun h => by rcases h with h | h | h <;> simp [h]
  have ca : (Q.x ≤ P.x ∧ R.x ≤ P.x) ∨ (R.x ≤ Q.x ∧ P.x ≤ Q.x) ∨ (P.x ≤ R.x ∧ Q.x ≤ R.x) := by omega
  have cb : (U.x ≤ V.x ∧ U.x ≤ W.x) ∨ (V.x ≤ W.x ∧ V.x ≤ U.x) ∨ (W.x ≤ U.x ∧ W.x ≤ V.x) := by omega
  rcases ca with ⟨a1, a2⟩ | ⟨a1, a2⟩ | ⟨a1, a2⟩ <;> rcases cb with ⟨b1, b2⟩ | ⟨b1, b2⟩ | ⟨b1, b2⟩
  · exact satP P Q R U V W hA hB a1 a2 b1 b2 (by omega) e1 e3 f1 f3
  · exact satP P Q R V W U hA hB2 a1 a2 b1 b2 (by omega) (r3 e1) (r3 e3) f2 f1
  · exact satP P Q R W U V hA hB3 a1 a2 b1 b2 (by omega) (s3 e1) (s3 e3) f3 f2
  · exact satP Q R P U V W hA2 hB a1 a2 b1 b2 (by omega) e2 e1 (r3 f1) (r3 f3)
  · exact satP Q R P V W U hA2 hB2 a1 a2 b1 b2 (by omega) (r3 e2) (r3 e1) (r3 f2) (r3 f1)
  · exact satP Q R P W U V hA2 hB3 a1 a2 b1 b2 (by omega) (s3 e2) (s3 e1) (r3 f3) (r3 f2)
  · exact satP R P Q U V W hA3 hB a1 a2 b1 b2 (by omega) e3 e2 (s3 f1) (s3 f3)
  · exact satP R P Q V W U hA3 hB2 a1 a2 b1 b2 (by omega) (r3 e3) (r3 e2) (s3 f2) (s3 f1)
  · exact satP R P Q W U V hA3 hB3 a1 a2 b1 b2 (by omega) (s3 e3) (s3 e2) (s3 f3) (s3 f2)

/- A triangle of six numbers: which side of an edge, and how far. -/
def ab (t : List Int) : Int := if 0 < areaV t then areaV t else - areaV t
def cz (t : List Int) (i : Nat) (x y : Int) : Int := areaV [t.getD (2 * i) 0, t.getD (2 * i + 1) 0, t.getD ((2 * i + 2) % 6) 0, t.getD ((2 * i + 3) % 6) 0, x, y]
def ev (t : List Int) (i : Nat) (x y : Int) : Int := if 0 < areaV t then cz t i x y else - cz t i x y
theorem areaV6 (a b c d e f : Int) : areaV [a, b, c, d, e, f] = crp ⟨a, b⟩ ⟨c, d⟩ ⟨e, f⟩ := rfl
theorem ab_pos {t : List Int} (h : areaV t ≠ 0) : 0 < ab t := by unfold ab; split <;> omega
section
variable (t0 t1 t2 t3 t4 t5 x y : Int)
theorem ev_sum : ev [t0, t1, t2, t3, t4, t5] 0 x y + ev [t0, t1, t2, t3, t4, t5] 1 x y + ev [t0, t1, t2, t3, t4, t5] 2 x y = ab [t0, t1, t2, t3, t4, t5] := by
  have h : cz [t0, t1, t2, t3, t4, t5] 0 x y + cz [t0, t1, t2, t3, t4, t5] 1 x y + cz [t0, t1, t2, t3, t4, t5] 2 x y = areaV [t0, t1, t2, t3, t4, t5] := by
    show crp ⟨t0, t1⟩ ⟨t2, t3⟩ ⟨x, y⟩ + crp ⟨t2, t3⟩ ⟨t4, t5⟩ ⟨x, y⟩ + crp ⟨t4, t5⟩ ⟨t0, t1⟩ ⟨x, y⟩ = crp ⟨t0, t1⟩ ⟨t2, t3⟩ ⟨t4, t5⟩
    simp only [crp]; grind
  unfold ev ab; split <;> omega
theorem ev_x : ev [t0, t1, t2, t3, t4, t5] 0 x y * t4 + ev [t0, t1, t2, t3, t4, t5] 1 x y * t0 + ev [t0, t1, t2, t3, t4, t5] 2 x y * t2 = ab [t0, t1, t2, t3, t4, t5] * x := by
  have h : cz [t0, t1, t2, t3, t4, t5] 0 x y * t4 + cz [t0, t1, t2, t3, t4, t5] 1 x y * t0 + cz [t0, t1, t2, t3, t4, t5] 2 x y * t2 = areaV [t0, t1, t2, t3, t4, t5] * x := by
    show crp ⟨t0, t1⟩ ⟨t2, t3⟩ ⟨x, y⟩ * t4 + crp ⟨t2, t3⟩ ⟨t4, t5⟩ ⟨x, y⟩ * t0 + crp ⟨t4, t5⟩ ⟨t0, t1⟩ ⟨x, y⟩ * t2 = crp ⟨t0, t1⟩ ⟨t2, t3⟩ ⟨t4, t5⟩ * x
    simp only [crp]; grind
  unfold ev ab; split
  · exact h
  · simp only [Int.neg_mul]; omega
theorem ev_y : ev [t0, t1, t2, t3, t4, t5] 0 x y * t5 + ev [t0, t1, t2, t3, t4, t5] 1 x y * t1 + ev [t0, t1, t2, t3, t4, t5] 2 x y * t3 = ab [t0, t1, t2, t3, t4, t5] * y := by
  have h : cz [t0, t1, t2, t3, t4, t5] 0 x y * t5 + cz [t0, t1, t2, t3, t4, t5] 1 x y * t1 + cz [t0, t1, t2, t3, t4, t5] 2 x y * t3 = areaV [t0, t1, t2, t3, t4, t5] * y := by
    show crp ⟨t0, t1⟩ ⟨t2, t3⟩ ⟨x, y⟩ * t5 + crp ⟨t2, t3⟩ ⟨t4, t5⟩ ⟨x, y⟩ * t1 + crp ⟨t4, t5⟩ ⟨t0, t1⟩ ⟨x, y⟩ * t3 = crp ⟨t0, t1⟩ ⟨t2, t3⟩ ⟨t4, t5⟩ * y
    simp only [crp]; grind
  unfold ev ab; split
  · exact h
  · simp only [Int.neg_mul]; omega
end
theorem cz_aff (a b c d x y : Int) : areaV [a, b, c, d, x, y] = (b - d) * x + (c - a) * y + ((d - b) * a - (c - a) * b) := by
  show crp ⟨a, b⟩ ⟨c, d⟩ ⟨x, y⟩ = _
  simp only [crp]; grind
theorem ev_aff (t : List Int) (i : Nat) : ∃ α β γ : Int, ∀ x y, ev t i x y = α * x + β * y + γ := by
  unfold ev
  by_cases h : 0 < areaV t
  · simp only [if_pos h]
    exact ⟨_, _, _, fun x y => cz_aff _ _ _ _ x y⟩
  · simp only [if_neg h]
    refine ⟨-(t.getD (2 * i + 1) 0 - t.getD ((2 * i + 3) % 6) 0), -(t.getD ((2 * i + 2) % 6) 0 - t.getD (2 * i) 0), -((t.getD ((2 * i + 3) % 6) 0 - t.getD (2 * i + 1) 0) * t.getD (2 * i) 0 - (t.getD ((2 * i + 2) % 6) 0 - t.getD (2 * i) 0) * t.getD (2 * i + 1) 0), fun x y => ?_⟩
    unfold cz
    rw [cz_aff]
    grind
theorem combo (e0 e1 e2 D X0 X1 X2 Y0 Y1 Y2 px py α β γ : Int) (h0 : e0 + e1 + e2 = D) (hx : e0 * X2 + e1 * X0 + e2 * X1 = D * px) (hy : e0 * Y2 + e1 * Y0 + e2 * Y1 = D * py) :
    e0 * (α * X2 + β * Y2 + γ) + e1 * (α * X0 + β * Y0 + γ) + e2 * (α * X1 + β * Y1 + γ) = D * (α * px + β * py + γ) := by
  have h : e0 * (α * X2 + β * Y2 + γ) + e1 * (α * X0 + β * Y0 + γ) + e2 * (α * X1 + β * Y1 + γ) = α * (e0 * X2 + e1 * X0 + e2 * X1) + β * (e0 * Y2 + e1 * Y0 + e2 * Y1) + γ * (e0 + e1 + e2) := by grind
  rw [h, hx, hy, h0]; grind
/-- What an edge's side says of a point, it says of the corners, weighed. -/
theorem weigh (a : List Int) (i : Nat) (b0 b1 b2 b3 b4 b5 x y : Int) :
    ev [b0, b1, b2, b3, b4, b5] 0 x y * ev a i b4 b5 + ev [b0, b1, b2, b3, b4, b5] 1 x y * ev a i b0 b1 + ev [b0, b1, b2, b3, b4, b5] 2 x y * ev a i b2 b3 = ab [b0, b1, b2, b3, b4, b5] * ev a i x y := by
  obtain ⟨α, β, γ, h⟩ := ev_aff a i
  rw [h, h, h, h]
  exact combo _ _ _ _ _ _ _ _ _ _ _ _ _ _ _ (ev_sum ..) (ev_x ..) (ev_y ..)
theorem in_le {e0 e1 e2 g0 g1 g2 D g : Int} (h : e0 * g0 + e1 * g1 + e2 * g2 = D * g) (hD : 0 < D) (p0 : 0 ≤ e0) (p1 : 0 ≤ e1) (p2 : 0 ≤ e2) (q0 : g0 ≤ 0) (q1 : g1 ≤ 0) (q2 : g2 ≤ 0) : g ≤ 0 := by
  have := pn p0 q0; have := pn p1 q1; have := pn p2 q2
  exact ge_of (a := D) (by omega) hD
theorem in_lt {e0 e1 e2 g0 g1 g2 D g : Int} (h : e0 * g0 + e1 * g1 + e2 * g2 = D * g) (hs : e0 + e1 + e2 = D) (hD : 0 < D) (p0 : 0 ≤ e0) (p1 : 0 ≤ e1) (p2 : 0 ≤ e2) (q0 : g0 < 0) (q1 : g1 < 0) (q2 : g2 < 0) : g < 0 := by
  have a0 := pn p0 (show g0 ≤ 0 by omega); have a1 := pn p1 (show g1 ≤ 0 by omega); have a2 := pn p2 (show g2 ≤ 0 by omega)
  have hlt : e0 * g0 + e1 * g1 + e2 * g2 < 0 := by
    have hc : 0 < e0 ∨ 0 < e1 ∨ 0 < e2 := by omega
    rcases hc with c | c | c
    · have := pp c (show 0 < -g0 by omega); rw [Int.mul_neg] at this; omega
    · have := pp c (show 0 < -g1 by omega); rw [Int.mul_neg] at this; omega
    · have := pp c (show 0 < -g2 by omega); rw [Int.mul_neg] at this; omega
  apply Classical.byContradiction; intro hn
  have := nn (show 0 ≤ D by omega) (show 0 ≤ g by omega)
  omega
/-- What lies below 0 at a square's corners lies below 0 in it. -/
theorem sq_lt {α β γ x y s u v : Int} (h00 : α * x + β * y + γ < 0) (h10 : α * (x + s) + β * y + γ < 0) (h11 : α * (x + s) + β * (y + s) + γ < 0) (h01 : α * x + β * (y + s) + γ < 0)
    (hu : 0 ≤ u) (hu2 : u ≤ s) (hv : 0 ≤ v) (hv2 : v ≤ s) : α * (x + u) + β * (y + v) + γ < 0 := by
  simp only [Int.mul_add] at *
  have a1 : 0 ≤ α → α * u ≤ α * s := fun h => Int.mul_le_mul_of_nonneg_left hu2 h
  have a2 : α ≤ 0 → α * u ≤ 0 := fun h => np h hu
  have b1 : 0 ≤ β → β * v ≤ β * s := fun h => Int.mul_le_mul_of_nonneg_left hv2 h
  have b2 : β ≤ 0 → β * v ≤ 0 := fun h => np h hv
  rcases Int.le_total 0 α with c | c <;> rcases Int.le_total 0 β with d | d
  · have := a1 c; have := b1 d; omega
  · have := a1 c; have := b2 d; omega
  · have := a2 c; have := b1 d; omega
  · have := a2 c; have := b2 d; omega
theorem sq_ev (t : List Int) (i : Nat) {x y s u v : Int} (h00 : ev t i x y < 0) (h10 : ev t i (x + s) y < 0) (h11 : ev t i (x + s) (y + s) < 0) (h01 : ev t i x (y + s) < 0)
    (hu : 0 ≤ u) (hu2 : u ≤ s) (hv : 0 ≤ v) (hv2 : v ≤ s) : ev t i (x + u) (y + v) < 0 := by
  obtain ⟨α, β, γ, h⟩ := ev_aff t i
  rw [h] at h00 h10 h11 h01 ⊢
  exact sq_lt h00 h10 h11 h01 hu hu2 hv hv2
end Go.Proofs.Ytfkgjpdipdllhaa.Geo
/- Chapter 10's laws, plain: turned triangles. -/
set_option linter.unusedVariables false
namespace Go.Proofs.Ytfkgjpdipdllhaa.Sx
section
variable (a0 a1 a2 a3 a4 a5 b0 b1 b2 b3 b4 b5 x y c : Int)
theorem us_rot : (us a2 && (us a3 && (us a4 && (us a5 && (us a0 && us a1))))) = (us a0 && (us a1 && (us a2 && (us a3 && (us a4 && us a5))))) := by ac_rfl
theorem us_sw : (us a2 && (us a3 && (us a0 && (us a1 && (us a4 && us a5))))) = (us a0 && (us a1 && (us a2 && (us a3 && (us a4 && us a5))))) := by ac_rfl
theorem areaV_sw : areaV [a2, a3, a0, a1, a4, a5] = - areaV [a0, a1, a2, a3, a4, a5] := by simp only [areaV, cr2, List.getD_cons_zero, List.getD_cons_succ]; grind
theorem sgn_neg' (n : Int) : sgn (-n) = - sgn n := by unfold sgn; (repeat' split) <;> omega
theorem sdq_sw : sdq [a2, a3, a0, a1, a4, a5] = - sdq [a0, a1, a2, a3, a4, a5] := by
  unfold sdq; rw [areaV_sw a0 a1 a2 a3 a4 a5, sgn_neg']; simp only [List.all_cons, List.all_nil, Bool.and_true]; rw [us_sw a0 a1 a2 a3 a4 a5]; split <;> simp
theorem rgt_rot : rgt [a2, a3, a4, a5, a0, a1] = rgt [a0, a1, a2, a3, a4, a5] := by
  unfold rgt; rw [areaV_rot a0 a1 a2 a3 a4 a5]; simp only [List.all_cons, List.all_nil, Bool.and_true]; rw [us_rot a0 a1 a2 a3 a4 a5]
theorem rgt_sw : rgt [a2, a3, a0, a1, a4, a5] = rgt [a0, a1, a2, a3, a4, a5] := by
  unfold rgt; rw [areaV_sw a0 a1 a2 a3 a4 a5]; simp only [List.all_cons, List.all_nil, Bool.and_true]; rw [us_sw a0 a1 a2 a3 a4 a5]
  congr 2; rw [Bool.eq_iff_iff]; simp
theorem edq_r0 : edq [a2, a3, a4, a5, a0, a1] 0 x y = edq [a0, a1, a2, a3, a4, a5] 1 x y := by
  show sdq [a2, a3, a4, a5, a0, a1] * sdq [a2, a3, a4, a5, x, y] = sdq [a0, a1, a2, a3, a4, a5] * sdq [a2, a3, a4, a5, x, y]; rw [sdq_rot1 (a0 := a0)]
theorem edq_r1 : edq [a2, a3, a4, a5, a0, a1] 1 x y = edq [a0, a1, a2, a3, a4, a5] 2 x y := by
  show sdq [a2, a3, a4, a5, a0, a1] * sdq [a4, a5, a0, a1, x, y] = sdq [a0, a1, a2, a3, a4, a5] * sdq [a4, a5, a0, a1, x, y]; rw [sdq_rot1 (a0 := a0)]
theorem edq_r2 : edq [a2, a3, a4, a5, a0, a1] 2 x y = edq [a0, a1, a2, a3, a4, a5] 0 x y := by
  show sdq [a2, a3, a4, a5, a0, a1] * sdq [a0, a1, a2, a3, x, y] = sdq [a0, a1, a2, a3, a4, a5] * sdq [a0, a1, a2, a3, x, y]; rw [sdq_rot1 (a0 := a0)]
theorem edq_s0 : edq [a2, a3, a0, a1, a4, a5] 0 x y = edq [a0, a1, a2, a3, a4, a5] 0 x y := by
  show sdq [a2, a3, a0, a1, a4, a5] * sdq [a2, a3, a0, a1, x, y] = sdq [a0, a1, a2, a3, a4, a5] * sdq [a0, a1, a2, a3, x, y]
  have h1 := sdq_sw a0 a1 a2 a3 a4 a5; have h2 := sdq_sw a0 a1 a2 a3 x y
  rw [h1, h2, Int.neg_mul_neg]
theorem edq_s1 : edq [a2, a3, a0, a1, a4, a5] 1 x y = edq [a0, a1, a2, a3, a4, a5] 2 x y := by
  show sdq [a2, a3, a0, a1, a4, a5] * sdq [a0, a1, a4, a5, x, y] = sdq [a0, a1, a2, a3, a4, a5] * sdq [a4, a5, a0, a1, x, y]
  have h1 := sdq_sw a0 a1 a2 a3 a4 a5; have h2 := sdq_sw a4 a5 a0 a1 x y
  rw [h1, h2, Int.neg_mul_neg]
theorem edq_s2 : edq [a2, a3, a0, a1, a4, a5] 2 x y = edq [a0, a1, a2, a3, a4, a5] 1 x y := by
  show sdq [a2, a3, a0, a1, a4, a5] * sdq [a4, a5, a2, a3, x, y] = sdq [a0, a1, a2, a3, a4, a5] * sdq [a2, a3, a4, a5, x, y]
  have h1 := sdq_sw a0 a1 a2 a3 a4 a5; have h2 := sdq_sw a2 a3 a4 a5 x y
  rw [h1, h2, Int.neg_mul_neg]
theorem outE_eq {t t' : List Int} {i j : Nat} (h : ∀ x y, edq t i x y = edq t' j x y) (l : List (Int × Int)) : outE t i c l = outE t' j c l := by
  unfold outE; congr 1; funext p; rw [h]
theorem apB_rot (l : List Int) : apB [a2, a3, a4, a5, a0, a1] c l = apB [a0, a1, a2, a3, a4, a5] c l := by
  unfold apB
  have h0 := outE_eq c (edq_r0 a0 a1 a2 a3 a4 a5) (ptsOf l); have h1 := outE_eq c (edq_r1 a0 a1 a2 a3 a4 a5) (ptsOf l); have h2 := outE_eq c (edq_r2 a0 a1 a2 a3 a4 a5) (ptsOf l)
  rw [h0, h1, h2]
  ac_rfl
theorem apB_sw (l : List Int) : apB [a2, a3, a0, a1, a4, a5] c l = apB [a0, a1, a2, a3, a4, a5] c l := by
  unfold apB
  have h0 := outE_eq c (edq_s0 a0 a1 a2 a3 a4 a5) (ptsOf l); have h1 := outE_eq c (edq_s1 a0 a1 a2 a3 a4 a5) (ptsOf l); have h2 := outE_eq c (edq_s2 a0 a1 a2 a3 a4 a5) (ptsOf l)
  rw [h0, h1, h2]
  ac_rfl
theorem outE_prot (t : List Int) (i : Nat) : outE t i c (ptsOf [a2, a3, a4, a5, a0, a1]) = outE t i c (ptsOf [a0, a1, a2, a3, a4, a5]) := by
  simp only [outE, ptsOf, List.all_cons, List.all_nil, Bool.and_true]; ac_rfl
theorem outE_psw (t : List Int) (i : Nat) : outE t i c (ptsOf [a2, a3, a0, a1, a4, a5]) = outE t i c (ptsOf [a0, a1, a2, a3, a4, a5]) := by
  simp only [outE, ptsOf, List.all_cons, List.all_nil, Bool.and_true]; ac_rfl
theorem apB_prot (t : List Int) : apB t c [a2, a3, a4, a5, a0, a1] = apB t c [a0, a1, a2, a3, a4, a5] := by unfold apB; rw [outE_prot a0, outE_prot a0, outE_prot a0]
theorem apB_psw (t : List Int) : apB t c [a2, a3, a0, a1, a4, a5] = apB t c [a0, a1, a2, a3, a4, a5] := by unfold apB; rw [outE_psw a0, outE_psw a0, outE_psw a0]
theorem bothB_turn : bothB c [b2, b3, b0, b1, b4, b5, a2, a3, a4, a5, a0, a1] = bothB c [a0, a1, a2, a3, a4, a5, b0, b1, b2, b3, b4, b5] := by
  show (!apB [b2, b3, b0, b1, b4, b5] c [a2, a3, a4, a5, a0, a1] && !apB [a2, a3, a4, a5, a0, a1] c [b2, b3, b0, b1, b4, b5]) = (!apB [a0, a1, a2, a3, a4, a5] c [b0, b1, b2, b3, b4, b5] && !apB [b0, b1, b2, b3, b4, b5] c [a0, a1, a2, a3, a4, a5])
  rw [apB_sw b0 b1 b2 b3 b4 b5, apB_prot a0 a1 a2 a3 a4 a5, apB_rot a0 a1 a2 a3 a4 a5, apB_psw b0 b1 b2 b3 b4 b5, Bool.and_comm]
theorem f59_turn : fb 59 0 [b2, b3, b0, b1, b4, b5, a2, a3, a4, a5, a0, a1] = fb 59 0 [a0, a1, a2, a3, a4, a5, b0, b1, b2, b3, b4, b5] := by
  show (rgt [b2, b3, b0, b1, b4, b5] && rgt [a2, a3, a4, a5, a0, a1] && bothB 1 _) = (rgt [a0, a1, a2, a3, a4, a5] && rgt [b0, b1, b2, b3, b4, b5] && bothB 1 _)
  rw [rgt_sw b0 b1 b2 b3 b4 b5, rgt_rot a0 a1 a2 a3 a4 a5, bothB_turn, Bool.and_comm (rgt [b0, b1, b2, b3, b4, b5])]
theorem f60_turn : fb 60 0 [b2, b3, b0, b1, b4, b5, a2, a3, a4, a5, a0, a1] = fb 60 0 [a0, a1, a2, a3, a4, a5, b0, b1, b2, b3, b4, b5] := by
  show (rgt [b2, b3, b0, b1, b4, b5] && rgt [a2, a3, a4, a5, a0, a1] && bothB 0 _) = (rgt [a0, a1, a2, a3, a4, a5] && rgt [b0, b1, b2, b3, b4, b5] && bothB 0 _)
  rw [rgt_sw b0 b1 b2 b3 b4 b5, rgt_rot a0 a1 a2 a3 a4 a5, bothB_turn, Bool.and_comm (rgt [b0, b1, b2, b3, b4, b5])]
theorem bothe_turn : bothe [b2, b3, b0, b1, b4, b5, a2, a3, a4, a5, a0, a1] = bothe [a0, a1, a2, a3, a4, a5, b0, b1, b2, b3, b4, b5] := by
  show (if (rgt [b2, b3, b0, b1, b4, b5] && rgt [a2, a3, a4, a5, a0, a1]) = true then (0 : Int) else 1) = (if (rgt [a0, a1, a2, a3, a4, a5] && rgt [b0, b1, b2, b3, b4, b5]) = true then 0 else 1)
  rw [rgt_sw b0 b1 b2 b3 b4 b5, rgt_rot a0 a1 a2 a3 a4 a5, Bool.and_comm]
theorem g59_turn : fi 59 0 [b2, b3, b0, b1, b4, b5, a2, a3, a4, a5, a0, a1] = fi 59 0 [a0, a1, a2, a3, a4, a5, b0, b1, b2, b3, b4, b5] := bothe_turn a0 a1 a2 a3 a4 a5 b0 b1 b2 b3 b4 b5
theorem g60_turn : fi 60 0 [b2, b3, b0, b1, b4, b5, a2, a3, a4, a5, a0, a1] = fi 60 0 [a0, a1, a2, a3, a4, a5, b0, b1, b2, b3, b4, b5] := bothe_turn a0 a1 a2 a3 a4 a5 b0 b1 b2 b3 b4 b5
theorem inV_rot : inV [x, y, a2, a3, a4, a5, a0, a1] = inV [x, y, a0, a1, a2, a3, a4, a5] := by
  show min (min (min 1 (edq [a2, a3, a4, a5, a0, a1] 0 x y)) (edq [a2, a3, a4, a5, a0, a1] 1 x y)) (edq [a2, a3, a4, a5, a0, a1] 2 x y) + 1 = min (min (min 1 (edq [a0, a1, a2, a3, a4, a5] 0 x y)) (edq [a0, a1, a2, a3, a4, a5] 1 x y)) (edq [a0, a1, a2, a3, a4, a5] 2 x y) + 1
  have h0 := edq_r0 a0 a1 a2 a3 a4 a5 x y; have h1 := edq_r1 a0 a1 a2 a3 a4 a5 x y; have h2 := edq_r2 a0 a1 a2 a3 a4 a5 x y
  omega
theorem f57_rot : fi 57 0 [x, y, a2, a3, a4, a5, a0, a1] = fi 57 0 [x, y, a0, a1, a2, a3, a4, a5] := by
  show (if ([x, y].all us && rgt [a2, a3, a4, a5, a0, a1]) = true then inV _ else 0) = (if ([x, y].all us && rgt [a0, a1, a2, a3, a4, a5]) = true then inV _ else 0)
  rw [rgt_rot a0 a1 a2 a3 a4 a5, inV_rot a0 a1 a2 a3 a4 a5]
theorem e57_rot : fi 57 1 [x, y, a2, a3, a4, a5, a0, a1] = fi 57 1 [x, y, a0, a1, a2, a3, a4, a5] := by
  show (if [x, y].all us = true then (if rgt [a2, a3, a4, a5, a0, a1] = true then (0 : Int) else 1) else 5) = (if [x, y].all us = true then (if rgt [a0, a1, a2, a3, a4, a5] = true then 0 else 1) else 5)
  rw [rgt_rot a0 a1 a2 a3 a4 a5]
theorem sqBox_rot : sqBox [x, y, c, a2, a3, a4, a5, a0, a1] = sqBox [x, y, c, a0, a1, a2, a3, a4, a5] := by
  simp only [sqBox, List.getD_cons_zero, List.getD_cons_succ]
  rw [show min (min a2 a4) a0 = min (min a0 a2) a4 by omega, show min (min a3 a5) a1 = min (min a1 a3) a5 by omega, show max (max a2 a4) a0 = max (max a0 a2) a4 by omega, show max (max a3 a5) a1 = max (max a1 a3) a5 by omega]
theorem f61_rot : fb 61 0 [x, y, c, a2, a3, a4, a5, a0, a1] = fb 61 0 [x, y, c, a0, a1, a2, a3, a4, a5] := by
  show (sqg [x, y, c, a2, a3, a4, a5, a0, a1] && (rgt [a2, a3, a4, a5, a0, a1] && (sqBox [x, y, c, a2, a3, a4, a5, a0, a1] && !apB [a2, a3, a4, a5, a0, a1] 0 (sqC [x, y, c, a2, a3, a4, a5, a0, a1])))) =
    (sqg [x, y, c, a0, a1, a2, a3, a4, a5] && (rgt [a0, a1, a2, a3, a4, a5] && (sqBox [x, y, c, a0, a1, a2, a3, a4, a5] && !apB [a0, a1, a2, a3, a4, a5] 0 (sqC [x, y, c, a0, a1, a2, a3, a4, a5]))))
  rw [rgt_rot a0 a1 a2 a3 a4 a5, sqBox_rot a0 a1 a2 a3 a4 a5, apB_rot a0 a1 a2 a3 a4 a5]
  rfl
theorem g61_rot : fi 61 0 [x, y, c, a2, a3, a4, a5, a0, a1] = fi 61 0 [x, y, c, a0, a1, a2, a3, a4, a5] := by
  show (if sqg [x, y, c, a2, a3, a4, a5, a0, a1] = true then (if rgt [a2, a3, a4, a5, a0, a1] = true then (0 : Int) else 1) else 5) = (if sqg [x, y, c, a0, a1, a2, a3, a4, a5] = true then (if rgt [a0, a1, a2, a3, a4, a5] = true then 0 else 1) else 5)
  rw [rgt_rot a0 a1 a2 a3 a4 a5]
  rfl
end
end Go.Proofs.Ytfkgjpdipdllhaa.Sx
/- Chapter 10's laws, plain: points inside, triangles and squares that meet. -/
set_option linter.unusedVariables false
set_option linter.unusedSimpArgs false
namespace Go.Proofs.Ytfkgjpdipdllhaa.Sx
open Geo
section
variable (a0 a1 a2 a3 a4 a5 b0 b1 b2 b3 b4 b5 x y c : Int)
theorem F570 : fi 57 0 [x, y, a0, a1, a2, a3, a4, a5] = if (us x && us y && rgt [a0, a1, a2, a3, a4, a5]) = true then inV [x, y, a0, a1, a2, a3, a4, a5] else 0 := by
  show (if ([x, y].all us && rgt [a0, a1, a2, a3, a4, a5]) = true then _ else _) = _
  simp only [List.all_cons, List.all_nil, Bool.and_true]
theorem F571 : fi 57 1 [x, y, a0, a1, a2, a3, a4, a5] = if (us x && us y) = true then (if rgt [a0, a1, a2, a3, a4, a5] = true then 0 else 1) else 5 := by
  show (if [x, y].all us = true then (if rgt [a0, a1, a2, a3, a4, a5] = true then (0 : Int) else 1) else 5) = _
  simp only [List.all_cons, List.all_nil, Bool.and_true]
theorem F59b : fb 59 0 [a0, a1, a2, a3, a4, a5, b0, b1, b2, b3, b4, b5] = (rgt [a0, a1, a2, a3, a4, a5] && rgt [b0, b1, b2, b3, b4, b5] && bothB 1 [a0, a1, a2, a3, a4, a5, b0, b1, b2, b3, b4, b5]) := rfl
theorem F60b : fb 60 0 [a0, a1, a2, a3, a4, a5, b0, b1, b2, b3, b4, b5] = (rgt [a0, a1, a2, a3, a4, a5] && rgt [b0, b1, b2, b3, b4, b5] && bothB 0 [a0, a1, a2, a3, a4, a5, b0, b1, b2, b3, b4, b5]) := rfl
theorem F59i : fi 59 0 [a0, a1, a2, a3, a4, a5, b0, b1, b2, b3, b4, b5] = if (rgt [a0, a1, a2, a3, a4, a5] && rgt [b0, b1, b2, b3, b4, b5]) = true then 0 else 1 := rfl
theorem F60i : fi 60 0 [a0, a1, a2, a3, a4, a5, b0, b1, b2, b3, b4, b5] = if (rgt [a0, a1, a2, a3, a4, a5] && rgt [b0, b1, b2, b3, b4, b5]) = true then 0 else 1 := rfl
theorem F61b : fb 61 0 [x, y, c, a0, a1, a2, a3, a4, a5] = (sqg [x, y, c] && (rgt [a0, a1, a2, a3, a4, a5] && sqB [x, y, c, a0, a1, a2, a3, a4, a5])) := rfl
theorem F61i : fi 61 0 [x, y, c, a0, a1, a2, a3, a4, a5] = if sqg [x, y, c] = true then (if rgt [a0, a1, a2, a3, a4, a5] = true then 0 else 1) else 5 := rfl
end
theorem sgn1 (v : Int) : sgn v = 1 ↔ 0 < v := by unfold sgn; (repeat' split) <;> omega
theorem sgn0 (v : Int) : sgn v = 0 ↔ v = 0 := by unfold sgn; (repeat' split) <;> omega
theorem sgnlt1 (v : Int) : sgn v < 1 ↔ v ≤ 0 := by unfold sgn; (repeat' split) <;> omega
theorem sgnlt0 (v : Int) : sgn v < 0 ↔ v < 0 := by unfold sgn; (repeat' split) <;> omega
theorem sgn_b (v : Int) : -1 ≤ sgn v ∧ sgn v ≤ 1 := by unfold sgn; (repeat' split) <;> omega
section
variable {a0 a1 a2 a3 a4 a5 b0 b1 b2 b3 b4 b5 x y : Int}
theorem rgt_iff : rgt [a0, a1, a2, a3, a4, a5] = true ↔ ((us a0 = true ∧ us a1 = true ∧ us a2 = true ∧ us a3 = true ∧ us a4 = true ∧ us a5 = true) ∧ areaV [a0, a1, a2, a3, a4, a5] ≠ 0) := by
  unfold rgt
  simp [and_assoc]
theorem edq_ev (h : rgt [a0, a1, a2, a3, a4, a5] = true) (hx : us x = true) (hy : us y = true) (i : Nat) (hi : i < 3) : edq [a0, a1, a2, a3, a4, a5] i x y = sgn (Geo.ev [a0, a1, a2, a3, a4, a5] i x y) := by
  obtain ⟨⟨h0, h1, h2, h3, h4, h5⟩, hA⟩ := rgt_iff.1 h
  have e1 : sdq [a0, a1, a2, a3, a4, a5] = sgn (areaV [a0, a1, a2, a3, a4, a5]) := by unfold sdq; simp [h0, h1, h2, h3, h4, h5]
  have e2 : edq [a0, a1, a2, a3, a4, a5] i x y = sgn (areaV [a0, a1, a2, a3, a4, a5]) * sgn (cz [a0, a1, a2, a3, a4, a5] i x y) := by
    have hi3 : i = 0 ∨ i = 1 ∨ i = 2 := by omega
    unfold edq
    rw [e1]
    congr 1
    rcases hi3 with rfl | rfl | rfl
    · show sdq [a0, a1, a2, a3, x, y] = sgn (areaV [a0, a1, a2, a3, x, y]); unfold sdq; simp [h0, h1, h2, h3, hx, hy]
    · show sdq [a2, a3, a4, a5, x, y] = sgn (areaV [a2, a3, a4, a5, x, y]); unfold sdq; simp [h2, h3, h4, h5, hx, hy]
    · show sdq [a4, a5, a0, a1, x, y] = sgn (areaV [a4, a5, a0, a1, x, y]); unfold sdq; simp [h0, h1, h4, h5, hx, hy]
  rw [e2]
  unfold Geo.ev
  by_cases hp : 0 < areaV [a0, a1, a2, a3, a4, a5]
  · rw [if_pos hp, (sgn1 _).2 hp, Int.one_mul]
  · rw [if_neg hp, sgn_neg', show sgn (areaV [a0, a1, a2, a3, a4, a5]) = -1 by unfold sgn; rw [if_pos (by omega)], Int.neg_mul, Int.one_mul]
/-- An edge leaves a small triangle's corners outside, or on it. -/
theorem out1 (h : rgt [a0, a1, a2, a3, a4, a5] = true) (hb : rgt [b0, b1, b2, b3, b4, b5] = true) (i : Nat) (hi : i < 3) :
    outE [a0, a1, a2, a3, a4, a5] i 1 (ptsOf [b0, b1, b2, b3, b4, b5]) = true ↔ (Geo.ev [a0, a1, a2, a3, a4, a5] i b0 b1 ≤ 0 ∧ Geo.ev [a0, a1, a2, a3, a4, a5] i b2 b3 ≤ 0 ∧ Geo.ev [a0, a1, a2, a3, a4, a5] i b4 b5 ≤ 0) := by
  obtain ⟨⟨h0, h1, h2, h3, h4, h5⟩, _⟩ := rgt_iff.1 hb
  simp only [outE, ptsOf, List.all_cons, List.all_nil, Bool.and_true, Bool.and_eq_true, decide_eq_true_eq, edq_ev h h0 h1 i hi, edq_ev h h2 h3 i hi, edq_ev h h4 h5 i hi, sgnlt1]
theorem out0 (h : rgt [a0, a1, a2, a3, a4, a5] = true) (hb : rgt [b0, b1, b2, b3, b4, b5] = true) (i : Nat) (hi : i < 3) :
    outE [a0, a1, a2, a3, a4, a5] i 0 (ptsOf [b0, b1, b2, b3, b4, b5]) = true ↔ (Geo.ev [a0, a1, a2, a3, a4, a5] i b0 b1 < 0 ∧ Geo.ev [a0, a1, a2, a3, a4, a5] i b2 b3 < 0 ∧ Geo.ev [a0, a1, a2, a3, a4, a5] i b4 b5 < 0) := by
  obtain ⟨⟨h0, h1, h2, h3, h4, h5⟩, _⟩ := rgt_iff.1 hb
  simp only [outE, ptsOf, List.all_cons, List.all_nil, Bool.and_true, Bool.and_eq_true, decide_eq_true_eq, edq_ev h h0 h1 i hi, edq_ev h h2 h3 i hi, edq_ev h h4 h5 i hi, sgnlt0]
theorem apB_iff {t : List Int} {c : Int} {l : List Int} : apB t c l = true ↔ ∃ i, i < 3 ∧ outE t i c (ptsOf l) = true := by
  unfold apB
  simp only [Bool.or_eq_true]
  constructor
  · rintro (h | h | h)
    · exact ⟨0, by omega, h⟩
    · exact ⟨1, by omega, h⟩
    · exact ⟨2, by omega, h⟩
  · rintro ⟨i, hi, h⟩
    have hi3 : i = 0 ∨ i = 1 ∨ i = 2 := by omega
    rcases hi3 with rfl | rfl | rfl
    · exact .inl h
    · exact .inr (.inl h)
    · exact .inr (.inr h)
theorem inV_2 (h : rgt [a0, a1, a2, a3, a4, a5] = true) (hx : us x = true) (hy : us y = true) (hv : inV [x, y, a0, a1, a2, a3, a4, a5] = 2) (i : Nat) (hi : i < 3) : 0 < Geo.ev [a0, a1, a2, a3, a4, a5] i x y := by
  have h0 := edq_ev h hx hy 0 (by omega); have h1 := edq_ev h hx hy 1 (by omega); have h2 := edq_ev h hx hy 2 (by omega)
  have hv : min (min (min 1 (edq [a0, a1, a2, a3, a4, a5] 0 x y)) (edq [a0, a1, a2, a3, a4, a5] 1 x y)) (edq [a0, a1, a2, a3, a4, a5] 2 x y) + 1 = 2 := hv
  rw [h0, h1, h2] at hv
  have s0 := sgn_b (Geo.ev [a0, a1, a2, a3, a4, a5] 0 x y); have s1 := sgn_b (Geo.ev [a0, a1, a2, a3, a4, a5] 1 x y); have s2 := sgn_b (Geo.ev [a0, a1, a2, a3, a4, a5] 2 x y)
  have hi3 : i = 0 ∨ i = 1 ∨ i = 2 := by omega
  rcases hi3 with rfl | rfl | rfl <;> exact (sgn1 _).1 (by omega)
theorem inV_1 (h : rgt [a0, a1, a2, a3, a4, a5] = true) (hx : us x = true) (hy : us y = true) (hv : inV [x, y, a0, a1, a2, a3, a4, a5] ≠ 0) (i : Nat) (hi : i < 3) : 0 ≤ Geo.ev [a0, a1, a2, a3, a4, a5] i x y := by
  have h0 := edq_ev h hx hy 0 (by omega); have h1 := edq_ev h hx hy 1 (by omega); have h2 := edq_ev h hx hy 2 (by omega)
  have hv : min (min (min 1 (edq [a0, a1, a2, a3, a4, a5] 0 x y)) (edq [a0, a1, a2, a3, a4, a5] 1 x y)) (edq [a0, a1, a2, a3, a4, a5] 2 x y) + 1 ≠ 0 := hv
  rw [h0, h1, h2] at hv
  have s0 := sgn_b (Geo.ev [a0, a1, a2, a3, a4, a5] 0 x y); have s1 := sgn_b (Geo.ev [a0, a1, a2, a3, a4, a5] 1 x y); have s2 := sgn_b (Geo.ev [a0, a1, a2, a3, a4, a5] 2 x y)
  have key : ∀ v : Int, 0 ≤ sgn v → 0 ≤ v := fun v hh => by
    apply Classical.byContradiction; intro hn
    have := (sgnlt0 v).2 (by omega); omega
  have hi3 : i = 0 ∨ i = 1 ∨ i = 2 := by omega
  rcases hi3 with rfl | rfl | rfl <;> exact key _ (by omega)
theorem no_out1 (h : rgt [a0, a1, a2, a3, a4, a5] = true) (hb : rgt [b0, b1, b2, b3, b4, b5] = true) (pa : ∀ i, i < 3 → 0 < Geo.ev [a0, a1, a2, a3, a4, a5] i x y) (pb : ∀ i, i < 3 → 0 ≤ Geo.ev [b0, b1, b2, b3, b4, b5] i x y) : apB [a0, a1, a2, a3, a4, a5] 1 [b0, b1, b2, b3, b4, b5] = false := by
  rw [Bool.eq_false_iff]; intro hh
  obtain ⟨i, hi, ho⟩ := apB_iff.1 hh
  obtain ⟨o0, o1, o2⟩ := (out1 h hb i hi).1 ho
  have := in_le (weigh [a0, a1, a2, a3, a4, a5] i b0 b1 b2 b3 b4 b5 x y) (ab_pos (rgt_iff.1 hb).2) (pb 0 (by omega)) (pb 1 (by omega)) (pb 2 (by omega)) o2 o0 o1
  have := pa i hi
  omega
theorem no_out0 (h : rgt [a0, a1, a2, a3, a4, a5] = true) (hb : rgt [b0, b1, b2, b3, b4, b5] = true) (pa : ∀ i, i < 3 → 0 ≤ Geo.ev [a0, a1, a2, a3, a4, a5] i x y) (pb : ∀ i, i < 3 → 0 ≤ Geo.ev [b0, b1, b2, b3, b4, b5] i x y) : apB [a0, a1, a2, a3, a4, a5] 0 [b0, b1, b2, b3, b4, b5] = false := by
  rw [Bool.eq_false_iff]; intro hh
  obtain ⟨i, hi, ho⟩ := apB_iff.1 hh
  obtain ⟨o0, o1, o2⟩ := (out0 h hb i hi).1 ho
  have := in_lt (weigh [a0, a1, a2, a3, a4, a5] i b0 b1 b2 b3 b4 b5 x y) (ev_sum ..) (ab_pos (rgt_iff.1 hb).2) (pb 0 (by omega)) (pb 1 (by omega)) (pb 2 (by omega)) o2 o0 o1
  have := pa i hi
  omega
theorem pt1 (h : rgt [a0, a1, a2, a3, a4, a5] = true) (hb : rgt [b0, b1, b2, b3, b4, b5] = true) (hs : (us x && us y) = true) (ia : inV [x, y, a0, a1, a2, a3, a4, a5] = 2) (ib : inV [x, y, b0, b1, b2, b3, b4, b5] = 2) : bothB 1 [a0, a1, a2, a3, a4, a5, b0, b1, b2, b3, b4, b5] = true := by
  simp only [Bool.and_eq_true] at hs
  have pa := inV_2 h hs.1 hs.2 ia; have pb := inV_2 hb hs.1 hs.2 ib
  show (!apB [a0, a1, a2, a3, a4, a5] 1 [b0, b1, b2, b3, b4, b5] && !apB [b0, b1, b2, b3, b4, b5] 1 [a0, a1, a2, a3, a4, a5]) = true
  rw [no_out1 h hb pa (fun i hi => by have := pb i hi; omega), no_out1 hb h pb (fun i hi => by have := pa i hi; omega)]; rfl
theorem pt2 (h : rgt [a0, a1, a2, a3, a4, a5] = true) (hb : rgt [b0, b1, b2, b3, b4, b5] = true) (hs : (us x && us y) = true) (ia : inV [x, y, a0, a1, a2, a3, a4, a5] ≠ 0) (ib : inV [x, y, b0, b1, b2, b3, b4, b5] ≠ 0) : bothB 0 [a0, a1, a2, a3, a4, a5, b0, b1, b2, b3, b4, b5] = true := by
  simp only [Bool.and_eq_true] at hs
  have pa := inV_1 h hs.1 hs.2 ia; have pb := inV_1 hb hs.1 hs.2 ib
  show (!apB [a0, a1, a2, a3, a4, a5] 0 [b0, b1, b2, b3, b4, b5] && !apB [b0, b1, b2, b3, b4, b5] 0 [a0, a1, a2, a3, a4, a5]) = true
  rw [no_out0 h hb pa pb, no_out0 hb h pb pa]; rfl
end
theorem outE_mono {t : List Int} {i : Nat} {l : List (Int × Int)} (h : outE t i 0 l = true) : outE t i 1 l = true := by
  unfold outE at *
  rw [List.all_eq_true] at *
  intro p hp
  have := h p hp
  simp only [decide_eq_true_eq] at *
  omega
theorem apB_mono {t l : List Int} (h : apB t 1 l = false) : apB t 0 l = false := by
  rw [Bool.eq_false_iff] at *
  intro hh
  obtain ⟨i, hi, ho⟩ := apB_iff.1 hh
  exact h (apB_iff.2 ⟨i, hi, outE_mono ho⟩)
theorem pt3 {l : List Int} (h : bothB 1 l = true) : bothB 0 l = true := by
  unfold bothB at *
  simp only [Bool.and_eq_true, Bool.not_eq_true'] at *
  exact ⟨apB_mono h.1, apB_mono h.2⟩
section
variable {a0 a1 a2 a3 a4 a5 b0 b1 b2 b3 b4 b5 x y : Int}
/- The corners of a triangle. -/
theorem cz_c (t : List Int) (i : Nat) (x y : Int) (h : Geo.cz t i x y = 0) : Geo.ev t i x y = 0 := by unfold Geo.ev; split <;> omega
theorem cz_o (t : List Int) (i : Nat) (x y : Int) (h : Geo.cz t i x y = areaV t) : Geo.ev t i x y = ab t := by unfold Geo.ev ab; split <;> omega
theorem crp_1 (o p : P2) : crp o p o = 0 := by unfold crp; grind
theorem crp_2 (o p : P2) : crp o p p = 0 := by unfold crp; grind
theorem ev00 : Geo.ev [a0, a1, a2, a3, a4, a5] 0 a0 a1 = 0 := cz_c _ _ _ _ (crp_1 ⟨a0, a1⟩ ⟨a2, a3⟩)
theorem ev01 : Geo.ev [a0, a1, a2, a3, a4, a5] 0 a2 a3 = 0 := cz_c _ _ _ _ (crp_2 ⟨a0, a1⟩ ⟨a2, a3⟩)
theorem ev02 : Geo.ev [a0, a1, a2, a3, a4, a5] 0 a4 a5 = ab [a0, a1, a2, a3, a4, a5] := cz_o _ _ _ _ rfl
theorem ev11 : Geo.ev [a0, a1, a2, a3, a4, a5] 1 a2 a3 = 0 := cz_c _ _ _ _ (crp_1 ⟨a2, a3⟩ ⟨a4, a5⟩)
theorem ev12 : Geo.ev [a0, a1, a2, a3, a4, a5] 1 a4 a5 = 0 := cz_c _ _ _ _ (crp_2 ⟨a2, a3⟩ ⟨a4, a5⟩)
theorem ev10 : Geo.ev [a0, a1, a2, a3, a4, a5] 1 a0 a1 = ab [a0, a1, a2, a3, a4, a5] := cz_o _ _ _ _ (crp_cyc ⟨a0, a1⟩ ⟨a2, a3⟩ ⟨a4, a5⟩).symm
theorem ev22 : Geo.ev [a0, a1, a2, a3, a4, a5] 2 a4 a5 = 0 := cz_c _ _ _ _ (crp_1 ⟨a4, a5⟩ ⟨a0, a1⟩)
theorem ev20 : Geo.ev [a0, a1, a2, a3, a4, a5] 2 a0 a1 = 0 := cz_c _ _ _ _ (crp_2 ⟨a4, a5⟩ ⟨a0, a1⟩)
theorem ev21 : Geo.ev [a0, a1, a2, a3, a4, a5] 2 a2 a3 = ab [a0, a1, a2, a3, a4, a5] := cz_o _ _ _ _ (crp_cyc ⟨a4, a5⟩ ⟨a0, a1⟩ ⟨a2, a3⟩)
theorem corner (h : rgt [a0, a1, a2, a3, a4, a5] = true) (hx : us x = true) (hy : us y = true) (e0 : Geo.ev [a0, a1, a2, a3, a4, a5] 0 x y = 0 ∨ Geo.ev [a0, a1, a2, a3, a4, a5] 0 x y = ab [a0, a1, a2, a3, a4, a5])
    (e1 : Geo.ev [a0, a1, a2, a3, a4, a5] 1 x y = 0 ∨ Geo.ev [a0, a1, a2, a3, a4, a5] 1 x y = ab [a0, a1, a2, a3, a4, a5]) (e2 : Geo.ev [a0, a1, a2, a3, a4, a5] 2 x y = 0 ∨ Geo.ev [a0, a1, a2, a3, a4, a5] 2 x y = ab [a0, a1, a2, a3, a4, a5])
    (h0 : Geo.ev [a0, a1, a2, a3, a4, a5] 0 x y = 0 ∨ Geo.ev [a0, a1, a2, a3, a4, a5] 1 x y = 0) : inV [x, y, a0, a1, a2, a3, a4, a5] = 1 := by
  have k0 := edq_ev h hx hy 0 (by omega); have k1 := edq_ev h hx hy 1 (by omega); have k2 := edq_ev h hx hy 2 (by omega)
  have hp := ab_pos (rgt_iff.1 h).2
  show min (min (min 1 (edq [a0, a1, a2, a3, a4, a5] 0 x y)) (edq [a0, a1, a2, a3, a4, a5] 1 x y)) (edq [a0, a1, a2, a3, a4, a5] 2 x y) + 1 = 1
  rw [k0, k1, k2]
  have z : ∀ v : Int, (v = 0 ∨ v = ab [a0, a1, a2, a3, a4, a5]) → (v = 0 → sgn v = 0) ∧ 0 ≤ sgn v := fun v hv => ⟨fun e => (sgn0 v).2 e, by
    rcases hv with e | e
    · rw [(sgn0 v).2 e]; omega
    · rw [(sgn1 v).2 (by omega)]; omega⟩
  have z0 := z _ e0; have z1 := z _ e1; have z2 := z _ e2
  rcases h0 with h0 | h0
  · have := z0.1 h0; omega
  · have := z1.1 h0; omega
theorem corners (h : rgt [a0, a1, a2, a3, a4, a5] = true) : inV [a0, a1, a0, a1, a2, a3, a4, a5] = 1 ∧ inV [a2, a3, a0, a1, a2, a3, a4, a5] = 1 ∧ inV [a4, a5, a0, a1, a2, a3, a4, a5] = 1 := by
  obtain ⟨⟨h0, h1, h2, h3, h4, h5⟩, _⟩ := rgt_iff.1 h
  exact ⟨corner h h0 h1 (.inl ev00) (.inr ev10) (.inl ev20) (.inl ev00), corner h h2 h3 (.inl ev01) (.inl ev11) (.inr ev21) (.inl ev01), corner h h4 h5 (.inr ev02) (.inl ev12) (.inl ev22) (.inr ev12)⟩
theorem self1 (h : rgt [a0, a1, a2, a3, a4, a5] = true) : bothB 1 [a0, a1, a2, a3, a4, a5, a0, a1, a2, a3, a4, a5] = true := by
  have hp := ab_pos (rgt_iff.1 h).2
  have key : apB [a0, a1, a2, a3, a4, a5] 1 [a0, a1, a2, a3, a4, a5] = false := by
    rw [Bool.eq_false_iff]; intro hh
    obtain ⟨i, hi, ho⟩ := apB_iff.1 hh
    obtain ⟨o0, o1, o2⟩ := (out1 h h i hi).1 ho
    have hi3 : i = 0 ∨ i = 1 ∨ i = 2 := by omega
    rcases hi3 with rfl | rfl | rfl
    · rw [ev02] at o2; omega
    · rw [ev10] at o0; omega
    · rw [ev21] at o1; omega
  show (!apB [a0, a1, a2, a3, a4, a5] 1 [a0, a1, a2, a3, a4, a5] && !apB [a0, a1, a2, a3, a4, a5] 1 [a0, a1, a2, a3, a4, a5]) = true
  rw [key]; rfl
/-- A square that has a point of the triangle at its corner meets it. -/
theorem sq_corner (h : rgt [a0, a1, a2, a3, a4, a5] = true) (hx : us x = true) (hy : us y = true) (e : ∀ i, i < 3 → 0 ≤ Geo.ev [a0, a1, a2, a3, a4, a5] i x y) (c : Int) (l : List (Int × Int)) : apB [a0, a1, a2, a3, a4, a5] 0 (sqC [x, y, c, a0, a1, a2, a3, a4, a5]) = false := by
  rw [Bool.eq_false_iff]; intro hh
  obtain ⟨i, hi, ho⟩ := apB_iff.1 hh
  have h1 : (decide (edq [a0, a1, a2, a3, a4, a5] i x y < 0) && _) = true := ho
  simp only [Bool.and_eq_true, decide_eq_true_eq] at h1
  have := h1.1
  rw [edq_ev h hx hy i hi, sgnlt0] at this
  have := e i hi
  omega
theorem selfsq (h : rgt [a0, a1, a2, a3, a4, a5] = true) : sqB [a0, a1, 1, a0, a1, a2, a3, a4, a5] = true ∧ sqB [a2, a3, 1, a0, a1, a2, a3, a4, a5] = true ∧ sqB [a4, a5, 1, a0, a1, a2, a3, a4, a5] = true := by
  obtain ⟨⟨h0, h1, h2, h3, h4, h5⟩, hA⟩ := rgt_iff.1 h
  have hp := ab_pos hA
  have i3 : ∀ {p : Nat → Prop}, p 0 → p 1 → p 2 → ∀ i, i < 3 → p i := fun q0 q1 q2 i hi => by
    have hi3 : i = 0 ∨ i = 1 ∨ i = 2 := by omega
    rcases hi3 with rfl | rfl | rfl <;> assumption
  refine ⟨?_, ?_, ?_⟩
  · show (sqBox [a0, a1, 1, a0, a1, a2, a3, a4, a5] && !apB [a0, a1, a2, a3, a4, a5] 0 (sqC [a0, a1, 1, a0, a1, a2, a3, a4, a5])) = true
    rw [sq_corner h h0 h1 (i3 (by rw [ev00]; omega) (by rw [ev10]; omega) (by rw [ev20]; omega)) 1 []]
    simp only [sqBox, List.getD_cons_zero, List.getD_cons_succ, Bool.not_false, Bool.and_true, Bool.and_eq_true, decide_eq_true_eq]; omega
  · show (sqBox [a2, a3, 1, a0, a1, a2, a3, a4, a5] && !apB [a0, a1, a2, a3, a4, a5] 0 (sqC [a2, a3, 1, a0, a1, a2, a3, a4, a5])) = true
    rw [sq_corner h h2 h3 (i3 (by rw [ev01]; omega) (by rw [ev11]; omega) (by rw [ev21]; omega)) 1 []]
    simp only [sqBox, List.getD_cons_zero, List.getD_cons_succ, Bool.not_false, Bool.and_true, Bool.and_eq_true, decide_eq_true_eq]; omega
  · show (sqBox [a4, a5, 1, a0, a1, a2, a3, a4, a5] && !apB [a0, a1, a2, a3, a4, a5] 0 (sqC [a4, a5, 1, a0, a1, a2, a3, a4, a5])) = true
    rw [sq_corner h h4 h5 (i3 (by rw [ev02]; omega) (by rw [ev12]; omega) (by rw [ev22]; omega)) 1 []]
    simp only [sqBox, List.getD_cons_zero, List.getD_cons_succ, Bool.not_false, Bool.and_true, Bool.and_eq_true, decide_eq_true_eq]; omega
/-- What no edge parts, turned one way: six numbers as points. -/
def NS (a b : List Int) : Prop := ∀ i, i < 3 → (0 ≤ Geo.ev a i (b.getD 0 0) (b.getD 1 0) ∨ 0 ≤ Geo.ev a i (b.getD 2 0) (b.getD 3 0) ∨ 0 ≤ Geo.ev a i (b.getD 4 0) (b.getD 5 0))
theorem ns_of (h : rgt [a0, a1, a2, a3, a4, a5] = true) (hb : rgt [b0, b1, b2, b3, b4, b5] = true) (hn : apB [a0, a1, a2, a3, a4, a5] 0 [b0, b1, b2, b3, b4, b5] = false) : NS [a0, a1, a2, a3, a4, a5] [b0, b1, b2, b3, b4, b5] := by
  intro i hi
  apply Classical.byContradiction; intro hc
  rw [Bool.eq_false_iff] at hn
  refine hn (apB_iff.2 ⟨i, hi, (out0 h hb i hi).2 ?_⟩)
  have hc : ¬ (0 ≤ Geo.ev [a0, a1, a2, a3, a4, a5] i b0 b1 ∨ 0 ≤ Geo.ev [a0, a1, a2, a3, a4, a5] i b2 b3 ∨ 0 ≤ Geo.ev [a0, a1, a2, a3, a4, a5] i b4 b5) := hc
  omega
end
theorem sat_list {a0 a1 a2 a3 a4 a5 b0 b1 b2 b3 b4 b5 : Int} (hA : areaV [a0, a1, a2, a3, a4, a5] ≠ 0) (hB : areaV [b0, b1, b2, b3, b4, b5] ≠ 0) (h1 : NS [a0, a1, a2, a3, a4, a5] [b0, b1, b2, b3, b4, b5]) (h2 : NS [b0, b1, b2, b3, b4, b5] [a0, a1, a2, a3, a4, a5]) :
    ¬ (max (max a0 a2) a4 < min (min b0 b2) b4) := by
  have x0 := h1 0 (by omega); have x1 := h1 1 (by omega); have x2 := h1 2 (by omega)
  have y0 := h2 0 (by omega); have y1 := h2 1 (by omega); have y2 := h2 2 (by omega)
  clear h1 h2
  simp only [List.getD_cons_zero, List.getD_cons_succ] at x0 x1 x2 y0 y1 y2
  unfold Geo.ev at x0 x1 x2 y0 y1 y2
  have r3 : ∀ {a b c : Prop}, a ∨ b ∨ c → b ∨ a ∨ c := fun h => by rcases h with h | h | h <;> simp [h]
  have sw : ∀ (p q v : P2), 0 ≤ - crp p q v → 0 ≤ crp q p v := fun p q v h => by rw [crp_sw]; exact h
  have sw3 : ∀ {p q u v w : P2}, (0 ≤ - crp p q u ∨ 0 ≤ - crp p q v ∨ 0 ≤ - crp p q w) → (0 ≤ crp q p v ∨ 0 ≤ crp q p u ∨ 0 ≤ crp q p w) := fun h => by
    rcases h with h | h | h
    · exact .inr (.inl (sw _ _ _ h))
    · exact .inl (sw _ _ _ h)
    · exact .inr (.inr (sw _ _ _ h))
  have sv3 : ∀ {p q u v w : P2}, (0 ≤ - crp p q u ∨ 0 ≤ - crp p q v ∨ 0 ≤ - crp p q w) → (0 ≤ crp q p u ∨ 0 ≤ crp q p v ∨ 0 ≤ crp q p w) := fun h => r3 (sw3 h)
  by_cases pa : 0 < areaV [a0, a1, a2, a3, a4, a5] <;> by_cases pb : 0 < areaV [b0, b1, b2, b3, b4, b5]
  · simp only [if_pos pa, if_pos pb] at x0 x1 x2 y0 y1 y2
    exact sat1 ⟨a0, a1⟩ ⟨a2, a3⟩ ⟨a4, a5⟩ ⟨b0, b1⟩ ⟨b2, b3⟩ ⟨b4, b5⟩ pa pb x0 x1 x2 y0 y1 y2
  · simp only [if_pos pa, if_neg pb] at x0 x1 x2 y0 y1 y2
    have pb' : 0 < crp ⟨b2, b3⟩ ⟨b0, b1⟩ ⟨b4, b5⟩ := by rw [crp_sw]; have : crp ⟨b0, b1⟩ ⟨b2, b3⟩ ⟨b4, b5⟩ = areaV [b0, b1, b2, b3, b4, b5] := rfl; omega
    have := sat1 ⟨a0, a1⟩ ⟨a2, a3⟩ ⟨a4, a5⟩ ⟨b2, b3⟩ ⟨b0, b1⟩ ⟨b4, b5⟩ pa pb' (r3 x0) (r3 x1) (r3 x2) (sv3 y0) (sv3 y2) (sv3 y1)
    intro h; exact this (by show max (max a0 a2) a4 < min (min b2 b0) b4; omega)
  · simp only [if_neg pa, if_pos pb] at x0 x1 x2 y0 y1 y2
    have pa' : 0 < crp ⟨a2, a3⟩ ⟨a0, a1⟩ ⟨a4, a5⟩ := by rw [crp_sw]; have : crp ⟨a0, a1⟩ ⟨a2, a3⟩ ⟨a4, a5⟩ = areaV [a0, a1, a2, a3, a4, a5] := rfl; omega
    have := sat1 ⟨a2, a3⟩ ⟨a0, a1⟩ ⟨a4, a5⟩ ⟨b0, b1⟩ ⟨b2, b3⟩ ⟨b4, b5⟩ pa' pb (sv3 x0) (sv3 x2) (sv3 x1) (r3 y0) (r3 y1) (r3 y2)
    intro h; exact this (by show max (max a2 a0) a4 < min (min b0 b2) b4; omega)
  · simp only [if_neg pa, if_neg pb] at x0 x1 x2 y0 y1 y2
    have pa' : 0 < crp ⟨a2, a3⟩ ⟨a0, a1⟩ ⟨a4, a5⟩ := by rw [crp_sw]; have : crp ⟨a0, a1⟩ ⟨a2, a3⟩ ⟨a4, a5⟩ = areaV [a0, a1, a2, a3, a4, a5] := rfl; omega
    have pb' : 0 < crp ⟨b2, b3⟩ ⟨b0, b1⟩ ⟨b4, b5⟩ := by rw [crp_sw]; have : crp ⟨b0, b1⟩ ⟨b2, b3⟩ ⟨b4, b5⟩ = areaV [b0, b1, b2, b3, b4, b5] := rfl; omega
    have := sat1 ⟨a2, a3⟩ ⟨a0, a1⟩ ⟨a4, a5⟩ ⟨b2, b3⟩ ⟨b0, b1⟩ ⟨b4, b5⟩ pa' pb' (sw3 x0) (sw3 x2) (sw3 x1) (sw3 y0) (sw3 y2) (sw3 y1)
    intro h; exact this (by show max (max a2 a0) a4 < min (min b2 b0) b4; omega)
/- The same along the other axis: turned by a quarter. -/
theorem area_q (a b c d e f : Int) : areaV [b, -a, d, -c, f, -e] = areaV [a, b, c, d, e, f] := by simp only [areaV, cr2, List.getD_cons_zero, List.getD_cons_succ]; grind
theorem ev_q (a0 a1 a2 a3 a4 a5 x y : Int) (i : Nat) (hi : i < 3) : Geo.ev [a1, -a0, a3, -a2, a5, -a4] i y (-x) = Geo.ev [a0, a1, a2, a3, a4, a5] i x y := by
  have hi3 : i = 0 ∨ i = 1 ∨ i = 2 := by omega
  have hz : Geo.cz [a1, -a0, a3, -a2, a5, -a4] i y (-x) = Geo.cz [a0, a1, a2, a3, a4, a5] i x y := by
    rcases hi3 with rfl | rfl | rfl
    · exact area_q a0 a1 a2 a3 x y
    · exact area_q a2 a3 a4 a5 x y
    · exact area_q a4 a5 a0 a1 x y
  unfold Geo.ev
  rw [area_q, hz]
theorem sat_list_y {a0 a1 a2 a3 a4 a5 b0 b1 b2 b3 b4 b5 : Int} (hA : areaV [a0, a1, a2, a3, a4, a5] ≠ 0) (hB : areaV [b0, b1, b2, b3, b4, b5] ≠ 0) (h1 : NS [a0, a1, a2, a3, a4, a5] [b0, b1, b2, b3, b4, b5]) (h2 : NS [b0, b1, b2, b3, b4, b5] [a0, a1, a2, a3, a4, a5]) :
    ¬ (max (max a1 a3) a5 < min (min b1 b3) b5) := by
  refine sat_list (a0 := a1) (a1 := -a0) (a2 := a3) (a3 := -a2) (a4 := a5) (a5 := -a4) (b0 := b1) (b1 := -b0) (b2 := b3) (b3 := -b2) (b4 := b5) (b5 := -b4) (by rw [area_q]; exact hA) (by rw [area_q]; exact hB) (fun i hi => ?_) (fun i hi => ?_)
  · have := h1 i hi
    simp only [List.getD_cons_zero, List.getD_cons_succ] at this ⊢
    rw [ev_q _ _ _ _ _ _ _ _ i hi, ev_q _ _ _ _ _ _ _ _ i hi, ev_q _ _ _ _ _ _ _ _ i hi]; exact this
  · have := h2 i hi
    simp only [List.getD_cons_zero, List.getD_cons_succ] at this ⊢
    rw [ev_q _ _ _ _ _ _ _ _ i hi, ev_q _ _ _ _ _ _ _ _ i hi, ev_q _ _ _ _ _ _ _ _ i hi]; exact this
theorem apart0 {a0 a1 a2 a3 a4 a5 b0 b1 b2 b3 b4 b5 : Int} (h : rgt [a0, a1, a2, a3, a4, a5] = true) (hb : rgt [b0, b1, b2, b3, b4, b5] = true) (hs : max (max a0 a2) a4 < min (min b0 b2) b4 ∨ max (max a1 a3) a5 < min (min b1 b3) b5) :
    bothB 0 [a0, a1, a2, a3, a4, a5, b0, b1, b2, b3, b4, b5] = false := by
  rw [Bool.eq_false_iff]; intro hh
  have hh : (!apB [a0, a1, a2, a3, a4, a5] 0 [b0, b1, b2, b3, b4, b5] && !apB [b0, b1, b2, b3, b4, b5] 0 [a0, a1, a2, a3, a4, a5]) = true := hh
  simp only [Bool.and_eq_true, Bool.not_eq_true'] at hh
  have n1 := ns_of h hb hh.1; have n2 := ns_of hb h hh.2
  rcases hs with hs | hs
  · exact sat_list (rgt_iff.1 h).2 (rgt_iff.1 hb).2 n1 n2 hs
  · exact sat_list_y (rgt_iff.1 h).2 (rgt_iff.1 hb).2 n1 n2 hs
section
variable {a0 a1 a2 a3 a4 a5 x y c : Int}
theorem sqg_b (h : sqg [x, y, c] = true) : 1 ≤ c ∧ c ≤ 4096 ∧ us x = true ∧ us y = true ∧ us (x + c) = true ∧ us (y + c) = true := by
  unfold sqg at h
  simp only [List.getD_cons_zero, List.getD_cons_succ, Bool.and_eq_true, decide_eq_true_eq] at h
  exact h
/-- What leaves the square outside. -/
theorem sq_out (h : rgt [a0, a1, a2, a3, a4, a5] = true) (hg : sqg [x, y, c] = true) (ha : apB [a0, a1, a2, a3, a4, a5] 0 (sqC [x, y, c, a0, a1, a2, a3, a4, a5]) = true) :
    ∃ i, i < 3 ∧ Geo.ev [a0, a1, a2, a3, a4, a5] i x y < 0 ∧ Geo.ev [a0, a1, a2, a3, a4, a5] i (x + c) y < 0 ∧ Geo.ev [a0, a1, a2, a3, a4, a5] i (x + c) (y + c) < 0 ∧ Geo.ev [a0, a1, a2, a3, a4, a5] i x (y + c) < 0 := by
  obtain ⟨i, hi, ho⟩ := apB_iff.1 ha
  obtain ⟨_, _, ux, uy, vx, vy⟩ := sqg_b hg
  have h1 : (decide (edq [a0, a1, a2, a3, a4, a5] i x y < 0) && (decide (edq [a0, a1, a2, a3, a4, a5] i (x + c) y < 0) && (decide (edq [a0, a1, a2, a3, a4, a5] i (x + c) (y + c) < 0) && (decide (edq [a0, a1, a2, a3, a4, a5] i x (y + c) < 0) && true)))) = true := ho
  simp only [Bool.and_eq_true, decide_eq_true_eq, edq_ev h ux uy i hi, edq_ev h vx uy i hi, edq_ev h vx vy i hi, edq_ev h ux vy i hi, sgnlt0] at h1
  exact ⟨i, hi, h1.1, h1.2.1, h1.2.2.1, h1.2.2.2.1⟩
theorem sq_in (h : rgt [a0, a1, a2, a3, a4, a5] = true) (hg : sqg [x, y, c] = true) {i : Nat} (hi : i < 3) (h1 : Geo.ev [a0, a1, a2, a3, a4, a5] i x y < 0) (h2 : Geo.ev [a0, a1, a2, a3, a4, a5] i (x + c) y < 0) (h3 : Geo.ev [a0, a1, a2, a3, a4, a5] i (x + c) (y + c) < 0) (h4 : Geo.ev [a0, a1, a2, a3, a4, a5] i x (y + c) < 0) :
    apB [a0, a1, a2, a3, a4, a5] 0 (sqC [x, y, c, a0, a1, a2, a3, a4, a5]) = true := by
  obtain ⟨_, _, ux, uy, vx, vy⟩ := sqg_b hg
  refine apB_iff.2 ⟨i, hi, ?_⟩
  show (decide (edq [a0, a1, a2, a3, a4, a5] i x y < 0) && (decide (edq [a0, a1, a2, a3, a4, a5] i (x + c) y < 0) && (decide (edq [a0, a1, a2, a3, a4, a5] i (x + c) (y + c) < 0) && (decide (edq [a0, a1, a2, a3, a4, a5] i x (y + c) < 0) && true)))) = true
  simp only [Bool.and_eq_true, decide_eq_true_eq, edq_ev h ux uy i hi, edq_ev h vx uy i hi, edq_ev h vx vy i hi, edq_ev h ux vy i hi, sgnlt0]
  exact ⟨h1, h2, h3, h4, trivial⟩
/-- A square that has a point of the triangle meets it. -/
theorem sq_has (h : rgt [a0, a1, a2, a3, a4, a5] = true) (hg : sqg [x, y, c] = true) {p q : Int} (up : us p = true) (uq : us q = true) (hv : inV [p, q, a0, a1, a2, a3, a4, a5] ≠ 0) (p1 : x ≤ p) (p2 : p ≤ x + c) (q1 : y ≤ q) (q2 : q ≤ y + c) : sqB [x, y, c, a0, a1, a2, a3, a4, a5] = true := by
  have e := inV_1 h up uq hv
  have e0 := e 0 (by omega); have e1 := e 1 (by omega); have e2 := e 2 (by omega)
  have hD := ab_pos (rgt_iff.1 h).2
  have es := ev_sum a0 a1 a2 a3 a4 a5 p q
  have ex := ev_x a0 a1 a2 a3 a4 a5 p q
  have ey := ev_y a0 a1 a2 a3 a4 a5 p q
  have na : apB [a0, a1, a2, a3, a4, a5] 0 (sqC [x, y, c, a0, a1, a2, a3, a4, a5]) = false := by
    rw [Bool.eq_false_iff]; intro ha
    obtain ⟨i, hi, h1, h2, h3, h4⟩ := sq_out h hg ha
    have := sq_ev [a0, a1, a2, a3, a4, a5] i h1 h2 h3 h4 (u := p - x) (v := q - y) (by omega) (by omega) (by omega) (by omega)
    rw [show x + (p - x) = p by omega, show y + (q - y) = q by omega] at this
    have := e i hi
    omega
  show (sqBox [x, y, c, a0, a1, a2, a3, a4, a5] && !apB [a0, a1, a2, a3, a4, a5] 0 (sqC [x, y, c, a0, a1, a2, a3, a4, a5])) = true
  rw [na]
  generalize Geo.ev [a0, a1, a2, a3, a4, a5] 0 p q = E0 at *
  generalize Geo.ev [a0, a1, a2, a3, a4, a5] 1 p q = E1 at *
  generalize Geo.ev [a0, a1, a2, a3, a4, a5] 2 p q = E2 at *
  generalize ab [a0, a1, a2, a3, a4, a5] = D at *
  -- of a weighed mean some part is no more, some no less
  have lo : ∀ {u v w m k : Int}, E0 * w + E1 * u + E2 * v = D * m → (u ≤ m ∨ v ≤ m ∨ w ≤ m) := fun {u v w m k} hm => by
    apply Classical.byContradiction; intro hn
    have b0 := nn e0 (show 0 ≤ w - m by omega); have b1 := nn e1 (show 0 ≤ u - m by omega); have b2 := nn e2 (show 0 ≤ v - m by omega)
    have hz : E0 * (w - m) + E1 * (u - m) + E2 * (v - m) = 0 := by
      have : E0 * (w - m) + E1 * (u - m) + E2 * (v - m) = (E0 * w + E1 * u + E2 * v) - (E0 + E1 + E2) * m := by grind
      rw [this, hm, es]; omega
    have hc : 0 < E0 ∨ 0 < E1 ∨ 0 < E2 := by omega
    rcases hc with c' | c' | c'
    · have := pp c' (show 0 < w - m by omega); omega
    · have := pp c' (show 0 < u - m by omega); omega
    · have := pp c' (show 0 < v - m by omega); omega
  have hi' : ∀ {u v w m k : Int}, E0 * w + E1 * u + E2 * v = D * m → (m ≤ u ∨ m ≤ v ∨ m ≤ w) := fun {u v w m k} hm => by
    apply Classical.byContradiction; intro hn
    have b0 := nn e0 (show 0 ≤ m - w by omega); have b1 := nn e1 (show 0 ≤ m - u by omega); have b2 := nn e2 (show 0 ≤ m - v by omega)
    have hz : E0 * (m - w) + E1 * (m - u) + E2 * (m - v) = 0 := by
      have : E0 * (m - w) + E1 * (m - u) + E2 * (m - v) = (E0 + E1 + E2) * m - (E0 * w + E1 * u + E2 * v) := by grind
      rw [this, hm, es]; omega
    have hc : 0 < E0 ∨ 0 < E1 ∨ 0 < E2 := by omega
    rcases hc with c' | c' | c'
    · have := pp c' (show 0 < m - w by omega); omega
    · have := pp c' (show 0 < m - u by omega); omega
    · have := pp c' (show 0 < m - v by omega); omega
  have lx := lo (k := 0) ex; have ly := lo (k := 0) ey; have hx := hi' (k := 0) ex; have hy := hi' (k := 0) ey
  clear lo hi' ex ey es e hv
  simp only [sqBox, List.getD_cons_zero, List.getD_cons_succ, Bool.not_false, Bool.and_true, Bool.and_eq_true, decide_eq_true_eq]
  omega
/-- A greater square meets what the smaller one does. -/
theorem sq_more (h : rgt [a0, a1, a2, a3, a4, a5] = true) (hg : sqg [x, y, c] = true) (hg2 : sqg [x, y, c + 1] = true) (hs : sqB [x, y, c, a0, a1, a2, a3, a4, a5] = true) : sqB [x, y, c + 1, a0, a1, a2, a3, a4, a5] = true := by
  have hs : (sqBox [x, y, c, a0, a1, a2, a3, a4, a5] && !apB [a0, a1, a2, a3, a4, a5] 0 (sqC [x, y, c, a0, a1, a2, a3, a4, a5])) = true := hs
  show (sqBox [x, y, c + 1, a0, a1, a2, a3, a4, a5] && !apB [a0, a1, a2, a3, a4, a5] 0 (sqC [x, y, c + 1, a0, a1, a2, a3, a4, a5])) = true
  simp only [Bool.and_eq_true, Bool.not_eq_true'] at hs ⊢
  have hc := (sqg_b hg).1
  refine ⟨?_, ?_⟩
  · have := hs.1
    simp only [sqBox, List.getD_cons_zero, List.getD_cons_succ, Bool.and_eq_true, decide_eq_true_eq] at this ⊢
    omega
  · rw [Bool.eq_false_iff]; intro ha
    obtain ⟨i, hi, h1, h2, h3, h4⟩ := sq_out h hg2 ha
    have key := fun u v p1 p2 p3 p4 => sq_ev [a0, a1, a2, a3, a4, a5] i h1 h2 h3 h4 (u := u) (v := v) p1 p2 p3 p4
    have k2 := key c 0 (by omega) (by omega) (by omega) (by omega)
    have k3 := key c c (by omega) (by omega) (by omega) (by omega)
    have k4 := key 0 c (by omega) (by omega) (by omega) (by omega)
    rw [Int.add_zero] at k2 k4
    have := sq_in h hg hi h1 k2 k3 k4
    rw [hs.2] at this; cases this
end
end Go.Proofs.Ytfkgjpdipdllhaa.Sx
