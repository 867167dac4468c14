/- The statement Rows.SignMovesSaid is proved here, over the walk of K9. No condition of its own. -/
import Derived.Test.YtjnnonhapjdjoaaRows
import Derived.Test.YtjnnonhapjdjoaaK9
import Derived.WalkKit
import Derived.ProofKit
import Derived.OpenShut
import Derived.ShutString
import Derived.ChangeOld
import Derived.Below
import Derived.Lib.SmallJoins
namespace Go.Proofs.Ytjnnonhapjdjoaa.signMoves
open Go.ChangeShapes Go.WideShapes Go.ChangeAt Go.RowKit
open Go.Joins
set_option linter.unusedVariables false

theorem own : ownKnob Try.prog.godebug = none := by kernel_rfl
theorem laidOut : laidOutB Try.prog = true := by kernel_rfl

set_option maxRecDepth 100000 in
theorem lifted (os : Os) (started : os.Started) (H : Type) (enc : TypeId × Value → H) :
    ReturnsInHanded {} Try.checked os 11 .any (Rows.signMovesSpec.pre6 enc Try.prog Try.f11 Rows.signMovesRow.domain false) (Rows.signMovesSpec.post enc Try.prog Try.f11 false true false false) := by
  refine returnsInHanded_of_change (C := Try.checked) own started (by kernel_rfl) Try.func11
    (ChangeSpec.witness6 (enc := enc) (C := Try.checked) false ⟨#[], #[.agg #[.int .i64 0, .int .i64 0], .agg #[.int .i64 0, .int .i64 0], .agg #[.int .i64 0, .int .i64 0], .agg #[.int .i64 0, .int .i64 0], .agg #[.int .i64 0, .int .i64 0, .int .i64 0], .agg #[.int .i64 0, .int .i64 0, .int .i64 0], .agg #[.int .i64 0, .int .i64 0, .int .i64 0], .agg #[.int .i64 0, .int .i64 0, .int .i64 0], .agg #[.int .i64 0, .int .i64 0, .int .i64 0]], []⟩ 8 (by kernel_rfl) (by kernel_rfl) (by kernel_rfl) (by kernel_rfl)) ?_
  intro W base args ds gs before hval0 hW hcnd _
  have hval : ∀ (j : Nat) t v, Try.f11.params[j]? = some t → args[j]? = some v → Value.okWide Try.prog W .any base t v := hval0
  have hW' := hW
  obtain ⟨p, q, hA0, hV, rfl, hfz, hnd⟩ := hW
  have hA : DataW.TrodAll enc Try.prog W 0 (fun _ => true) true Try.f11.params.toList args.toList ds p := hA0
  rw [Try.params11] at hA hval
  obtain ⟨v0, vs0, d0, ds0, p0, q0, hargs, rfl, rfl, h0, r0⟩ := trodAll_cons hA
  obtain ⟨v1, vs1, d1, ds1, p1, q1, rfl, rfl, rfl, h1, r1⟩ := trodAll_cons r0
  obtain ⟨v2, vs2, d2, ds2, p2, q2, rfl, rfl, rfl, h2, r2⟩ := trodAll_cons r1
  obtain ⟨v3, vs3, d3, ds3, p3, q3, rfl, rfl, rfl, h3, r3⟩ := trodAll_cons r2
  obtain ⟨v4, vs4, d4, ds4, p4, q4, rfl, rfl, rfl, h4, r4⟩ := trodAll_cons r3
  obtain ⟨v5, vs5, d5, ds5, p5, q5, rfl, rfl, rfl, h5, r5⟩ := trodAll_cons r4
  obtain ⟨v6, vs6, d6, ds6, p6, q6, rfl, rfl, rfl, h6, r6⟩ := trodAll_cons r5
  obtain ⟨v7, vs7, d7, ds7, p7, q7, rfl, rfl, rfl, h7, r7⟩ := trodAll_cons r6
  obtain ⟨v8, vs8, d8, ds8, p8, q8, rfl, rfl, rfl, h8, r8⟩ := trodAll_cons r7
  obtain ⟨rfl, rfl, rfl⟩ := trodAll_nil r8
  obtain rfl : args = #[v0, v1, v2, v3, v4, v5, v6, v7, v8] := by cases args; simp_all
  obtain ⟨rfl, rfl⟩ := trodVars_none hV
  have k0 := h0
  have lt0 : ∀ x ∈ p0, x.block < W.heap.size := by obtain ⟨m, hm⟩ := k0; exact DataW.trod_lt m _ _ _ hm
  obtain ⟨c0x, c0y, y0x, y0y, m0, rfl, rfl, rfl, g0x, g0y⟩ := open_agg2 Try.underlying32 (by kernel_rfl) (by kernel_rfl) (hval 0 32 v0 rfl rfl) h0
  obtain ⟨a0x, e0x, rfl, w0x⟩ := DataW.trod_int Try.underlying3 g0x
  obtain ⟨a0y, e0y, rfl, w0y⟩ := DataW.trod_int Try.underlying3 g0y
  simp at e0x e0y; subst e0x e0y
  have k1 := h1
  have lt1 : ∀ x ∈ p1, x.block < W.heap.size := by obtain ⟨m, hm⟩ := k1; exact DataW.trod_lt m _ _ _ hm
  obtain ⟨c1x, c1y, y1x, y1y, m1, rfl, rfl, rfl, g1x, g1y⟩ := open_agg2 Try.underlying32 (by kernel_rfl) (by kernel_rfl) (hval 1 32 v1 rfl rfl) h1
  obtain ⟨a1x, e1x, rfl, w1x⟩ := DataW.trod_int Try.underlying3 g1x
  obtain ⟨a1y, e1y, rfl, w1y⟩ := DataW.trod_int Try.underlying3 g1y
  simp at e1x e1y; subst e1x e1y
  have k2 := h2
  have lt2 : ∀ x ∈ p2, x.block < W.heap.size := by obtain ⟨m, hm⟩ := k2; exact DataW.trod_lt m _ _ _ hm
  obtain ⟨c2x, c2y, y2x, y2y, m2, rfl, rfl, rfl, g2x, g2y⟩ := open_agg2 Try.underlying32 (by kernel_rfl) (by kernel_rfl) (hval 2 32 v2 rfl rfl) h2
  obtain ⟨a2x, e2x, rfl, w2x⟩ := DataW.trod_int Try.underlying3 g2x
  obtain ⟨a2y, e2y, rfl, w2y⟩ := DataW.trod_int Try.underlying3 g2y
  simp at e2x e2y; subst e2x e2y
  have k3 := h3
  have lt3 : ∀ x ∈ p3, x.block < W.heap.size := by obtain ⟨m, hm⟩ := k3; exact DataW.trod_lt m _ _ _ hm
  obtain ⟨c3x, c3y, y3x, y3y, m3, rfl, rfl, rfl, g3x, g3y⟩ := open_agg2 Try.underlying32 (by kernel_rfl) (by kernel_rfl) (hval 3 32 v3 rfl rfl) h3
  obtain ⟨a3x, e3x, rfl, w3x⟩ := DataW.trod_int Try.underlying3 g3x
  obtain ⟨a3y, e3y, rfl, w3y⟩ := DataW.trod_int Try.underlying3 g3y
  simp at e3x e3y; subst e3x e3y
  have k4 := h4
  have lt4 : ∀ x ∈ p4, x.block < W.heap.size := by obtain ⟨m, hm⟩ := k4; exact DataW.trod_lt m _ _ _ hm
  obtain ⟨c4x, c4y, c4z, y4x, y4y, y4z, m4, rfl, rfl, rfl, g4x, g4y, g4z⟩ := open_agg3 Try.underlying23 (by kernel_rfl) (by kernel_rfl) (hval 4 23 v4 rfl rfl) h4
  obtain ⟨a4x, e4x, rfl, w4x⟩ := DataW.trod_int Try.underlying3 g4x
  obtain ⟨a4y, e4y, rfl, w4y⟩ := DataW.trod_int Try.underlying3 g4y
  obtain ⟨a4z, e4z, rfl, w4z⟩ := DataW.trod_int Try.underlying3 g4z
  simp at e4x e4y e4z; subst e4x e4y e4z
  have k5 := h5
  have lt5 : ∀ x ∈ p5, x.block < W.heap.size := by obtain ⟨m, hm⟩ := k5; exact DataW.trod_lt m _ _ _ hm
  obtain ⟨c5x, c5y, c5z, y5x, y5y, y5z, m5, rfl, rfl, rfl, g5x, g5y, g5z⟩ := open_agg3 Try.underlying23 (by kernel_rfl) (by kernel_rfl) (hval 5 23 v5 rfl rfl) h5
  obtain ⟨a5x, e5x, rfl, w5x⟩ := DataW.trod_int Try.underlying3 g5x
  obtain ⟨a5y, e5y, rfl, w5y⟩ := DataW.trod_int Try.underlying3 g5y
  obtain ⟨a5z, e5z, rfl, w5z⟩ := DataW.trod_int Try.underlying3 g5z
  simp at e5x e5y e5z; subst e5x e5y e5z
  have k6 := h6
  have lt6 : ∀ x ∈ p6, x.block < W.heap.size := by obtain ⟨m, hm⟩ := k6; exact DataW.trod_lt m _ _ _ hm
  obtain ⟨c6x, c6y, c6z, y6x, y6y, y6z, m6, rfl, rfl, rfl, g6x, g6y, g6z⟩ := open_agg3 Try.underlying23 (by kernel_rfl) (by kernel_rfl) (hval 6 23 v6 rfl rfl) h6
  obtain ⟨a6x, e6x, rfl, w6x⟩ := DataW.trod_int Try.underlying3 g6x
  obtain ⟨a6y, e6y, rfl, w6y⟩ := DataW.trod_int Try.underlying3 g6y
  obtain ⟨a6z, e6z, rfl, w6z⟩ := DataW.trod_int Try.underlying3 g6z
  simp at e6x e6y e6z; subst e6x e6y e6z
  have k7 := h7
  have lt7 : ∀ x ∈ p7, x.block < W.heap.size := by obtain ⟨m, hm⟩ := k7; exact DataW.trod_lt m _ _ _ hm
  obtain ⟨c7x, c7y, c7z, y7x, y7y, y7z, m7, rfl, rfl, rfl, g7x, g7y, g7z⟩ := open_agg3 Try.underlying23 (by kernel_rfl) (by kernel_rfl) (hval 7 23 v7 rfl rfl) h7
  obtain ⟨a7x, e7x, rfl, w7x⟩ := DataW.trod_int Try.underlying3 g7x
  obtain ⟨a7y, e7y, rfl, w7y⟩ := DataW.trod_int Try.underlying3 g7y
  obtain ⟨a7z, e7z, rfl, w7z⟩ := DataW.trod_int Try.underlying3 g7z
  simp at e7x e7y e7z; subst e7x e7y e7z
  have k8 := h8
  have lt8 : ∀ x ∈ p8, x.block < W.heap.size := by obtain ⟨m, hm⟩ := k8; exact DataW.trod_lt m _ _ _ hm
  obtain ⟨c8x, c8y, c8z, y8x, y8y, y8z, m8, rfl, rfl, rfl, g8x, g8y, g8z⟩ := open_agg3 Try.underlying23 (by kernel_rfl) (by kernel_rfl) (hval 8 23 v8 rfl rfl) h8
  obtain ⟨a8x, e8x, rfl, w8x⟩ := DataW.trod_int Try.underlying3 g8x
  obtain ⟨a8y, e8y, rfl, w8y⟩ := DataW.trod_int Try.underlying3 g8y
  obtain ⟨a8z, e8z, rfl, w8z⟩ := DataW.trod_int Try.underlying3 g8z
  simp at e8x e8y e8z; subst e8x e8y e8z
  clear hA0 hval0
  refine (walk_SignMoves W a0x a0y (I_of_wf w0x) (I_of_wf w0y) a1x a1y (I_of_wf w1x) (I_of_wf w1y) a2x a2y (I_of_wf w2x) (I_of_wf w2y) a3x a3y (I_of_wf w3x) (I_of_wf w3y) a4x a4y a4z (I_of_wf w4x) (I_of_wf w4y) (I_of_wf w4z) a5x a5y a5z (I_of_wf w5x) (I_of_wf w5y) (I_of_wf w5z) a6x a6y a6z (I_of_wf w6x) (I_of_wf w6y) (I_of_wf w6z) a7x a7y a7z (I_of_wf w7x) (I_of_wf w7y) (I_of_wf w7z) a8x a8y a8z (I_of_wf w8x) (I_of_wf w8y) (I_of_wf w8z)).mono fun e W' ⟨he, bel0⟩ => ?_
  have bel : Below W.heap.size W W' := bel0
  subst he
  exact ⟨_, rfl, _, _, _, [], _, [], hW', trodAll_mk1 (shut_bool Try.underlying4 _), (trodAll_cons_mk (Below.trod laidOut (by kernel_rfl) (of_decide_eq_true (by kernel_rfl)) k0 bel lt0) (trodAll_cons_mk (Below.trod laidOut (by kernel_rfl) (of_decide_eq_true (by kernel_rfl)) k1 bel lt1) (trodAll_cons_mk (Below.trod laidOut (by kernel_rfl) (of_decide_eq_true (by kernel_rfl)) k2 bel lt2) (trodAll_cons_mk (Below.trod laidOut (by kernel_rfl) (of_decide_eq_true (by kernel_rfl)) k3 bel lt3) (trodAll_cons_mk (Below.trod laidOut (by kernel_rfl) (of_decide_eq_true (by kernel_rfl)) k4 bel lt4) (trodAll_cons_mk (Below.trod laidOut (by kernel_rfl) (of_decide_eq_true (by kernel_rfl)) k5 bel lt5) (trodAll_cons_mk (Below.trod laidOut (by kernel_rfl) (of_decide_eq_true (by kernel_rfl)) k6 bel lt6) (trodAll_cons_mk (Below.trod laidOut (by kernel_rfl) (of_decide_eq_true (by kernel_rfl)) k7 bel lt7) (trodAll_cons_mk (Below.trod laidOut (by kernel_rfl) (of_decide_eq_true (by kernel_rfl)) k8 bel lt8) trodAll_mk0))))))))), rfl, bel.frame _, fun h => by cases h⟩

theorem over : Rows.signMovesRow.holds Try.pinned (OpenSpec.ofChange Rows.signMovesSpec) :=
  OpenClaim.holds_of_wide 11 Try.f11 rfl rfl rfl rfl rfl rfl rfl ⟨rfl, rfl, rfl, rfl, rfl⟩ rfl rfl rfl rfl rfl (by kernel_rfl) Try.func11 (by kernel_rfl)
    (of_decide_eq_true (by kernel_rfl)) (by unfold Func.isWrapper; first | (rw [if_pos (by decide +kernel)]; kernel_rfl) | (rw [if_neg (by decide +kernel)]; exact ⟨rfl, rfl⟩))
    (fun os started H enc _ => lifted os started H enc)

/-- THE STATEMENT. -/
theorem proved : Rows.SignMovesSaid := over
end Go.Proofs.Ytjnnonhapjdjoaa.signMoves
