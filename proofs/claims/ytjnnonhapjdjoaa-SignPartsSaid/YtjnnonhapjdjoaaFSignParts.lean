/- The statement Rows.SignPartsSaid is proved here, over the walk of K9. No condition of its own. -/
import Derived.Test.YtjnnonhapjdjoaaRows
import Derived.Test.YtjnnonhapjdjoaaK9
import Derived.WalkKit
import Derived.ProofKit
import Derived.OpenShut
import Derived.ShutString
import Derived.ChangeOld
import Derived.Below
import Derived.Lib.SmallJoins
namespace Go.Proofs.Ytjnnonhapjdjoaa.signParts
open Go.ChangeShapes Go.WideShapes Go.ChangeAt Go.RowKit
open Go.Joins
set_option linter.unusedVariables false

theorem own : ownKnob Try.prog.godebug = none := by kernel_rfl
theorem laidOut : laidOutB Try.prog = true := by kernel_rfl

set_option maxRecDepth 100000 in
theorem lifted (os : Os) (started : os.Started) (H : Type) (enc : TypeId × Value → H) :
    ReturnsInHanded {} Try.checked os 10 .any (Rows.signPartsSpec.pre6 enc Try.prog Try.f10 Rows.signPartsRow.domain false) (Rows.signPartsSpec.post enc Try.prog Try.f10 false true false false) := by
  refine returnsInHanded_of_change (C := Try.checked) own started (by kernel_rfl) Try.func10
    (ChangeSpec.witness6 (enc := enc) (C := Try.checked) false ⟨#[], #[.agg #[.int .i64 0, .int .i64 0], .agg #[.int .i64 0, .int .i64 0], .agg #[.int .i64 0, .int .i64 0], .agg #[.int .i64 0, .int .i64 0]], []⟩ 8 (by kernel_rfl) (by kernel_rfl) (by kernel_rfl) (by kernel_rfl)) ?_
  intro W base args ds gs before hval0 hW hcnd _
  have hval : ∀ (j : Nat) t v, Try.f10.params[j]? = some t → args[j]? = some v → Value.okWide Try.prog W .any base t v := hval0
  have hW' := hW
  obtain ⟨p, q, hA0, hV, rfl, hfz, hnd⟩ := hW
  have hA : DataW.TrodAll enc Try.prog W 0 (fun _ => true) true Try.f10.params.toList args.toList ds p := hA0
  rw [Try.params10] at hA hval
  obtain ⟨v0, vs0, d0, ds0, p0, q0, hargs, rfl, rfl, h0, r0⟩ := trodAll_cons hA
  obtain ⟨v1, vs1, d1, ds1, p1, q1, rfl, rfl, rfl, h1, r1⟩ := trodAll_cons r0
  obtain ⟨v2, vs2, d2, ds2, p2, q2, rfl, rfl, rfl, h2, r2⟩ := trodAll_cons r1
  obtain ⟨v3, vs3, d3, ds3, p3, q3, rfl, rfl, rfl, h3, r3⟩ := trodAll_cons r2
  obtain ⟨rfl, rfl, rfl⟩ := trodAll_nil r3
  obtain rfl : args = #[v0, v1, v2, v3] := by cases args; simp_all
  obtain ⟨rfl, rfl⟩ := trodVars_none hV
  have k0 := h0
  have lt0 : ∀ x ∈ p0, x.block < W.heap.size := by obtain ⟨m, hm⟩ := k0; exact DataW.trod_lt m _ _ _ hm
  obtain ⟨c0x, c0y, y0x, y0y, m0, rfl, rfl, rfl, g0x, g0y⟩ := open_agg2 Try.underlying32 (by kernel_rfl) (by kernel_rfl) (hval 0 32 v0 rfl rfl) h0
  obtain ⟨a0x, e0x, rfl, w0x⟩ := DataW.trod_int Try.underlying3 g0x
  obtain ⟨a0y, e0y, rfl, w0y⟩ := DataW.trod_int Try.underlying3 g0y
  simp at e0x e0y; subst e0x e0y
  have k1 := h1
  have lt1 : ∀ x ∈ p1, x.block < W.heap.size := by obtain ⟨m, hm⟩ := k1; exact DataW.trod_lt m _ _ _ hm
  obtain ⟨c1x, c1y, y1x, y1y, m1, rfl, rfl, rfl, g1x, g1y⟩ := open_agg2 Try.underlying32 (by kernel_rfl) (by kernel_rfl) (hval 1 32 v1 rfl rfl) h1
  obtain ⟨a1x, e1x, rfl, w1x⟩ := DataW.trod_int Try.underlying3 g1x
  obtain ⟨a1y, e1y, rfl, w1y⟩ := DataW.trod_int Try.underlying3 g1y
  simp at e1x e1y; subst e1x e1y
  have k2 := h2
  have lt2 : ∀ x ∈ p2, x.block < W.heap.size := by obtain ⟨m, hm⟩ := k2; exact DataW.trod_lt m _ _ _ hm
  obtain ⟨c2x, c2y, y2x, y2y, m2, rfl, rfl, rfl, g2x, g2y⟩ := open_agg2 Try.underlying32 (by kernel_rfl) (by kernel_rfl) (hval 2 32 v2 rfl rfl) h2
  obtain ⟨a2x, e2x, rfl, w2x⟩ := DataW.trod_int Try.underlying3 g2x
  obtain ⟨a2y, e2y, rfl, w2y⟩ := DataW.trod_int Try.underlying3 g2y
  simp at e2x e2y; subst e2x e2y
  have k3 := h3
  have lt3 : ∀ x ∈ p3, x.block < W.heap.size := by obtain ⟨m, hm⟩ := k3; exact DataW.trod_lt m _ _ _ hm
  obtain ⟨c3x, c3y, y3x, y3y, m3, rfl, rfl, rfl, g3x, g3y⟩ := open_agg2 Try.underlying32 (by kernel_rfl) (by kernel_rfl) (hval 3 32 v3 rfl rfl) h3
  obtain ⟨a3x, e3x, rfl, w3x⟩ := DataW.trod_int Try.underlying3 g3x
  obtain ⟨a3y, e3y, rfl, w3y⟩ := DataW.trod_int Try.underlying3 g3y
  simp at e3x e3y; subst e3x e3y
  clear hA0 hval0
  refine (walk_SignParts W a0x a0y (I_of_wf w0x) (I_of_wf w0y) a1x a1y (I_of_wf w1x) (I_of_wf w1y) a2x a2y (I_of_wf w2x) (I_of_wf w2y) a3x a3y (I_of_wf w3x) (I_of_wf w3y)).mono fun e W' ⟨he, bel0⟩ => ?_
  have bel : Below W.heap.size W W' := bel0
  subst he
  exact ⟨_, rfl, _, _, _, [], _, [], hW', trodAll_mk1 (shut_bool Try.underlying4 _), (trodAll_cons_mk (Below.trod laidOut (by kernel_rfl) (of_decide_eq_true (by kernel_rfl)) k0 bel lt0) (trodAll_cons_mk (Below.trod laidOut (by kernel_rfl) (of_decide_eq_true (by kernel_rfl)) k1 bel lt1) (trodAll_cons_mk (Below.trod laidOut (by kernel_rfl) (of_decide_eq_true (by kernel_rfl)) k2 bel lt2) (trodAll_cons_mk (Below.trod laidOut (by kernel_rfl) (of_decide_eq_true (by kernel_rfl)) k3 bel lt3) trodAll_mk0)))), rfl, bel.frame _, fun h => by cases h⟩

theorem over : Rows.signPartsRow.holds Try.pinned (OpenSpec.ofChange Rows.signPartsSpec) :=
  OpenClaim.holds_of_wide 10 Try.f10 rfl rfl rfl rfl rfl rfl rfl ⟨rfl, rfl, rfl, rfl, rfl⟩ rfl rfl rfl rfl rfl (by kernel_rfl) Try.func10 (by kernel_rfl)
    (of_decide_eq_true (by kernel_rfl)) (by unfold Func.isWrapper; first | (rw [if_pos (by decide +kernel)]; kernel_rfl) | (rw [if_neg (by decide +kernel)]; exact ⟨rfl, rfl⟩))
    (fun os started H enc _ => lifted os started H enc)

/-- THE STATEMENT. -/
theorem proved : Rows.SignPartsSaid := over
end Go.Proofs.Ytjnnonhapjdjoaa.signParts
