/- The statement Rows.HitThroughSaid is proved here, over the walk of KP5. No condition of its own. -/
import Derived.Test.YtbgcjbhaaelkhaaRows
import Derived.Test.YtbgcjbhaaelkhaaKP5
import Derived.WalkKit
import Derived.ProofKit
import Derived.OpenShut
import Derived.ShutString
import Derived.ChangeOld
import Derived.Below
import Derived.Test.YtbgcjbhaaelkhaaOi
import Derived.Test.YtbgcjbhaaelkhaaEk
namespace Go.Proofs.Ytbgcjbhaaelkhaa.hitThrough
open Go.ChangeShapes Go.WideShapes Go.ChangeAt Go.RowKit
set_option linter.unusedVariables false

theorem own : ownKnob Try.prog.godebug = none := by kernel_rfl
theorem laidOut : laidOutB Try.prog = true := by kernel_rfl

theorem it_3 : Oi.IntT Try.prog 1 23 3 := ⟨by kernel_rfl, .inr (.inl ⟨_, Try.underlying23, ⟨1, rfl, ⟨Try.underlying3, by kernel_rfl, rfl⟩, ⟨1, rfl, ⟨Try.underlying3, by kernel_rfl, rfl⟩, ⟨1, rfl, ⟨Try.underlying3, by kernel_rfl, rfl⟩, rfl⟩⟩⟩⟩)⟩
theorem it_9 : Oi.IntT Try.prog 2 24 9 := ⟨by kernel_rfl, .inr (.inr ⟨3, 23, 3, Try.underlying24, ⟨by kernel_rfl, .inr (.inl ⟨_, Try.underlying23, ⟨1, rfl, ⟨Try.underlying3, by kernel_rfl, rfl⟩, ⟨1, rfl, ⟨Try.underlying3, by kernel_rfl, rfl⟩, ⟨1, rfl, ⟨Try.underlying3, by kernel_rfl, rfl⟩, rfl⟩⟩⟩⟩)⟩, rfl⟩)⟩
set_option maxRecDepth 100000 in
theorem lifted (os : Os) (started : os.Started) (H : Type) (enc : TypeId × Value → H) :
    ReturnsInHanded {} Try.checked os 5 .any (Rows.hitThroughSpec.pre6 enc Try.prog Try.f5 Rows.hitThroughRow.domain false) (Rows.hitThroughSpec.post enc Try.prog Try.f5 false true false false) := by
  refine returnsInHanded_of_change (C := Try.checked) own started (by kernel_rfl) Try.func5
    (ChangeSpec.witness6 (enc := enc) (C := Try.checked) false ⟨#[], #[.agg #[.int .i64 0, .int .i64 0, .int .i64 0, .int .i64 0, .int .i64 0, .int .i64 0, .int .i64 0, .int .i64 0, .int .i64 0], .int .i64 0, .int .i64 0, .int .i64 0, .agg #[.int .i64 0, .int .i64 0, .int .i64 0]], []⟩ 8 (by kernel_rfl) (by kernel_rfl) (by kernel_rfl) (by kernel_rfl)) ?_
  intro W base args ds gs before hval0 hW hcnd _
  have hval : ∀ (j : Nat) t v, Try.f5.params[j]? = some t → args[j]? = some v → Value.okWide Try.prog W .any base t v := hval0
  have hW' := hW
  obtain ⟨p, q, hA0, hV, rfl, hfz, hnd⟩ := hW
  have hA : DataW.TrodAll enc Try.prog W 0 (fun _ => true) true Try.f5.params.toList args.toList ds p := hA0
  rw [Try.params5] at hA hval
  obtain ⟨v0, vs0, d0, ds0, p0, q0, hargs, rfl, rfl, h0, r0⟩ := trodAll_cons hA
  obtain ⟨v1, vs1, d1, ds1, p1, q1, rfl, rfl, rfl, h1, r1⟩ := trodAll_cons r0
  obtain ⟨v2, vs2, d2, ds2, p2, q2, rfl, rfl, rfl, h2, r2⟩ := trodAll_cons r1
  obtain ⟨v3, vs3, d3, ds3, p3, q3, rfl, rfl, rfl, h3, r3⟩ := trodAll_cons r2
  obtain ⟨v4, vs4, d4, ds4, p4, q4, rfl, rfl, rfl, h4, r4⟩ := trodAll_cons r3
  obtain ⟨rfl, rfl, rfl⟩ := trodAll_nil r4
  obtain rfl : args = #[v0, v1, v2, v3, v4] := by cases args; simp_all
  obtain ⟨rfl, rfl⟩ := trodVars_none hV
  have k0 := h0
  have lt0 : ∀ x ∈ p0, x.block < W.heap.size := by obtain ⟨m, hm⟩ := k0; exact DataW.trod_lt m _ _ _ hm
  obtain ⟨l0, rfl, q0_0, wl0⟩ := Oi.open_of it_9 (by omega) h0 (Oi.size_of it_9 h0)
  obtain ⟨a0_0, l0_0, rfl, q0_1⟩ := Sx.cut1 q0_0
  clear q0_0
  obtain ⟨a0_1, l0_1, rfl, q0_2⟩ := Sx.cut1 q0_1
  clear q0_1
  obtain ⟨a0_2, l0_2, rfl, q0_3⟩ := Sx.cut1 q0_2
  clear q0_2
  obtain ⟨a0_3, l0_3, rfl, q0_4⟩ := Sx.cut1 q0_3
  clear q0_3
  obtain ⟨a0_4, l0_4, rfl, q0_5⟩ := Sx.cut1 q0_4
  clear q0_4
  obtain ⟨a0_5, l0_5, rfl, q0_6⟩ := Sx.cut1 q0_5
  clear q0_5
  obtain ⟨a0_6, l0_6, rfl, q0_7⟩ := Sx.cut1 q0_6
  clear q0_6
  obtain ⟨a0_7, l0_7, rfl, q0_8⟩ := Sx.cut1 q0_7
  clear q0_7
  obtain ⟨a0_8, l0_8, rfl, q0_9⟩ := Sx.cut1 q0_8
  clear q0_8
  obtain rfl := Sx.cut0 q0_9
  obtain ⟨a1, rfl, rfl, rfl, w1⟩ := open_int Try.underlying3 (hval 1 3 v1 rfl rfl) h1
  obtain ⟨a2, rfl, rfl, rfl, w2⟩ := open_int Try.underlying3 (hval 2 3 v2 rfl rfl) h2
  obtain ⟨a3, rfl, rfl, rfl, w3⟩ := open_int Try.underlying3 (hval 3 3 v3 rfl rfl) h3
  have k4 := h4
  have lt4 : ∀ x ∈ p4, x.block < W.heap.size := by obtain ⟨m, hm⟩ := k4; exact DataW.trod_lt m _ _ _ hm
  obtain ⟨l4, rfl, q4_0, wl4⟩ := Oi.open_of it_3 (by omega) h4 (Oi.size_of it_3 h4)
  obtain ⟨a4_0, l4_0, rfl, q4_1⟩ := Sx.cut1 q4_0
  clear q4_0
  obtain ⟨a4_1, l4_1, rfl, q4_2⟩ := Sx.cut1 q4_1
  clear q4_1
  obtain ⟨a4_2, l4_2, rfl, q4_3⟩ := Sx.cut1 q4_2
  clear q4_2
  obtain rfl := Sx.cut0 q4_3
  clear hA0 hval0
  refine (walk_HitThrough W a0_0 a0_1 a0_2 a0_3 a0_4 a0_5 a0_6 a0_7 a0_8 (wl0 _ (by simp)) (wl0 _ (by simp)) (wl0 _ (by simp)) (wl0 _ (by simp)) (wl0 _ (by simp)) (wl0 _ (by simp)) (wl0 _ (by simp)) (wl0 _ (by simp)) (wl0 _ (by simp)) a1 (I_of_wf w1) a2 (I_of_wf w2) a3 (I_of_wf w3) a4_0 a4_1 a4_2 (wl4 _ (by simp)) (wl4 _ (by simp)) (wl4 _ (by simp))).mono fun e W' ⟨he, bel0⟩ => ?_
  have bel : Below W.heap.size W W' := bel0
  subst he
  exact ⟨_, rfl, _, _, _, [], _, [], hW', trodAll_mk1 (shut_bool Try.underlying4 _), (trodAll_cons_mk (Below.trod laidOut (by kernel_rfl) (of_decide_eq_true (by kernel_rfl)) k0 bel lt0) (trodAll_cons_mk (shut_int Try.underlying3 w1) (trodAll_cons_mk (shut_int Try.underlying3 w2) (trodAll_cons_mk (shut_int Try.underlying3 w3) (trodAll_cons_mk (Below.trod laidOut (by kernel_rfl) (of_decide_eq_true (by kernel_rfl)) k4 bel lt4) trodAll_mk0))))), rfl, bel.frame _, fun h => by cases h⟩

theorem over : Rows.hitThroughRow.holds Try.pinned (OpenSpec.ofChange Rows.hitThroughSpec) :=
  OpenClaim.holds_of_wide 5 Try.f5 rfl rfl rfl rfl rfl rfl rfl ⟨rfl, rfl, rfl, rfl, rfl⟩ rfl rfl rfl rfl rfl (by kernel_rfl) Try.func5 (by kernel_rfl)
    (of_decide_eq_true (by kernel_rfl)) (by unfold Func.isWrapper; first | (rw [if_pos (by decide +kernel)]; kernel_rfl) | (rw [if_neg (by decide +kernel)]; exact ⟨rfl, rfl⟩))
    (fun os started H enc _ => lifted os started H enc)

/-- THE STATEMENT. -/
theorem proved : Rows.HitThroughSaid := over
end Go.Proofs.Ytbgcjbhaaelkhaa.hitThrough
