/- The statement Rows.MeetSelfSaid is proved here, over the walk of KMo6. No condition of its own. -/
import Derived.Test.YtfpnkcmplmkghaaRows
import Derived.Test.YtfpnkcmplmkghaaKMo6
import Derived.WalkKit
import Derived.ProofKit
import Derived.OpenShut
import Derived.ShutString
import Derived.ChangeOld
import Derived.Below
import Derived.Test.YtfpnkcmplmkghaaOi
import Derived.Test.YtfpnkcmplmkghaaEk
namespace Go.Proofs.Ytfpnkcmplmkghaa.meetSelf
open Go.ChangeShapes Go.WideShapes Go.ChangeAt Go.RowKit
set_option linter.unusedVariables false

theorem own : ownKnob Try.prog.godebug = none := by kernel_rfl
theorem laidOut : laidOutB Try.prog = true := by kernel_rfl

theorem it_6 : Oi.IntT Try.prog 2 44 6 := ⟨by kernel_rfl, .inr (.inr ⟨3, 43, 2, Try.underlying44, ⟨by kernel_rfl, .inr (.inl ⟨_, Try.underlying43, ⟨1, rfl, ⟨Try.underlying3, by kernel_rfl, rfl⟩, ⟨1, rfl, ⟨Try.underlying3, by kernel_rfl, rfl⟩, rfl⟩⟩⟩)⟩, rfl⟩)⟩
set_option maxRecDepth 100000 in
theorem lifted (os : Os) (started : os.Started) (H : Type) (enc : TypeId × Value → H) :
    ReturnsInHanded {} Try.checked os 8 .any (Rows.meetSelfSpec.pre6 enc Try.prog Try.f8 Rows.meetSelfRow.domain false) (Rows.meetSelfSpec.post enc Try.prog Try.f8 false true false false) := by
  refine returnsInHanded_of_change (C := Try.checked) own started (by kernel_rfl) Try.func8
    (ChangeSpec.witness6 (enc := enc) (C := Try.checked) false ⟨#[], #[.agg #[.int .i64 0, .int .i64 0, .int .i64 0, .int .i64 0, .int .i64 0, .int .i64 0], .agg #[.int .i64 0, .int .i64 0, .int .i64 0, .int .i64 0, .int .i64 0, .int .i64 0]], []⟩ 8 (by kernel_rfl) (by kernel_rfl) (by kernel_rfl) (by kernel_rfl)) ?_
  intro W base args ds gs before hval0 hW hcnd _
  have hval : ∀ (j : Nat) t v, Try.f8.params[j]? = some t → args[j]? = some v → Value.okWide Try.prog W .any base t v := hval0
  have hW' := hW
  obtain ⟨p, q, hA0, hV, rfl, hfz, hnd⟩ := hW
  have hA : DataW.TrodAll enc Try.prog W 0 (fun _ => true) true Try.f8.params.toList args.toList ds p := hA0
  rw [Try.params8] at hA hval
  obtain ⟨v0, vs0, d0, ds0, p0, q0, hargs, rfl, rfl, h0, r0⟩ := trodAll_cons hA
  obtain ⟨v1, vs1, d1, ds1, p1, q1, rfl, rfl, rfl, h1, r1⟩ := trodAll_cons r0
  obtain ⟨rfl, rfl, rfl⟩ := trodAll_nil r1
  obtain rfl : args = #[v0, v1] := by cases args; simp_all
  obtain ⟨rfl, rfl⟩ := trodVars_none hV
  have k0 := h0
  have lt0 : ∀ x ∈ p0, x.block < W.heap.size := by obtain ⟨m, hm⟩ := k0; exact DataW.trod_lt m _ _ _ hm
  obtain ⟨l0, rfl, q0_0, wl0⟩ := Oi.open_of it_6 (by omega) h0 (Oi.size_of it_6 h0)
  obtain ⟨a0_0, l0_0, rfl, q0_1⟩ := Sx.cut1 q0_0
  clear q0_0
  obtain ⟨a0_1, l0_1, rfl, q0_2⟩ := Sx.cut1 q0_1
  clear q0_1
  obtain ⟨a0_2, l0_2, rfl, q0_3⟩ := Sx.cut1 q0_2
  clear q0_2
  obtain ⟨a0_3, l0_3, rfl, q0_4⟩ := Sx.cut1 q0_3
  clear q0_3
  obtain ⟨a0_4, l0_4, rfl, q0_5⟩ := Sx.cut1 q0_4
  clear q0_4
  obtain ⟨a0_5, l0_5, rfl, q0_6⟩ := Sx.cut1 q0_5
  clear q0_5
  obtain rfl := Sx.cut0 q0_6
  have k1 := h1
  have lt1 : ∀ x ∈ p1, x.block < W.heap.size := by obtain ⟨m, hm⟩ := k1; exact DataW.trod_lt m _ _ _ hm
  obtain ⟨l1, rfl, q1_0, wl1⟩ := Oi.open_of it_6 (by omega) h1 (Oi.size_of it_6 h1)
  obtain ⟨a1_0, l1_0, rfl, q1_1⟩ := Sx.cut1 q1_0
  clear q1_0
  obtain ⟨a1_1, l1_1, rfl, q1_2⟩ := Sx.cut1 q1_1
  clear q1_1
  obtain ⟨a1_2, l1_2, rfl, q1_3⟩ := Sx.cut1 q1_2
  clear q1_2
  obtain ⟨a1_3, l1_3, rfl, q1_4⟩ := Sx.cut1 q1_3
  clear q1_3
  obtain ⟨a1_4, l1_4, rfl, q1_5⟩ := Sx.cut1 q1_4
  clear q1_4
  obtain ⟨a1_5, l1_5, rfl, q1_6⟩ := Sx.cut1 q1_5
  clear q1_5
  obtain rfl := Sx.cut0 q1_6
  clear hA0 hval0
  refine (walk_MeetSelf W a0_0 a0_1 a0_2 a0_3 a0_4 a0_5 (wl0 _ (by simp)) (wl0 _ (by simp)) (wl0 _ (by simp)) (wl0 _ (by simp)) (wl0 _ (by simp)) (wl0 _ (by simp)) a1_0 a1_1 a1_2 a1_3 a1_4 a1_5 (wl1 _ (by simp)) (wl1 _ (by simp)) (wl1 _ (by simp)) (wl1 _ (by simp)) (wl1 _ (by simp)) (wl1 _ (by simp))).mono fun e W' ⟨he, bel0⟩ => ?_
  have bel : Below W.heap.size W W' := bel0
  subst he
  exact ⟨_, rfl, _, _, _, [], _, [], hW', trodAll_mk1 (shut_bool Try.underlying4 _), (trodAll_cons_mk (Below.trod laidOut (by kernel_rfl) (of_decide_eq_true (by kernel_rfl)) k0 bel lt0) (trodAll_cons_mk (Below.trod laidOut (by kernel_rfl) (of_decide_eq_true (by kernel_rfl)) k1 bel lt1) trodAll_mk0)), rfl, bel.frame _, fun h => by cases h⟩

theorem over : Rows.meetSelfRow.holds Try.pinned (OpenSpec.ofChange Rows.meetSelfSpec) :=
  OpenClaim.holds_of_wide 8 Try.f8 rfl rfl rfl rfl rfl rfl rfl ⟨rfl, rfl, rfl, rfl, rfl⟩ rfl rfl rfl rfl rfl (by kernel_rfl) Try.func8 (by kernel_rfl)
    (of_decide_eq_true (by kernel_rfl)) (by unfold Func.isWrapper; first | (rw [if_pos (by decide +kernel)]; kernel_rfl) | (rw [if_neg (by decide +kernel)]; exact ⟨rfl, rfl⟩))
    (fun os started H enc _ => lifted os started H enc)

/-- THE STATEMENT. -/
theorem proved : Rows.MeetSelfSaid := over
end Go.Proofs.Ytfpnkcmplmkghaa.meetSelf
