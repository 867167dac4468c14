/- The statement Rows.FrameAlongSaid is proved here, over the walk of K248. No condition of its own. -/
import Derived.Test.YtdkeiopcdajkpaaRows
import Derived.Test.YtdkeiopcdajkpaaK248
import Derived.WalkKit
import Derived.ProofKit
import Derived.OpenShut
import Derived.ShutString
import Derived.ChangeOld
import Derived.Below
import Derived.Test.YtdkeiopcdajkpaaOi
import Derived.Test.YtdkeiopcdajkpaaEk
namespace Go.Proofs.Ytdkeiopcdajkpaa.frameAlong
open Go.ChangeShapes Go.WideShapes Go.ChangeAt Go.RowKit
set_option linter.unusedVariables false

theorem own : ownKnob Try.prog.godebug = none := by kernel_rfl
theorem laidOut : laidOutB Try.prog = true := by kernel_rfl

theorem it_3 : Oi.IntT Try.prog 1 23 3 := ⟨by kernel_rfl, .inr (.inl ⟨_, Try.underlying23, ⟨1, rfl, ⟨Try.underlying3, by kernel_rfl, rfl⟩, ⟨1, rfl, ⟨Try.underlying3, by kernel_rfl, rfl⟩, ⟨1, rfl, ⟨Try.underlying3, by kernel_rfl, rfl⟩, rfl⟩⟩⟩⟩)⟩
set_option maxRecDepth 100000 in
theorem lifted (os : Os) (started : os.Started) (H : Type) (enc : TypeId × Value → H) :
    ReturnsInHanded {} Try.checked os 5 .any (Rows.frameAlongSpec.pre6 enc Try.prog Try.f5 Rows.frameAlongRow.domain false) (Rows.frameAlongSpec.post enc Try.prog Try.f5 false true false false) := by
  refine returnsInHanded_of_change (C := Try.checked) own started (by kernel_rfl) Try.func5
    (ChangeSpec.witness6 (enc := enc) (C := Try.checked) false ⟨#[], #[.int .i64 0, .int .i64 0, .agg #[.int .i64 0, .int .i64 0, .int .i64 0]], []⟩ 8 (by kernel_rfl) (by kernel_rfl) (by kernel_rfl) (by kernel_rfl)) ?_
  intro W base args ds gs before hval0 hW hcnd _
  have hval : ∀ (j : Nat) t v, Try.f5.params[j]? = some t → args[j]? = some v → Value.okWide Try.prog W .any base t v := hval0
  have hW' := hW
  obtain ⟨p, q, hA0, hV, rfl, hfz, hnd⟩ := hW
  have hA : DataW.TrodAll enc Try.prog W 0 (fun _ => true) true Try.f5.params.toList args.toList ds p := hA0
  rw [Try.params5] at hA hval
  obtain ⟨v0, vs0, d0, ds0, p0, q0, hargs, rfl, rfl, h0, r0⟩ := trodAll_cons hA
  obtain ⟨v1, vs1, d1, ds1, p1, q1, rfl, rfl, rfl, h1, r1⟩ := trodAll_cons r0
  obtain ⟨v2, vs2, d2, ds2, p2, q2, rfl, rfl, rfl, h2, r2⟩ := trodAll_cons r1
  obtain ⟨rfl, rfl, rfl⟩ := trodAll_nil r2
  obtain rfl : args = #[v0, v1, v2] := by cases args; simp_all
  obtain ⟨rfl, rfl⟩ := trodVars_none hV
  obtain ⟨a0, rfl, rfl, rfl, w0⟩ := open_int Try.underlying3 (hval 0 3 v0 rfl rfl) h0
  obtain ⟨a1, rfl, rfl, rfl, w1⟩ := open_int Try.underlying3 (hval 1 3 v1 rfl rfl) h1
  have k2 := h2
  have lt2 : ∀ x ∈ p2, x.block < W.heap.size := by obtain ⟨m, hm⟩ := k2; exact DataW.trod_lt m _ _ _ hm
  obtain ⟨l2, rfl, q2_0, wl2⟩ := Oi.open_of it_3 (by omega) h2 (Oi.size_of it_3 h2)
  obtain ⟨a2_0, l2_0, rfl, q2_1⟩ := Sx.cut1 q2_0
  clear q2_0
  obtain ⟨a2_1, l2_1, rfl, q2_2⟩ := Sx.cut1 q2_1
  clear q2_1
  obtain ⟨a2_2, l2_2, rfl, q2_3⟩ := Sx.cut1 q2_2
  clear q2_2
  obtain rfl := Sx.cut0 q2_3
  clear hA0 hval0
  refine (walk_FrameAlong W a0 (I_of_wf w0) a1 (I_of_wf w1) a2_0 a2_1 a2_2 (wl2 _ (by simp)) (wl2 _ (by simp)) (wl2 _ (by simp))).mono fun e W' ⟨he, bel0⟩ => ?_
  have bel : Below W.heap.size W W' := bel0
  subst he
  exact ⟨_, rfl, _, _, _, [], _, [], hW', trodAll_mk1 (shut_bool Try.underlying4 _), (trodAll_cons_mk (shut_int Try.underlying3 w0) (trodAll_cons_mk (shut_int Try.underlying3 w1) (trodAll_cons_mk (Below.trod laidOut (by kernel_rfl) (of_decide_eq_true (by kernel_rfl)) k2 bel lt2) trodAll_mk0))), rfl, bel.frame _, fun h => by cases h⟩

theorem over : Rows.frameAlongRow.holds Try.pinned (OpenSpec.ofChange Rows.frameAlongSpec) :=
  OpenClaim.holds_of_wide 5 Try.f5 rfl rfl rfl rfl rfl rfl rfl ⟨rfl, rfl, rfl, rfl, rfl⟩ rfl rfl rfl rfl rfl (by kernel_rfl) Try.func5 (by kernel_rfl)
    (of_decide_eq_true (by kernel_rfl)) (by unfold Func.isWrapper; first | (rw [if_pos (by decide +kernel)]; kernel_rfl) | (rw [if_neg (by decide +kernel)]; exact ⟨rfl, rfl⟩))
    (fun os started H enc _ => lifted os started H enc)

/-- THE STATEMENT. -/
theorem proved : Rows.FrameAlongSaid := over
end Go.Proofs.Ytdkeiopcdajkpaa.frameAlong
