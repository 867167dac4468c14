/- The statement Rows.SlabHasSaid is proved here, over the walk of Shwm. No condition of its own. -/
import Derived.Test.YtfpnkcmplmkghaaRows
import Derived.Test.YtfpnkcmplmkghaaShwm
import Derived.WalkKit
import Derived.ProofKit
import Derived.OpenShut
import Derived.ShutString
import Derived.ChangeOld
import Derived.Below
import Derived.Test.YtfpnkcmplmkghaaOi
import Derived.Test.YtfpnkcmplmkghaaEk
import Derived.Test.YtfpnkcmplmkghaaOr
namespace Go.Proofs.Ytfpnkcmplmkghaa.slabHas
open Go.ChangeShapes Go.WideShapes Go.ChangeAt Go.RowKit
set_option linter.unusedVariables false

theorem own : ownKnob Try.prog.godebug = none := by kernel_rfl
theorem laidOut : laidOutB Try.prog = true := by kernel_rfl

theorem it_3 : Oi.IntT Try.prog 1 29 3 := ⟨by kernel_rfl, .inr (.inl ⟨_, Try.underlying29, ⟨1, rfl, ⟨Try.underlying3, by kernel_rfl, rfl⟩, ⟨1, rfl, ⟨Try.underlying3, by kernel_rfl, rfl⟩, ⟨1, rfl, ⟨Try.underlying3, by kernel_rfl, rfl⟩, rfl⟩⟩⟩⟩)⟩
theorem it_B : Oi.IntT Try.prog 2 69 6 := ⟨by kernel_rfl, .inr (.inl ⟨_, Try.underlying69, ⟨3, rfl, ⟨by kernel_rfl, .inr (.inl ⟨_, Try.underlying29, ⟨1, rfl, ⟨Try.underlying3, by kernel_rfl, rfl⟩, ⟨1, rfl, ⟨Try.underlying3, by kernel_rfl, rfl⟩, ⟨1, rfl, ⟨Try.underlying3, by kernel_rfl, rfl⟩, rfl⟩⟩⟩⟩)⟩, ⟨3, rfl, ⟨by kernel_rfl, .inr (.inl ⟨_, Try.underlying29, ⟨1, rfl, ⟨Try.underlying3, by kernel_rfl, rfl⟩, ⟨1, rfl, ⟨Try.underlying3, by kernel_rfl, rfl⟩, ⟨1, rfl, ⟨Try.underlying3, by kernel_rfl, rfl⟩, rfl⟩⟩⟩⟩)⟩, rfl⟩⟩⟩)⟩
set_option maxRecDepth 100000 in
theorem lifted (os : Os) (started : os.Started) (H : Type) (enc : TypeId × Value → H) :
    ReturnsInHanded {} Try.checked os 13 .any (Rows.slabHasSpec.pre6 enc Try.prog Try.f13 Rows.slabHasRow.domain false) (Rows.slabHasSpec.post enc Try.prog Try.f13 false true false false) := by
  refine returnsInHanded_of_change (C := Try.checked) own started (by kernel_rfl) Try.func13
    (ChangeSpec.witness6 (enc := enc) (C := Try.checked) false ⟨#[], #[.slice none 0 0, .agg #[.int .i64 0, .int .i64 0, .int .i64 0, .int .i64 0, .int .i64 0, .int .i64 0], .agg #[.int .i64 0, .int .i64 0, .int .i64 0, .int .i64 0, .int .i64 0, .int .i64 0]], []⟩ 8 (by kernel_rfl) (by kernel_rfl) (by kernel_rfl) (by kernel_rfl)) ?_
  intro W base args ds gs before hval0 hW hcnd _
  have hval : ∀ (j : Nat) t v, Try.f13.params[j]? = some t → args[j]? = some v → Value.okWide Try.prog W .any base t v := hval0
  have hW' := hW
  obtain ⟨p, q, hA0, hV, rfl, hfz, hnd⟩ := hW
  have hA : DataW.TrodAll enc Try.prog W 0 (fun _ => true) true Try.f13.params.toList args.toList ds p := hA0
  rw [Try.params13] at hA hval
  obtain ⟨v0, vs0, d0, ds0, p0, q0, hargs, rfl, rfl, h0, r0⟩ := trodAll_cons hA
  obtain ⟨v1, vs1, d1, ds1, p1, q1, rfl, rfl, rfl, h1, r1⟩ := trodAll_cons r0
  obtain ⟨v2, vs2, d2, ds2, p2, q2, rfl, rfl, rfl, h2, r2⟩ := trodAll_cons r1
  obtain ⟨rfl, rfl, rfl⟩ := trodAll_nil r2
  obtain rfl : args = #[v0, v1, v2] := by cases args; simp_all
  obtain ⟨rfl, rfl⟩ := trodVars_none hV
  have k0 := h0
  have lt0 : ∀ x ∈ p0, x.block < W.heap.size := by obtain ⟨m, hm⟩ := k0; exact DataW.trod_lt m _ _ _ hm
  obtain ⟨a0, len0, cap0, rfl⟩ := okWide_slice Try.underlying70 (hval 0 70 v0 rfl rfl)
  obtain ⟨z0, w0, n0⟩ : ∃ zs, Oi.IsRows 3 W a0 len0 zs ∧ ((a0 = none → cap0 = 0)) := by
    obtain ⟨fuel, hf⟩ := h0
    rcases Oi.open_rows Try.underlying70 it_3 (by omega) hf with hcs | ⟨x, l, c, zs, hcs, hrow⟩
    · simp [Value.cells] at hcs
      obtain ⟨rfl, rfl, rfl⟩ := hcs
      exact ⟨[], Oi.IsRows.nil _ _ _, fun _ => rfl⟩
    · simp [Value.cells] at hcs
      obtain ⟨rfl, rfl, rfl⟩ := hcs
      exact ⟨_, hrow, fun h => by simp at h⟩
  have k1 := h1
  have lt1 : ∀ x ∈ p1, x.block < W.heap.size := by obtain ⟨m, hm⟩ := k1; exact DataW.trod_lt m _ _ _ hm
  obtain ⟨l1, rfl, q1_0, wl1⟩ := Oi.open_of it_B (by omega) h1 (Oi.size_of it_B h1)
  obtain ⟨a1_0, l1_0, rfl, q1_1⟩ := Sx.cut1 q1_0
  clear q1_0
  obtain ⟨a1_1, l1_1, rfl, q1_2⟩ := Sx.cut1 q1_1
  clear q1_1
  obtain ⟨a1_2, l1_2, rfl, q1_3⟩ := Sx.cut1 q1_2
  clear q1_2
  obtain ⟨a1_3, l1_3, rfl, q1_4⟩ := Sx.cut1 q1_3
  clear q1_3
  obtain ⟨a1_4, l1_4, rfl, q1_5⟩ := Sx.cut1 q1_4
  clear q1_4
  obtain ⟨a1_5, l1_5, rfl, q1_6⟩ := Sx.cut1 q1_5
  clear q1_5
  obtain rfl := Sx.cut0 q1_6
  have k2 := h2
  have lt2 : ∀ x ∈ p2, x.block < W.heap.size := by obtain ⟨m, hm⟩ := k2; exact DataW.trod_lt m _ _ _ hm
  obtain ⟨l2, rfl, q2_0, wl2⟩ := Oi.open_of it_B (by omega) h2 (Oi.size_of it_B h2)
  obtain ⟨a2_0, l2_0, rfl, q2_1⟩ := Sx.cut1 q2_0
  clear q2_0
  obtain ⟨a2_1, l2_1, rfl, q2_2⟩ := Sx.cut1 q2_1
  clear q2_1
  obtain ⟨a2_2, l2_2, rfl, q2_3⟩ := Sx.cut1 q2_2
  clear q2_2
  obtain ⟨a2_3, l2_3, rfl, q2_4⟩ := Sx.cut1 q2_3
  clear q2_3
  obtain ⟨a2_4, l2_4, rfl, q2_5⟩ := Sx.cut1 q2_4
  clear q2_4
  obtain ⟨a2_5, l2_5, rfl, q2_6⟩ := Sx.cut1 q2_5
  clear q2_5
  obtain rfl := Sx.cut0 q2_6
  clear hA0 hval0
  refine (walk_SlabHas W a0 len0 cap0 z0 w0 n0 a1_0 a1_1 a1_2 a1_3 a1_4 a1_5 (wl1 _ (by simp)) (wl1 _ (by simp)) (wl1 _ (by simp)) (wl1 _ (by simp)) (wl1 _ (by simp)) (wl1 _ (by simp)) a2_0 a2_1 a2_2 a2_3 a2_4 a2_5 (wl2 _ (by simp)) (wl2 _ (by simp)) (wl2 _ (by simp)) (wl2 _ (by simp)) (wl2 _ (by simp)) (wl2 _ (by simp))).mono fun e W' ⟨he, bel0⟩ => ?_
  have bel : Below W.heap.size W W' := bel0
  subst he
  exact ⟨_, rfl, _, _, _, [], _, [], hW', trodAll_mk1 (shut_bool Try.underlying4 _), (trodAll_cons_mk (Below.trod laidOut (by kernel_rfl) (of_decide_eq_true (by kernel_rfl)) k0 bel lt0) (trodAll_cons_mk (Below.trod laidOut (by kernel_rfl) (of_decide_eq_true (by kernel_rfl)) k1 bel lt1) (trodAll_cons_mk (Below.trod laidOut (by kernel_rfl) (of_decide_eq_true (by kernel_rfl)) k2 bel lt2) trodAll_mk0))), rfl, bel.frame _, fun h => by cases h⟩

theorem over : Rows.slabHasRow.holds Try.pinned (OpenSpec.ofChange Rows.slabHasSpec) :=
  OpenClaim.holds_of_wide 13 Try.f13 rfl rfl rfl rfl rfl rfl rfl ⟨rfl, rfl, rfl, rfl, rfl⟩ rfl rfl rfl rfl rfl (by kernel_rfl) Try.func13 (by kernel_rfl)
    (of_decide_eq_true (by kernel_rfl)) (by unfold Func.isWrapper; first | (rw [if_pos (by decide +kernel)]; kernel_rfl) | (rw [if_neg (by decide +kernel)]; exact ⟨rfl, rfl⟩))
    (fun os started H enc _ => lifted os started H enc)

/-- THE STATEMENT. -/
theorem proved : Rows.SlabHasSaid := over
end Go.Proofs.Ytfpnkcmplmkghaa.slabHas
