/- The statement Rows.RasterMoreSaid is proved here, over the walk of Wm1. No condition of its own. -/
import Derived.Test.YtfkgjpdipdllhaaRows
import Derived.Test.YtfkgjpdipdllhaaWm1
import Derived.WalkKit
import Derived.ProofKit
import Derived.OpenShut
import Derived.ShutString
import Derived.ChangeOld
import Derived.Below
import Derived.Test.YtfkgjpdipdllhaaOi
import Derived.Test.YtfkgjpdipdllhaaEk
import Derived.Test.YtfkgjpdipdllhaaOc
namespace Go.Proofs.Ytfkgjpdipdllhaa.rasterMore
open Go.ChangeShapes Go.WideShapes Go.ChangeAt Go.RowKit
set_option linter.unusedVariables false

theorem own : ownKnob Try.prog.godebug = none := by kernel_rfl
theorem laidOut : laidOutB Try.prog = true := by kernel_rfl

theorem it_6 : Oi.IntT Try.prog 2 36 6 := ⟨by kernel_rfl, .inr (.inr ⟨3, 24, 2, Try.underlying36, ⟨by kernel_rfl, .inr (.inl ⟨_, Try.underlying24, ⟨1, rfl, ⟨Try.underlying3, by kernel_rfl, rfl⟩, ⟨1, rfl, ⟨Try.underlying3, by kernel_rfl, rfl⟩, rfl⟩⟩⟩)⟩, rfl⟩)⟩
set_option maxRecDepth 100000 in
theorem lifted (os : Os) (started : os.Started) (H : Type) (enc : TypeId × Value → H) :
    ReturnsInHanded {} Try.checked os 6 .any (Rows.rasterMoreSpec.pre6 enc Try.prog Try.f6 Rows.rasterMoreRow.domain false) (Rows.rasterMoreSpec.post enc Try.prog Try.f6 false true false false) := by
  refine returnsInHanded_of_change (C := Try.checked) own started (by kernel_rfl) Try.func6
    (ChangeSpec.witness6 (enc := enc) (C := Try.checked) false ⟨#[], #[.int .i64 0, .int .i64 0, .slice none 0 0, .agg #[.int .i64 0, .int .i64 0, .int .i64 0, .int .i64 0, .int .i64 0, .int .i64 0]], []⟩ 8 (by kernel_rfl) (by kernel_rfl) (by kernel_rfl) (by kernel_rfl)) ?_
  intro W base args ds gs before hval0 hW hcnd _
  have hval : ∀ (j : Nat) t v, Try.f6.params[j]? = some t → args[j]? = some v → Value.okWide Try.prog W .any base t v := hval0
  have hW' := hW
  obtain ⟨p, q, hA0, hV, rfl, hfz, hnd⟩ := hW
  have hA : DataW.TrodAll enc Try.prog W 0 (fun _ => true) true Try.f6.params.toList args.toList ds p := hA0
  rw [Try.params6] at hA hval
  obtain ⟨v0, vs0, d0, ds0, p0, q0, hargs, rfl, rfl, h0, r0⟩ := trodAll_cons hA
  obtain ⟨v1, vs1, d1, ds1, p1, q1, rfl, rfl, rfl, h1, r1⟩ := trodAll_cons r0
  obtain ⟨v2, vs2, d2, ds2, p2, q2, rfl, rfl, rfl, h2, r2⟩ := trodAll_cons r1
  obtain ⟨v3, vs3, d3, ds3, p3, q3, rfl, rfl, rfl, h3, r3⟩ := trodAll_cons r2
  obtain ⟨rfl, rfl, rfl⟩ := trodAll_nil r3
  obtain rfl : args = #[v0, v1, v2, v3] := by cases args; simp_all
  obtain ⟨rfl, rfl⟩ := trodVars_none hV
  obtain ⟨a0, rfl, rfl, rfl, w0⟩ := open_int Try.underlying3 (hval 0 3 v0 rfl rfl) h0
  obtain ⟨a1, rfl, rfl, rfl, w1⟩ := open_int Try.underlying3 (hval 1 3 v1 rfl rfl) h1
  have k2 := h2
  have lt2 : ∀ x ∈ p2, x.block < W.heap.size := by obtain ⟨m, hm⟩ := k2; exact DataW.trod_lt m _ _ _ hm
  obtain ⟨a2, len2, cap2, rfl⟩ := okWide_slice Try.underlying22 (hval 2 22 v2 rfl rfl)
  obtain ⟨z2, w2, n2⟩ : ∃ zs, Oi.IsRows 6 W a2 len2 zs ∧ (len2 ≤ cap2 ∧ (a2 = none → cap2 = 0)) := by
    obtain ⟨fuel, hf⟩ := h2
    have hcap : len2 ≤ cap2 := Oi.open_cap Try.underlying22 (by simpa [Value.cells] using hf)
    rcases Oi.open_rows Try.underlying22 it_6 (by omega) hf with hcs | ⟨x, l, c, zs, hcs, hrow⟩
    · simp [Value.cells] at hcs
      obtain ⟨rfl, rfl, rfl⟩ := hcs
      exact ⟨[], Oi.IsRows.nil _ _ _, hcap, fun _ => rfl⟩
    · simp [Value.cells] at hcs
      obtain ⟨rfl, rfl, rfl⟩ := hcs
      exact ⟨_, hrow, hcap, fun h => by simp at h⟩
  have k3 := h3
  have lt3 : ∀ x ∈ p3, x.block < W.heap.size := by obtain ⟨m, hm⟩ := k3; exact DataW.trod_lt m _ _ _ hm
  obtain ⟨l3, rfl, q3_0, wl3⟩ := Oi.open_of it_6 (by omega) h3 (Oi.size_of it_6 h3)
  obtain ⟨a3_0, l3_0, rfl, q3_1⟩ := Sx.cut1 q3_0
  clear q3_0
  obtain ⟨a3_1, l3_1, rfl, q3_2⟩ := Sx.cut1 q3_1
  clear q3_1
  obtain ⟨a3_2, l3_2, rfl, q3_3⟩ := Sx.cut1 q3_2
  clear q3_2
  obtain ⟨a3_3, l3_3, rfl, q3_4⟩ := Sx.cut1 q3_3
  clear q3_3
  obtain ⟨a3_4, l3_4, rfl, q3_5⟩ := Sx.cut1 q3_4
  clear q3_4
  obtain ⟨a3_5, l3_5, rfl, q3_6⟩ := Sx.cut1 q3_5
  clear q3_5
  obtain rfl := Sx.cut0 q3_6
  clear hA0 hval0
  refine (walk_RasterMore W a0 (I_of_wf w0) a1 (I_of_wf w1) a2 len2 cap2 z2 w2 n2 a3_0 a3_1 a3_2 a3_3 a3_4 a3_5 (wl3 _ (by simp)) (wl3 _ (by simp)) (wl3 _ (by simp)) (wl3 _ (by simp)) (wl3 _ (by simp)) (wl3 _ (by simp))).mono fun e W' ⟨he, bel0⟩ => ?_
  have bel : Below W.heap.size W W' := bel0
  subst he
  exact ⟨_, rfl, _, _, _, [], _, [], hW', trodAll_mk1 (shut_bool Try.underlying4 _), (trodAll_cons_mk (shut_int Try.underlying3 w0) (trodAll_cons_mk (shut_int Try.underlying3 w1) (trodAll_cons_mk (Below.trod laidOut (by kernel_rfl) (of_decide_eq_true (by kernel_rfl)) k2 bel lt2) (trodAll_cons_mk (Below.trod laidOut (by kernel_rfl) (of_decide_eq_true (by kernel_rfl)) k3 bel lt3) trodAll_mk0)))), rfl, bel.frame _, fun h => by cases h⟩

theorem over : Rows.rasterMoreRow.holds Try.pinned (OpenSpec.ofChange Rows.rasterMoreSpec) :=
  OpenClaim.holds_of_wide 6 Try.f6 rfl rfl rfl rfl rfl rfl rfl ⟨rfl, rfl, rfl, rfl, rfl⟩ rfl rfl rfl rfl rfl (by kernel_rfl) Try.func6 (by kernel_rfl)
    (of_decide_eq_true (by kernel_rfl)) (by unfold Func.isWrapper; first | (rw [if_pos (by decide +kernel)]; kernel_rfl) | (rw [if_neg (by decide +kernel)]; exact ⟨rfl, rfl⟩))
    (fun os started H enc _ => lifted os started H enc)

/-- THE STATEMENT. -/
theorem proved : Rows.RasterMoreSaid := over
end Go.Proofs.Ytfkgjpdipdllhaa.rasterMore
