/- The statement Rows.RasterDoesSaid is proved here, over the walk of Wd. No condition of its own. -/
import Derived.Test.YtfkgjpdipdllhaaRows
import Derived.Test.YtfkgjpdipdllhaaWd
import Derived.WalkKit
import Derived.ProofKit
import Derived.OpenShut
import Derived.ShutString
import Derived.ChangeOld
import Derived.Below
import Derived.Test.YtfkgjpdipdllhaaOi
import Derived.Test.YtfkgjpdipdllhaaEk
import Derived.Test.YtfkgjpdipdllhaaOc
namespace Go.Proofs.Ytfkgjpdipdllhaa.rasterDoes
open Go.ChangeShapes Go.WideShapes Go.ChangeAt Go.RowKit
set_option linter.unusedVariables false

theorem own : ownKnob Try.prog.godebug = none := by kernel_rfl
theorem laidOut : laidOutB Try.prog = true := by kernel_rfl

theorem it_2 : Oi.IntT Try.prog 1 24 2 := ⟨by kernel_rfl, .inr (.inl ⟨_, Try.underlying24, ⟨1, rfl, ⟨Try.underlying3, by kernel_rfl, rfl⟩, ⟨1, rfl, ⟨Try.underlying3, by kernel_rfl, rfl⟩, rfl⟩⟩⟩)⟩
theorem it_6 : Oi.IntT Try.prog 2 36 6 := ⟨by kernel_rfl, .inr (.inr ⟨3, 24, 2, Try.underlying36, ⟨by kernel_rfl, .inr (.inl ⟨_, Try.underlying24, ⟨1, rfl, ⟨Try.underlying3, by kernel_rfl, rfl⟩, ⟨1, rfl, ⟨Try.underlying3, by kernel_rfl, rfl⟩, rfl⟩⟩⟩)⟩, rfl⟩)⟩
set_option maxRecDepth 100000 in
theorem lifted (os : Os) (started : os.Started) (H : Type) (enc : TypeId × Value → H) :
    ReturnsInHanded {} Try.checked os 3 .any (Rows.rasterDoesSpec.pre6 enc Try.prog Try.f3 Rows.rasterDoesRow.domain false) (Rows.rasterDoesSpec.post enc Try.prog Try.f3 false true false false) := by
  refine returnsInHanded_of_change (C := Try.checked) own started (by kernel_rfl) Try.func3
    (ChangeSpec.witness6 (enc := enc) (C := Try.checked) false ⟨#[], #[.int .i64 0, .int .i64 0, .slice none 0 0, .int .i64 0, .int .i64 0, .agg #[.int .i64 0, .int .i64 0], .slice none 0 0], []⟩ 8 (by kernel_rfl) (by kernel_rfl) (by kernel_rfl) (by kernel_rfl)) ?_
  intro W base args ds gs before hval0 hW hcnd _
  have hval : ∀ (j : Nat) t v, Try.f3.params[j]? = some t → args[j]? = some v → Value.okWide Try.prog W .any base t v := hval0
  have hW' := hW
  obtain ⟨p, q, hA0, hV, rfl, hfz, hnd⟩ := hW
  have hA : DataW.TrodAll enc Try.prog W 0 (fun _ => true) true Try.f3.params.toList args.toList ds p := hA0
  rw [Try.params3] at hA hval
  obtain ⟨v0, vs0, d0, ds0, p0, q0, hargs, rfl, rfl, h0, r0⟩ := trodAll_cons hA
  obtain ⟨v1, vs1, d1, ds1, p1, q1, rfl, rfl, rfl, h1, r1⟩ := trodAll_cons r0
  obtain ⟨v2, vs2, d2, ds2, p2, q2, rfl, rfl, rfl, h2, r2⟩ := trodAll_cons r1
  obtain ⟨v3, vs3, d3, ds3, p3, q3, rfl, rfl, rfl, h3, r3⟩ := trodAll_cons r2
  obtain ⟨v4, vs4, d4, ds4, p4, q4, rfl, rfl, rfl, h4, r4⟩ := trodAll_cons r3
  obtain ⟨v5, vs5, d5, ds5, p5, q5, rfl, rfl, rfl, h5, r5⟩ := trodAll_cons r4
  obtain ⟨v6, vs6, d6, ds6, p6, q6, rfl, rfl, rfl, h6, r6⟩ := trodAll_cons r5
  obtain ⟨rfl, rfl, rfl⟩ := trodAll_nil r6
  obtain rfl : args = #[v0, v1, v2, v3, v4, v5, v6] := by cases args; simp_all
  obtain ⟨rfl, rfl⟩ := trodVars_none hV
  obtain ⟨a0, rfl, rfl, rfl, w0⟩ := open_int Try.underlying3 (hval 0 3 v0 rfl rfl) h0
  obtain ⟨a1, rfl, rfl, rfl, w1⟩ := open_int Try.underlying3 (hval 1 3 v1 rfl rfl) h1
  have k2 := h2
  have lt2 : ∀ x ∈ p2, x.block < W.heap.size := by obtain ⟨m, hm⟩ := k2; exact DataW.trod_lt m _ _ _ hm
  obtain ⟨a2, len2, cap2, rfl⟩ := okWide_slice Try.underlying22 (hval 2 22 v2 rfl rfl)
  obtain ⟨z2, w2, n2⟩ : ∃ zs, Oi.IsRows 6 W a2 len2 zs ∧ (len2 ≤ cap2 ∧ (a2 = none → cap2 = 0)) := by
    obtain ⟨fuel, hf⟩ := h2
    have hcap : len2 ≤ cap2 := Oi.open_cap Try.underlying22 (by simpa [Value.cells] using hf)
    rcases Oi.open_rows Try.underlying22 it_6 (by omega) hf with hcs | ⟨x, l, c, zs, hcs, hrow⟩
    · simp [Value.cells] at hcs
      obtain ⟨rfl, rfl, rfl⟩ := hcs
      exact ⟨[], Oi.IsRows.nil _ _ _, hcap, fun _ => rfl⟩
    · simp [Value.cells] at hcs
      obtain ⟨rfl, rfl, rfl⟩ := hcs
      exact ⟨_, hrow, hcap, fun h => by simp at h⟩
  obtain ⟨a3, rfl, rfl, rfl, w3⟩ := open_int Try.underlying3 (hval 3 3 v3 rfl rfl) h3
  obtain ⟨a4, rfl, rfl, rfl, w4⟩ := open_int Try.underlying3 (hval 4 3 v4 rfl rfl) h4
  have k5 := h5
  have lt5 : ∀ x ∈ p5, x.block < W.heap.size := by obtain ⟨m, hm⟩ := k5; exact DataW.trod_lt m _ _ _ hm
  obtain ⟨l5, rfl, q5_0, wl5⟩ := Oi.open_of it_2 (by omega) h5 (Oi.size_of it_2 h5)
  obtain ⟨a5_0, l5_0, rfl, q5_1⟩ := Sx.cut1 q5_0
  clear q5_0
  obtain ⟨a5_1, l5_1, rfl, q5_2⟩ := Sx.cut1 q5_1
  clear q5_1
  obtain rfl := Sx.cut0 q5_2
  have k6 := h6
  have lt6 : ∀ x ∈ p6, x.block < W.heap.size := by obtain ⟨m, hm⟩ := k6; exact DataW.trod_lt m _ _ _ hm
  obtain ⟨a6, len6, cap6, rfl⟩ := okWide_slice Try.underlying25 (hval 6 25 v6 rfl rfl)
  obtain ⟨z6, w6, n6⟩ : ∃ zs, IsRow .i64 W a6 len6 zs ∧ (a6 = none → cap6 = 0) := by
    obtain ⟨fuel, hf⟩ := h6
    rcases open_ints Try.underlying25 Try.underlying3 (by kernel_rfl) hf with ⟨hcs, _⟩ | ⟨x, l, c, zs, hcs, _, hl, hm, hz, _, hcell, hwz⟩
    · simp [Value.cells] at hcs
      obtain ⟨rfl, rfl, rfl⟩ := hcs
      exact ⟨[], IsRow.nil _ _ _, fun _ => rfl⟩
    · simp [Value.cells] at hcs
      obtain ⟨rfl, rfl, rfl⟩ := hcs
      exact ⟨_, IsRow.opened hl hm (by simpa using hz) hcell hwz, fun h => by simp at h⟩
  clear hA0 hval0
  refine (walk_RasterDoes W a0 (I_of_wf w0) a1 (I_of_wf w1) a2 len2 cap2 z2 w2 n2 a3 (I_of_wf w3) a4 (I_of_wf w4) a5_0 a5_1 (wl5 _ (by simp)) (wl5 _ (by simp)) a6 len6 cap6 z6 w6 n6).mono fun e W' ⟨he, bel0⟩ => ?_
  have bel : Below W.heap.size W W' := bel0
  subst he
  exact ⟨_, rfl, _, _, _, [], _, [], hW', trodAll_mk1 (shut_bool Try.underlying4 _), (trodAll_cons_mk (shut_int Try.underlying3 w0) (trodAll_cons_mk (shut_int Try.underlying3 w1) (trodAll_cons_mk (Below.trod laidOut (by kernel_rfl) (of_decide_eq_true (by kernel_rfl)) k2 bel lt2) (trodAll_cons_mk (shut_int Try.underlying3 w3) (trodAll_cons_mk (shut_int Try.underlying3 w4) (trodAll_cons_mk (Below.trod laidOut (by kernel_rfl) (of_decide_eq_true (by kernel_rfl)) k5 bel lt5) (trodAll_cons_mk (Below.trod laidOut (by kernel_rfl) (of_decide_eq_true (by kernel_rfl)) k6 bel lt6) trodAll_mk0))))))), rfl, bel.frame _, fun h => by cases h⟩

theorem over : Rows.rasterDoesRow.holds Try.pinned (OpenSpec.ofChange Rows.rasterDoesSpec) :=
  OpenClaim.holds_of_wide 3 Try.f3 rfl rfl rfl rfl rfl rfl rfl ⟨rfl, rfl, rfl, rfl, rfl⟩ rfl rfl rfl rfl rfl (by kernel_rfl) Try.func3 (by kernel_rfl)
    (of_decide_eq_true (by kernel_rfl)) (by unfold Func.isWrapper; first | (rw [if_pos (by decide +kernel)]; kernel_rfl) | (rw [if_neg (by decide +kernel)]; exact ⟨rfl, rfl⟩))
    (fun os started H enc _ => lifted os started H enc)

/-- THE STATEMENT. -/
theorem proved : Rows.RasterDoesSaid := over
end Go.Proofs.Ytfkgjpdipdllhaa.rasterDoes
