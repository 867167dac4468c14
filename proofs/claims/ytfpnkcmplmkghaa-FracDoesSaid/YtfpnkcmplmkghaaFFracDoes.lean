/- The statement Rows.FracDoesSaid is proved here, over the walk of Fv. No condition of its own. -/
import Derived.Test.YtfpnkcmplmkghaaRows
import Derived.Test.YtfpnkcmplmkghaaFv
import Derived.WalkKit
import Derived.ProofKit
import Derived.OpenShut
import Derived.ShutString
import Derived.ChangeOld
import Derived.Below
import Derived.Test.YtfpnkcmplmkghaaOi
import Derived.Test.YtfpnkcmplmkghaaEk
import Derived.Test.YtfpnkcmplmkghaaOc
namespace Go.Proofs.Ytfpnkcmplmkghaa.fracDoes
open Go.ChangeShapes Go.WideShapes Go.ChangeAt Go.RowKit
set_option linter.unusedVariables false

theorem own : ownKnob Try.prog.godebug = none := by kernel_rfl
theorem laidOut : laidOutB Try.prog = true := by kernel_rfl

theorem it_f : Oi.IntT Try.prog 1 54 2 := ⟨by kernel_rfl, .inr (.inl ⟨_, Try.underlying54, ⟨1, rfl, ⟨Try.underlying3, by kernel_rfl, rfl⟩, ⟨1, rfl, ⟨Try.underlying3, by kernel_rfl, rfl⟩, rfl⟩⟩⟩)⟩
set_option maxRecDepth 100000 in
theorem lifted (os : Os) (started : os.Started) (H : Type) (enc : TypeId × Value → H) :
    ReturnsInHanded {} Try.checked os 10 .any (Rows.fracDoesSpec.pre6 enc Try.prog Try.f10 Rows.fracDoesRow.domain false) (Rows.fracDoesSpec.post enc Try.prog Try.f10 false true false false) := by
  refine returnsInHanded_of_change (C := Try.checked) own started (by kernel_rfl) Try.func10
    (ChangeSpec.witness6 (enc := enc) (C := Try.checked) false ⟨#[], #[.agg #[.int .i64 0, .int .i64 0], .agg #[.int .i64 0, .int .i64 0], .slice none 0 0], []⟩ 8 (by kernel_rfl) (by kernel_rfl) (by kernel_rfl) (by kernel_rfl)) ?_
  intro W base args ds gs before hval0 hW hcnd _
  have hval : ∀ (j : Nat) t v, Try.f10.params[j]? = some t → args[j]? = some v → Value.okWide Try.prog W .any base t v := hval0
  have hW' := hW
  obtain ⟨p, q, hA0, hV, rfl, hfz, hnd⟩ := hW
  have hA : DataW.TrodAll enc Try.prog W 0 (fun _ => true) true Try.f10.params.toList args.toList ds p := hA0
  rw [Try.params10] at hA hval
  obtain ⟨v0, vs0, d0, ds0, p0, q0, hargs, rfl, rfl, h0, r0⟩ := trodAll_cons hA
  obtain ⟨v1, vs1, d1, ds1, p1, q1, rfl, rfl, rfl, h1, r1⟩ := trodAll_cons r0
  obtain ⟨v2, vs2, d2, ds2, p2, q2, rfl, rfl, rfl, h2, r2⟩ := trodAll_cons r1
  obtain ⟨rfl, rfl, rfl⟩ := trodAll_nil r2
  obtain rfl : args = #[v0, v1, v2] := by cases args; simp_all
  obtain ⟨rfl, rfl⟩ := trodVars_none hV
  have k0 := h0
  have lt0 : ∀ x ∈ p0, x.block < W.heap.size := by obtain ⟨m, hm⟩ := k0; exact DataW.trod_lt m _ _ _ hm
  obtain ⟨l0, rfl, q0_0, wl0⟩ := Oi.open_of it_f (by omega) h0 (Oi.size_of it_f h0)
  obtain ⟨a0_0, l0_0, rfl, q0_1⟩ := Sx.cut1 q0_0
  clear q0_0
  obtain ⟨a0_1, l0_1, rfl, q0_2⟩ := Sx.cut1 q0_1
  clear q0_1
  obtain rfl := Sx.cut0 q0_2
  have k1 := h1
  have lt1 : ∀ x ∈ p1, x.block < W.heap.size := by obtain ⟨m, hm⟩ := k1; exact DataW.trod_lt m _ _ _ hm
  obtain ⟨l1, rfl, q1_0, wl1⟩ := Oi.open_of it_f (by omega) h1 (Oi.size_of it_f h1)
  obtain ⟨a1_0, l1_0, rfl, q1_1⟩ := Sx.cut1 q1_0
  clear q1_0
  obtain ⟨a1_1, l1_1, rfl, q1_2⟩ := Sx.cut1 q1_1
  clear q1_1
  obtain rfl := Sx.cut0 q1_2
  have k2 := h2
  have lt2 : ∀ x ∈ p2, x.block < W.heap.size := by obtain ⟨m, hm⟩ := k2; exact DataW.trod_lt m _ _ _ hm
  obtain ⟨a2, len2, cap2, rfl⟩ := okWide_slice Try.underlying55 (hval 2 55 v2 rfl rfl)
  obtain ⟨z2, w2, n2⟩ : ∃ zs, Oi.IsRows 2 W a2 len2 zs ∧ (len2 ≤ cap2 ∧ (a2 = none → cap2 = 0)) := by
    obtain ⟨fuel, hf⟩ := h2
    have hcap : len2 ≤ cap2 := Oi.open_cap Try.underlying55 (by simpa [Value.cells] using hf)
    rcases Oi.open_rows Try.underlying55 it_f (by omega) hf with hcs | ⟨x, l, c, zs, hcs, hrow⟩
    · simp [Value.cells] at hcs
      obtain ⟨rfl, rfl, rfl⟩ := hcs
      exact ⟨[], Oi.IsRows.nil _ _ _, hcap, fun _ => rfl⟩
    · simp [Value.cells] at hcs
      obtain ⟨rfl, rfl, rfl⟩ := hcs
      exact ⟨_, hrow, hcap, fun h => by simp at h⟩
  clear hA0 hval0
  refine (walk_FracDoes W a0_0 a0_1 (wl0 _ (by simp)) (wl0 _ (by simp)) a1_0 a1_1 (wl1 _ (by simp)) (wl1 _ (by simp)) a2 len2 cap2 z2 w2 n2).mono fun e W' ⟨he, bel0⟩ => ?_
  have bel : Below W.heap.size W W' := bel0
  subst he
  exact ⟨_, rfl, _, _, _, [], _, [], hW', trodAll_mk1 (shut_bool Try.underlying4 _), (trodAll_cons_mk (Below.trod laidOut (by kernel_rfl) (of_decide_eq_true (by kernel_rfl)) k0 bel lt0) (trodAll_cons_mk (Below.trod laidOut (by kernel_rfl) (of_decide_eq_true (by kernel_rfl)) k1 bel lt1) (trodAll_cons_mk (Below.trod laidOut (by kernel_rfl) (of_decide_eq_true (by kernel_rfl)) k2 bel lt2) trodAll_mk0))), rfl, bel.frame _, fun h => by cases h⟩

theorem over : Rows.fracDoesRow.holds Try.pinned (OpenSpec.ofChange Rows.fracDoesSpec) :=
  OpenClaim.holds_of_wide 10 Try.f10 rfl rfl rfl rfl rfl rfl rfl ⟨rfl, rfl, rfl, rfl, rfl⟩ rfl rfl rfl rfl rfl (by kernel_rfl) Try.func10 (by kernel_rfl)
    (of_decide_eq_true (by kernel_rfl)) (by unfold Func.isWrapper; first | (rw [if_pos (by decide +kernel)]; kernel_rfl) | (rw [if_neg (by decide +kernel)]; exact ⟨rfl, rfl⟩))
    (fun os started H enc _ => lifted os started H enc)

/-- THE STATEMENT. -/
theorem proved : Rows.FracDoesSaid := over
end Go.Proofs.Ytfpnkcmplmkghaa.fracDoes
