/- Boxes compared: a struct of two points. -/
import Derived.Test.YtfpnkcmplmkghaaS13
import Derived.Laws.StructEq
set_option linter.unusedVariables false
set_option linter.unusedSimpArgs false
namespace Go.Proofs.Ytfpnkcmplmkghaa.Sx
open Go.RowKit
theorem run_part_agg {P : Program} {t : TypeId} {fs : Array Field} (h : P.underlying t = some (.struct fs)) {n : Nat} (hc : ∀ w, (Go.sizeOf t).run P w = .ok n w) {cs : Array Value} {k : Nat} {xs : Array Value} (hv : cs.extract k (k + n) = xs) (w : World) : (Go.part t cs k).run P w = .ok (.agg xs) w := by
  unfold Go.part
  have : (isAgg t).run P w = .ok true w := by unfold isAgg; simp [Sem.run_bind, run_underlying h]
  simp [Sem.run_bind, this, hc, hv]
set_option maxRecDepth 20000 in
theorem eqV3' (d : Nat) (a b c x y z : Int) (w : World) : (Op.equalIn (d + 2) 29 (.agg #[.int .i64 a, .int .i64 b, .int .i64 c]) (.agg #[.int .i64 x, .int .i64 y, .int .i64 z])).run Try.prog w = .ok (eqI [a, b, c] [x, y, z]) w := by
  have hu : Try.prog.underlying 29 = some (.struct (Try.prog.fieldsOf 29)) := by unfold Program.fieldsOf; rw [Try.underlying29]
  have e := run_equalIn_struct (P := Try.prog) w (d + 1) 29 #[.int .i64 a, .int .i64 b, .int .i64 c] #[.int .i64 x, .int .i64 y, .int .i64 z] hu (by kernel_rfl)
  rw [e]
  have hf : intFields Try.prog 0 (Try.prog.fieldsOf 29).toList := by
    unfold Program.fieldsOf; rw [Try.underlying29]
    exact ⟨by decide, Try.underlying3, rfl, by decide, Try.underlying3, rfl, by decide, Try.underlying3, rfl, trivial⟩
  have hl : (Try.prog.fieldsOf 29).toList.length = 3 := by kernel_rfl
  generalize (Try.prog.fieldsOf 29).toList = fs at *
  have := run_eqFields (P := Try.prog) (d := d) w fs 0 [a, b, c] [x, y, z] hf (by rw [hl]; simp) (by rw [hl]; simp)
  simpa only [List.map_cons, List.map_nil, List.drop_zero] using this
set_option maxRecDepth 20000 in
theorem eqBox : EqOk Try.prog 69 6 := by
  have hu : Try.prog.underlying 69 = some (.struct (Try.prog.fieldsOf 69)) := by unfold Program.fieldsOf; rw [Try.underlying69]
  obtain ⟨f1, f2, hfs, t1, t2, o1, o2, n1, n2⟩ : ∃ f1 f2 : Field, (Try.prog.fieldsOf 69).toList = [f1, f2] ∧ f1.type = 29 ∧ f2.type = 29 ∧ f1.offset = 0 ∧ f2.offset = 3 ∧ f1.name ≠ "_" ∧ f2.name ≠ "_" := by
    unfold Program.fieldsOf; rw [Try.underlying69]
    exact ⟨_, _, rfl, rfl, rfl, rfl, rfl, by decide, by decide⟩
  intro x y l m w hl hm
  obtain ⟨a0, l1, rfl, h1⟩ := cut1 hl
  obtain ⟨a1, l2, rfl, h2⟩ := cut1 h1
  obtain ⟨a2, l3, rfl, h3⟩ := cut1 h2
  obtain ⟨a3, l4, rfl, h4⟩ := cut1 h3
  obtain ⟨a4, l5, rfl, h5⟩ := cut1 h4
  obtain ⟨a5, l6, rfl, h6⟩ := cut1 h5
  obtain rfl := cut0 h6
  obtain ⟨b0, m1, rfl, k1⟩ := cut1 hm
  obtain ⟨b1, m2, rfl, k2⟩ := cut1 k1
  obtain ⟨b2, m3, rfl, k3⟩ := cut1 k2
  obtain ⟨b3, m4, rfl, k4⟩ := cut1 k3
  obtain ⟨b4, m5, rfl, k5⟩ := cut1 k4
  obtain ⟨b5, m6, rfl, k6⟩ := cut1 k5
  obtain rfl := cut0 k6
  clear hl h1 h2 h3 h4 h5 h6 hm k1 k2 k3 k4 k5 k6
  have sz : ∀ w, (Go.sizeOf 29).run Try.prog w = .ok 3 w := fun w => ty29.size
  have uV := Try.underlying29
  have e := run_equalIn_struct (P := Try.prog) w 9999 69 ([a0, a1, a2, a3, a4, a5].map (Value.int .i64)).toArray ([b0, b1, b2, b3, b4, b5].map (Value.int .i64)).toArray hu (by kernel_rfl)
  have e2 : (Op.eqFields 9999 ([a0, a1, a2, a3, a4, a5].map (Value.int .i64)).toArray ([b0, b1, b2, b3, b4, b5].map (Value.int .i64)).toArray [f1, f2]).run Try.prog w = .ok (eqI [a0, a1, a2, a3, a4, a5] [b0, b1, b2, b3, b4, b5]) w := by
    unfold Op.eqFields
    rw [if_pos n1, t1, o1]
    simp only [Sem.run_bind, run_part_agg uV sz (k := 0) (xs := #[.int .i64 a0, .int .i64 a1, .int .i64 a2]) (cs := ([a0, a1, a2, a3, a4, a5].map (Value.int .i64)).toArray) (by simp), run_part_agg uV sz (k := 0) (xs := #[.int .i64 b0, .int .i64 b1, .int .i64 b2]) (cs := ([b0, b1, b2, b3, b4, b5].map (Value.int .i64)).toArray) (by simp), Result.andThen_ok, eqV3' 9997]
    cases hb : eqI [a0, a1, a2] [b0, b1, b2]
    · simp only [Bool.not_false, if_true, Sem.run_pure]
      congr 1
      simp only [eqI, Bool.and_true] at hb ⊢
      rw [← Bool.and_assoc, ← Bool.and_assoc, Bool.and_assoc (a0 == b0), hb]; rfl
    · simp only [Bool.not_true, Bool.false_eq_true, if_false]
      unfold Op.eqFields
      rw [if_pos n2, t2, o2]
      simp only [Sem.run_bind, run_part_agg uV sz (k := 3) (xs := #[.int .i64 a3, .int .i64 a4, .int .i64 a5]) (cs := ([a0, a1, a2, a3, a4, a5].map (Value.int .i64)).toArray) (by simp), run_part_agg uV sz (k := 3) (xs := #[.int .i64 b3, .int .i64 b4, .int .i64 b5]) (cs := ([b0, b1, b2, b3, b4, b5].map (Value.int .i64)).toArray) (by simp), Result.andThen_ok, eqV3' 9997]
      simp only [eqI, Bool.and_true] at hb ⊢
      simp only [Bool.and_eq_true] at hb
      obtain ⟨q0, q1, q2⟩ := hb
      simp only [q0, q1, q2, Bool.true_and]
      cases hc : ((a3 == b3) && ((a4 == b4) && (a5 == b5))) <;> simp [Op.eqFields]
  rw [hfs, e2] at e
  constructor
  · rw [Sem.run_bind, run_eqGuard_agg w _ _ _ _ _ _ (by kernel_rfl), Result.andThen_ok, run_eql_struct, e]; rfl
  · rw [Sem.run_bind, run_eqGuard_agg w _ _ _ _ _ _ (by kernel_rfl), Result.andThen_ok, run_neq_struct, e]; rfl
noncomputable def cs9x : Cx := ⟨cs8.ty, cs8.fn, cs8.con, cs8.inl, (69, 6) :: cs8.eqs⟩
theorem cs9x_ok (W : World) : ∀ l, Any l → CxOk Try.prog (E.at l) W cs9x := fun l h =>
  let x := cs8_ok W l trivial
  ⟨x.ty, x.fn, x.con, List.forall_mem_cons.2 ⟨eqBox, x.eqs⟩, x.mixed⟩
end Go.Proofs.Ytfpnkcmplmkghaa.Sx
