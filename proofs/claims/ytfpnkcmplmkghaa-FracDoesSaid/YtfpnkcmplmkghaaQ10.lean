/- Contracts, reckoned. -/
import Derived.Test.YtfpnkcmplmkghaaRh
import Derived.Test.YtfpnkcmplmkghaaFw
import Derived.KernelRfl
set_option linter.unusedVariables false
set_option linter.unusedSimpArgs false
namespace Go.Proofs.Ytfpnkcmplmkghaa.Sx
open Go.RowKit

theorem red {n d : Int} (hd : 1 ≤ d) : ∃ g p q : Int, ((gc n d : Nat) : Int) = g ∧ 1 ≤ g ∧ g ≤ d ∧ n = p * g ∧ d = q * g ∧ n.tdiv g = p ∧ d.tdiv g = q ∧ 1 ≤ q ∧ Nat.gcd p.natAbs q.natAbs = 1 := by
  have h0 : 0 < d.natAbs := by omega
  have hg : 0 < gc n d := Nat.gcd_pos_of_pos_right _ h0
  have h1 : gc n d ∣ n.natAbs := Nat.gcd_dvd_left _ _
  have h2 : gc n d ∣ d.natAbs := Nat.gcd_dvd_right _ _
  have h3 : gc n d ≤ d.natAbs := Nat.le_of_dvd h0 h2
  have i1 : ((gc n d : Nat) : Int) ∣ n := Int.natAbs_dvd_natAbs.1 (by simpa using h1)
  have i2 : ((gc n d : Nat) : Int) ∣ d := Int.natAbs_dvd_natAbs.1 (by simpa using h2)
  obtain ⟨p, hp⟩ := i1
  obtain ⟨q, hq⟩ := i2
  have hG : ((gc n d : Nat) : Int) ≠ 0 := by omega
  have e1 : n.natAbs = gc n d * p.natAbs := by rw [show n.natAbs = (((gc n d : Nat) : Int) * p).natAbs by rw [← hp], Int.natAbs_mul]; simp
  have e2 : d.natAbs = gc n d * q.natAbs := by rw [show d.natAbs = (((gc n d : Nat) : Int) * q).natAbs by rw [← hq], Int.natAbs_mul]; simp
  have hc : Nat.gcd p.natAbs q.natAbs = 1 := by
    have h : gc n d = gc n d * Nat.gcd p.natAbs q.natAbs := by
      have : gc n d = Nat.gcd (gc n d * p.natAbs) (gc n d * q.natAbs) := by rw [← e1, ← e2]; rfl
      rw [Nat.gcd_mul_left] at this; exact this
    have : gc n d * 1 = gc n d * Nat.gcd p.natAbs q.natAbs := by rw [Nat.mul_one]; exact h
    exact (Nat.eq_of_mul_eq_mul_left hg this).symm
  have qp : 1 ≤ q := by
    apply Classical.byContradiction
    intro h
    have := Int.mul_nonpos_of_nonneg_of_nonpos (show (0 : Int) ≤ ((gc n d : Nat) : Int) by omega) (show q ≤ 0 by omega)
    omega
  refine ⟨_, p, q, rfl, by omega, by omega, by rw [Int.mul_comm]; exact hp, by rw [Int.mul_comm]; exact hq, ?_, ?_, qp, hc⟩
  · rw [show n.tdiv ((gc n d : Nat) : Int) = (((gc n d : Nat) : Int) * p).tdiv ((gc n d : Nat) : Int) by rw [← hp]]; exact Int.mul_tdiv_cancel_left _ hG
  · rw [show d.tdiv ((gc n d : Nat) : Int) = (((gc n d : Nat) : Int) * q).tdiv ((gc n d : Nat) : Int) by rw [← hq]]; exact Int.mul_tdiv_cancel_left _ hG
theorem red_dvd {p q r s : Int} (h : Nat.gcd p.natAbs q.natAbs = 1) (e : p * s = r * q) : q.natAbs ∣ s.natAbs := by
  have : q.natAbs ∣ p.natAbs * s.natAbs := by
    rw [← Int.natAbs_mul, e, Int.natAbs_mul]; exact Nat.dvd_mul_left _ _
  exact Nat.Coprime.dvd_of_dvd_mul_left (show Nat.Coprime q.natAbs p.natAbs from by rw [Nat.Coprime, Nat.gcd_comm]; exact h) this
theorem red_unique {p q r s : Int} (hq : 1 ≤ q) (hs : 1 ≤ s) (h : Nat.gcd p.natAbs q.natAbs = 1) (k : Nat.gcd r.natAbs s.natAbs = 1) (e : p * s = r * q) : p = r ∧ q = s := by
  have d1 := red_dvd h e
  have d2 := red_dvd k e.symm
  have eq : q = s := by have := Nat.dvd_antisymm d1 d2; omega
  subst eq
  exact ⟨Int.eq_of_mul_eq_mul_right (by omega) e, rfl⟩
theorem gc_ok {n d g : Int} (hd : d ≤ 1000000000000000000) (h : ((gc n d : Nat) : Int) = g) (hg : g ≤ d) : (if 9223372036854775807 < gc n d then (0 : Int) else ((gc n d : Nat) : Int)) = g ∧ (if 9223372036854775807 < gc n d then (4 : Int) else 0) = 0 := by
  have : ¬ 9223372036854775807 < gc n d := by omega
  rw [if_neg this, if_neg this]; exact ⟨h, rfl⟩
theorem part_le {p g n : Int} (hg : 1 ≤ g) (e : n = p * g) (hn : -1000000000000000000 ≤ n ∧ n ≤ 1000000000000000000) : -1000000000000000000 ≤ p ∧ p ≤ 1000000000000000000 := by
  rcases Int.le_total 0 p with h | h
  · have := Int.mul_le_mul_of_nonneg_left hg h
    omega
  · have := Int.mul_le_mul_of_nonneg_left hg (show 0 ≤ -p by omega)
    simp only [Int.neg_mul] at this
    omega

def R_ffl : AV := (.tuple [(.int (.ite (.app 70 0 (.cons (.var 0) (.cons (.var 1) .nil))) (.app 30 0 (.cons (.var 0) (.cons (.var 1) .nil))) (.lit 0))), (.int (.ite (.app 70 0 (.cons (.var 0) (.cons (.var 1) .nil))) (.app 30 2 (.cons (.var 0) (.cons (.var 1) .nil))) (.lit 1)))])
theorem k_ffl : acall cyb 20 false 38 [] (argsG [.g 2] 0 0) (heapG [.g 2] 0) = .leaf (R_ffl, heapG [.g 2] 0) := by kernel_rfl
set_option maxHeartbeats 4000000 in
set_option maxRecDepth 20000 in
theorem v_ffl : ∀ l : List Int, l.length = lenSh [.g 2] → AllI l → valOf (E.at l) R_ffl = some (tupleV (resV E 68 l [.i, .i] 0 0)) := by
  intro l hl hG
  have h0 : l.length = 2 := hl
  clear hl
  obtain ⟨a0, l1, rfl, h1⟩ := cut1 h0
  clear h0
  obtain ⟨a1, l2, rfl, h2⟩ := cut1 h1
  clear h1
  obtain rfl := cut0 h2
  clear h2
  simp only [R_ffl, valOf, vals1, valInts, val1, tupleV, resV, valsI, den, bt1, bt2, bt3, bt4, Env.at, E, fb, fi, List.getD_cons_zero, List.getD_cons_succ, List.all_cons, List.all_nil, Bool.and_true, nr', us', ss', nr2, us2, ss2, nr3, us3, ss3, Bool.and_assoc, Option.map_some, List.all_append, cmps, Wh.fe, Env.b, Env.i, Tree.map, Tree.sel, maxI, fr4, fr4t]
  cases h : fr1 a0 a1
  · simp
  · obtain ⟨h1, h2⟩ := fr1_ok h
    have e : Wh.fe a0 a1 = 0 := Wh.fe_ok.2 ⟨by omega, by omega⟩
    have q : Wh.fq a0 a1 = a0 / a1 := by unfold Wh.fq; rw [if_pos e, Int.fdiv_eq_ediv_of_nonneg _ (by omega)]
    have e' : (if a1 = 0 then (3 : Int) else if a0 = -9223372036854775808 ∧ a1 = -1 then 4 else 0) = 0 := by rw [if_neg (by omega), if_neg (by omega)]
    simp [q, e']

theorem c_ffl (W : World) : Flat Try.prog E W AllI 38 [.g 2] fun l => tupleV (resV E 68 l [.i, .i] 0 0) := flat_val (cyb_ok W) k_ffl v_ffl

def R_rffl : AV := (.tuple [(.int (.ite (.app 70 0 (.cons (.var 0) (.cons (.var 1) .nil))) (.app 30 0 (.cons (.var 0) (.cons (.var 1) .nil))) (.lit 0))), (.int (.ite (.app 70 0 (.cons (.var 0) (.cons (.var 1) .nil))) (.lit 0) (.lit 1)))])
theorem k_rffl : acall cyb 20 false 39 [] (argsG [.g 2] 0 0) (heapG [.g 2] 0) = .leaf (R_rffl, heapG [.g 2] 0) := by kernel_rfl
set_option maxHeartbeats 4000000 in
set_option maxRecDepth 20000 in
theorem v_rffl : ∀ l : List Int, l.length = lenSh [.g 2] → AllI l → valOf (E.at l) R_rffl = some (tupleV (resV E 68 l [.i, .i] 0 0)) := by
  intro l hl hG
  have h0 : l.length = 2 := hl
  clear hl
  obtain ⟨a0, l1, rfl, h1⟩ := cut1 h0
  clear h0
  obtain ⟨a1, l2, rfl, h2⟩ := cut1 h1
  clear h1
  obtain rfl := cut0 h2
  clear h2
  simp only [R_rffl, valOf, vals1, valInts, val1, tupleV, resV, valsI, den, bt1, bt2, bt3, bt4, Env.at, E, fb, fi, List.getD_cons_zero, List.getD_cons_succ, List.all_cons, List.all_nil, Bool.and_true, nr', us', ss', nr2, us2, ss2, nr3, us3, ss3, Bool.and_assoc, Option.map_some, List.all_append, cmps, Wh.fe, Env.b, Env.i, Tree.map, Tree.sel, maxI, fr4, fr4t]
  cases h : fr1 a0 a1
  · simp
  · obtain ⟨h1, h2⟩ := fr1_ok h
    have e : Wh.fe a0 a1 = 0 := Wh.fe_ok.2 ⟨by omega, by omega⟩
    have q : Wh.fq a0 a1 = a0 / a1 := by unfold Wh.fq; rw [if_pos e, Int.fdiv_eq_ediv_of_nonneg _ (by omega)]
    have e' : (if a1 = 0 then (3 : Int) else if a0 = -9223372036854775808 ∧ a1 = -1 then 4 else 0) = 0 := by rw [if_neg (by omega), if_neg (by omega)]
    simp [q, e']

theorem c_rffl (W : World) : Flat Try.prog E W AllI 39 [.g 2] fun l => tupleV (resV E 68 l [.i, .i] 0 0) := flat_val (cyb_ok W) k_rffl v_rffl

def R_fred : Tree (AV × Hp) := (.node (.ite (.app 70 0 (.cons (.var 0) (.cons (.var 1) .nil))) (.no (.eq (.app 52 0 (.cons (.var 0) (.cons (.var 1) .nil))) (.lit 0))) (.blit true)) (.leaf ((.tuple [(.agg [(.int (.ite (.app 70 0 (.cons (.var 0) (.cons (.var 1) .nil))) (.quo (.var 0) (.app 52 0 (.cons (.var 0) (.cons (.var 1) .nil)))) (.lit 0))), (.int (.ite (.app 70 0 (.cons (.var 0) (.cons (.var 1) .nil))) (.quo (.var 1) (.app 52 0 (.cons (.var 0) (.cons (.var 1) .nil)))) (.lit 0)))]), (.int (.ite (.app 70 0 (.cons (.var 0) (.cons (.var 1) .nil))) (.app 52 1 (.cons (.var 0) (.cons (.var 1) .nil))) (.lit 1)))]), [])) (.fail ))
theorem k_fred : acall cyb 20 false 40 [] (argsG [.g 2] 0 0) (heapG [.g 2] 0) = R_fred := by kernel_rfl
set_option maxHeartbeats 4000000 in
set_option maxRecDepth 20000 in
theorem v_fred : ∀ l : List Int, l.length = lenSh [.g 2] → AllI l → ((R_fred.map fun r => valOf (E.at l) r.1).sel (E.at l)) = some (some (tupleV (resV E 69 l [.g 2, .i] 0 0))) := by
  intro l hl hG
  have h0 : l.length = 2 := hl
  clear hl
  obtain ⟨a0, l1, rfl, h1⟩ := cut1 h0
  clear h0
  obtain ⟨a1, l2, rfl, h2⟩ := cut1 h1
  clear h1
  obtain rfl := cut0 h2
  clear h2
  simp only [R_fred, valOf, vals1, valInts, val1, tupleV, resV, valsI, den, bt1, bt2, bt3, bt4, Env.at, E, fb, fi, List.getD_cons_zero, List.getD_cons_succ, List.all_cons, List.all_nil, Bool.and_true, nr', us', ss', nr2, us2, ss2, nr3, us3, ss3, Bool.and_assoc, Option.map_some, List.all_append, cmps, Wh.fe, Env.b, Env.i, Tree.map, Tree.sel, maxI, fr4, fr4t]
  cases h : fr1 a0 a1
  · simp
  · have hk := fr1_ok h
    obtain ⟨g, p, q, e1, e2, e3, e4, e5, e6, e7, e8, e9⟩ := red (n := a0) hk.1.1
    obtain ⟨f1, f2⟩ := gc_ok hk.1.2 e1 e3
    have gz : (g == 0) = false := by simp; omega
    have gz2 : (0 == g) = false := by simp; omega
    have bp := part_le e2 e4 hk.2; have bq := part_le e2 e5 (by omega)
    have wp : IntKind.i64.wrap p = p := wr (by omega)
    have wq : IntKind.i64.wrap q = q := wr (by omega)
    simp only [if_true, f1, f2, gz, e6, e7, wp, wq]
    simp [e1, e6, e7]

theorem c_fred (W : World) : Flat Try.prog E W AllI 40 [.g 2] fun l => tupleV (resV E 69 l [.g 2, .i] 0 0) := flat_sel (cyb_ok W) k_fred v_fred

def R_rfred : Tree (AV × Hp) := (.node (.ite (.app 70 0 (.cons (.var 0) (.cons (.var 1) .nil))) (.no (.eq (.app 52 0 (.cons (.var 0) (.cons (.var 1) .nil))) (.lit 0))) (.blit true)) (.leaf ((.tuple [(.agg [(.int (.ite (.app 70 0 (.cons (.var 0) (.cons (.var 1) .nil))) (.quo (.var 0) (.app 52 0 (.cons (.var 0) (.cons (.var 1) .nil)))) (.lit 0))), (.int (.ite (.app 70 0 (.cons (.var 0) (.cons (.var 1) .nil))) (.quo (.var 1) (.app 52 0 (.cons (.var 0) (.cons (.var 1) .nil)))) (.lit 0)))]), (.int (.ite (.app 70 0 (.cons (.var 0) (.cons (.var 1) .nil))) (.lit 0) (.lit 1)))]), [])) (.fail ))
theorem k_rfred : acall cyb 20 false 41 [] (argsG [.g 2] 0 0) (heapG [.g 2] 0) = R_rfred := by kernel_rfl
set_option maxHeartbeats 4000000 in
set_option maxRecDepth 20000 in
theorem v_rfred : ∀ l : List Int, l.length = lenSh [.g 2] → AllI l → ((R_rfred.map fun r => valOf (E.at l) r.1).sel (E.at l)) = some (some (tupleV (resV E 69 l [.g 2, .i] 0 0))) := by
  intro l hl hG
  have h0 : l.length = 2 := hl
  clear hl
  obtain ⟨a0, l1, rfl, h1⟩ := cut1 h0
  clear h0
  obtain ⟨a1, l2, rfl, h2⟩ := cut1 h1
  clear h1
  obtain rfl := cut0 h2
  clear h2
  simp only [R_rfred, valOf, vals1, valInts, val1, tupleV, resV, valsI, den, bt1, bt2, bt3, bt4, Env.at, E, fb, fi, List.getD_cons_zero, List.getD_cons_succ, List.all_cons, List.all_nil, Bool.and_true, nr', us', ss', nr2, us2, ss2, nr3, us3, ss3, Bool.and_assoc, Option.map_some, List.all_append, cmps, Wh.fe, Env.b, Env.i, Tree.map, Tree.sel, maxI, fr4, fr4t]
  cases h : fr1 a0 a1
  · simp
  · have hk := fr1_ok h
    obtain ⟨g, p, q, e1, e2, e3, e4, e5, e6, e7, e8, e9⟩ := red (n := a0) hk.1.1
    obtain ⟨f1, f2⟩ := gc_ok hk.1.2 e1 e3
    have gz : (g == 0) = false := by simp; omega
    have gz2 : (0 == g) = false := by simp; omega
    have bp := part_le e2 e4 hk.2; have bq := part_le e2 e5 (by omega)
    have wp : IntKind.i64.wrap p = p := wr (by omega)
    have wq : IntKind.i64.wrap q = q := wr (by omega)
    simp only [if_true, f1, f2, gz, e6, e7, wp, wq]
    simp [e1, e6, e7]

theorem c_rfred (W : World) : Flat Try.prog E W AllI 41 [.g 2] fun l => tupleV (resV E 69 l [.g 2, .i] 0 0) := flat_sel (cyb_ok W) k_rfred v_rfred

noncomputable def cyc : Cx := ⟨cyb.ty, cyb.fn, [flatCon 38 [.g 2] [.i, .i] 68 (rangesOk okF), flatCon 39 [.g 2] [.i, .i] 68 (rangesOk okF), flatCon 40 [.g 2] [.g 2, .i] 69 (rangesOk okF), flatCon 41 [.g 2] [.g 2, .i] 69 (rangesOk okF)] ++ cyb.con, cyb.inl, cyb.eqs⟩
theorem cyc_ok (W : World) : ∀ l, AllI l → CxOk Try.prog (E.at l) W cyc :=
  cx_more (cyb_ok W) (List.forall_mem_cons.2 ⟨flat_conI okF_I (c_ffl W), List.forall_mem_cons.2 ⟨flat_conI okF_I (c_rffl W), List.forall_mem_cons.2 ⟨flat_conI okF_I (c_fred W), List.forall_mem_cons.2 ⟨flat_conI okF_I (c_rfred W), (fun _ h => by cases h)⟩⟩⟩⟩)
end Go.Proofs.Ytfpnkcmplmkghaa.Sx
