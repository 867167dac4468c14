/- Contracts, reckoned. -/
import Derived.Test.YtlfoglklibhbnaaGreatC0
import Derived.KernelRfl
set_option linter.unusedVariables false
set_option linter.unusedSimpArgs false
namespace Go.Proofs.YtlfoglklibhbnaaGreat.Sx
open Go.RowKit

theorem nr' (x : Int) : (!(decide (x < -1048576) || decide (1048576 < x))) = nr x := by unfold nr; rw [Bool.eq_iff_iff]; simp
theorem us' (x : Int) : (!(decide (x < -4096) || decide (4096 < x))) = us x := by unfold us; rw [Bool.eq_iff_iff]; simp
theorem ss' (x : Int) : (!(decide (x < -16384) || decide (16384 < x))) = ss x := by unfold ss; rw [Bool.eq_iff_iff]; simp
theorem nr2 (x : Int) : (decide (-1048576 ≤ x) && decide (x ≤ 1048576)) = nr x := rfl
theorem us2 (x : Int) : (decide (-4096 ≤ x) && decide (x ≤ 4096)) = us x := rfl
theorem ss2 (x : Int) : (decide (-16384 ≤ x) && decide (x ≤ 16384)) = ss x := rfl
theorem nr3 (x : Int) (q : Bool) : (decide (-1048576 ≤ x) && (decide (x ≤ 1048576) && q)) = (nr x && q) := by rw [← Bool.and_assoc]; rfl
theorem us3 (x : Int) (q : Bool) : (decide (-4096 ≤ x) && (decide (x ≤ 4096) && q)) = (us x && q) := by rw [← Bool.and_assoc]; rfl
theorem ss3 (x : Int) (q : Bool) : (decide (-16384 ≤ x) && (decide (x ≤ 16384) && q)) = (ss x && q) := by rw [← Bool.and_assoc]; rfl
theorem nr_b {x : Int} (h : nr x = true) : -1048576 ≤ x ∧ x ≤ 1048576 := by simpa [nr] using h
theorem us_b {x : Int} (h : us x = true) : -4096 ≤ x ∧ x ≤ 4096 := by simpa [us] using h
theorem ss_b {x : Int} (h : ss x = true) : -16384 ≤ x ∧ x ≤ 16384 := by simpa [ss] using h
theorem nr_i {x : Int} (h : -1048576 ≤ x ∧ x ≤ 1048576) : nr x = true := by simpa [nr] using h
theorem nr_m {x y : Int} (hx : nr x = true) (hy : nr y = true) : -1099511627776 ≤ x * y ∧ x * y ≤ 1099511627776 := mul_bd (M := 1048576) (N := 1048576) _ (by decide) (nr_b hx) (nr_b hy)
theorem cmps (x y : Int) : (if decide (x < y) = true then (-1 : Int) else if decide (y < x) = true then 1 else 0) = (if x < y then -1 else if y < x then 1 else 0) := by simp
theorem guard {α : Type} {c : Bool} {x y z : α} (h : c = true → x = y) : (if c = true then x else z) = (if c = true then y else z) := by
  cases c
  · rfl
  · exact h rfl
theorem guard2 {α : Type} {p q c : Bool} {x y z : α} (e : (!p || !q) = !c) (h : c = true → x = y) : (if (!p || !q) = true then z else x) = (if c = true then y else z) := by
  rw [e]; cases c
  · rfl
  · exact h rfl
theorem guard3 {α : Type} {c d : Bool} {x y z : α} (e : d = !c) (h : c = true → x = y) : (if d = true then z else x) = (if c = true then y else z) := by
  rw [e]; cases c
  · rfl
  · exact h rfl

def R_near2 : AV := (.bool (.ite (.ite (.lt (.var 0) (.lit (-1048576))) (.blit true) (.lt (.lit 1048576) (.var 0))) (.blit false) (.no (.ite (.lt (.var 1) (.lit (-1048576))) (.blit true) (.lt (.lit 1048576) (.var 1))))))
theorem k_near2 : acall cx0 20 false 112 [] (argsG [.s 3 2 2] 0 0) (heapG [.s 3 2 2] 0) = .leaf (R_near2, heapG [.s 3 2 2] 0) := by kernel_rfl
set_option maxHeartbeats 4000000 in
set_option maxRecDepth 20000 in
theorem v_near2 : ∀ l : List Int, l.length = lenSh [.s 3 2 2] → Any l → valOf (E.at l) R_near2 = some (tupleV (resV E 0 l [.b] 0 0)) := by
  intro l hl hG
  have h0 : l.length = 2 := hl
  clear hl
  obtain ⟨a0, l1, rfl, h1⟩ := cut1 h0
  clear h0
  obtain ⟨a1, l2, rfl, h2⟩ := cut1 h1
  clear h1
  obtain rfl := cut0 h2
  clear h2
  simp only [R_near2, valOf, vals1, valInts, val1, tupleV, resV, valsI, den, bt1, bt2, bt3, bt4, Env.at, E, fb, fi, List.getD_cons_zero, List.getD_cons_succ, List.all_cons, List.all_nil, Bool.and_true, nr', us', ss', nr2, us2, ss2, nr3, us3, ss3, cr2, Bool.and_assoc, Option.map_some, List.all_append, cmps]

theorem c_near2 (W : World) : Flat Tryz.prog E W Any 112 [.s 3 2 2] fun l => tupleV (resV E 0 l [.b] 0 0) := flat_val (cx0_ok W) k_near2 v_near2

def R_near3 : AV := (.bool (.ite (.ite (.lt (.var 0) (.lit (-1048576))) (.blit true) (.lt (.lit 1048576) (.var 0))) (.blit false) (.ite (.ite (.lt (.var 1) (.lit (-1048576))) (.blit true) (.lt (.lit 1048576) (.var 1))) (.blit false) (.no (.ite (.lt (.var 2) (.lit (-1048576))) (.blit true) (.lt (.lit 1048576) (.var 2)))))))
theorem k_near3 : acall cx0 20 false 112 [] (argsG [.s 3 3 3] 0 0) (heapG [.s 3 3 3] 0) = .leaf (R_near3, heapG [.s 3 3 3] 0) := by kernel_rfl
set_option maxHeartbeats 4000000 in
set_option maxRecDepth 20000 in
theorem v_near3 : ∀ l : List Int, l.length = lenSh [.s 3 3 3] → Any l → valOf (E.at l) R_near3 = some (tupleV (resV E 0 l [.b] 0 0)) := by
  intro l hl hG
  have h0 : l.length = 3 := hl
  clear hl
  obtain ⟨a0, l1, rfl, h1⟩ := cut1 h0
  clear h0
  obtain ⟨a1, l2, rfl, h2⟩ := cut1 h1
  clear h1
  obtain ⟨a2, l3, rfl, h3⟩ := cut1 h2
  clear h2
  obtain rfl := cut0 h3
  clear h3
  simp only [R_near3, valOf, vals1, valInts, val1, tupleV, resV, valsI, den, bt1, bt2, bt3, bt4, Env.at, E, fb, fi, List.getD_cons_zero, List.getD_cons_succ, List.all_cons, List.all_nil, Bool.and_true, nr', us', ss', nr2, us2, ss2, nr3, us3, ss3, cr2, Bool.and_assoc, Option.map_some, List.all_append, cmps]

theorem c_near3 (W : World) : Flat Tryz.prog E W Any 112 [.s 3 3 3] fun l => tupleV (resV E 0 l [.b] 0 0) := flat_val (cx0_ok W) k_near3 v_near3

noncomputable def cx1 : Cx := ⟨cx0.ty, cx0.fn, [flatCon 112 [.s 3 2 2] [.b] 0 noChk, flatCon 112 [.s 3 3 3] [.b] 0 noChk] ++ cx0.con, cx0.inl, cx0.eqs⟩
theorem cx1_ok (W : World) : ∀ l, Any l → CxOk Tryz.prog (E.at l) W cx1 :=
  cx_more (cx0_ok W) (List.forall_mem_cons.2 ⟨flat_con' (c_near2 W), List.forall_mem_cons.2 ⟨flat_con' (c_near3 W), (fun _ h => by cases h)⟩⟩)
end Go.Proofs.YtlfoglklibhbnaaGreat.Sx
