/- The walk of HaltonDisc. -/
import Derived.Test.YtndnjjeildnhdaaDv
set_option linter.unusedVariables false
set_option linter.unusedSimpArgs false
namespace Go.Proofs.Ytndnjjeildnhdaa
open Go.RowKit
open Mt Ro
namespace Mt
theorem disc_le (n : Int) (h : n ≤ 64) (w : World) : Calls Try.prog 12 #[.int .i64 n] w fun e w' => ∃ (a : Option Addr) (len cap : Nat) (er : Int), e = .returned (.tuple #[.slice a len cap, .int .i64 er]) ∧
    Row2 w' a len cap (pts len) ∧ Gr w w' ∧ len ≤ 64 ∧ ((n < 0 ∧ er = 1 ∧ len = 0) ∨ (0 ≤ n ∧ er = 0 ∧ (len : Int) = n)) := by
  by_cases h0 : n < 0
  · refine (disc_bad n (.inl h0) w).mono ?_
    rintro e w' ⟨rfl, rfl⟩
    exact ⟨none, 0, 0, 1, rfl, ⟨Oi.IsRows.nil _ _ _, Nat.le_refl _, fun _ => rfl⟩, Gr.refl _, by omega, .inl ⟨h0, rfl, rfl⟩⟩
  · obtain ⟨k, rfl⟩ : ∃ k : Nat, n = k := ⟨n.toNat, by omega⟩
    refine (disc_any k (by omega) w).mono ?_
    rintro e w' ⟨a, cap, rfl, hr, hg⟩
    exact ⟨a, k, cap, 0, rfl, hr, hg, by omega, .inr ⟨by omega, rfl, rfl⟩⟩
theorem pts_at {n k : Nat} (h : k < n) : (pts n).getD k [] = (dl 65535).getD k [] := by
  unfold pts
  simp [List.getD, List.getElem?_take_of_lt h]
theorem pts_in {n k : Nat} (hn : n ≤ 64) (h : k < n) {z : List Int} (e : (pts n).getD k [] = z) : z ∈ dl 65535 := by
  have hl := pts_len hn
  rw [List.getD_eq_getElem?_getD, List.getElem?_eq_getElem (by omega)] at e
  simp at e
  exact pts_mem (e ▸ List.getElem_mem _)
theorem crn_facts {x y : Int} (h : crn x * crn x + crn y * crn y ≤ 1048576) (a b : Int) (ha : a = crn x) (hb : b = crn y) :
    IntKind.i64.wrap (a * a) = a * a ∧ IntKind.i64.wrap (b * b) = b * b ∧ IntKind.i64.wrap (a * a + b * b) = a * a + b * b ∧ decide (1048576 < a * a + b * b) = false := by
  subst ha hb
  have p : ∀ z : Int, 0 ≤ z * z := fun z => by
    by_cases hz : 0 ≤ z
    · exact Int.mul_nonneg hz hz
    · have := Int.mul_nonneg (show 0 ≤ -z by omega) (show 0 ≤ -z by omega); rwa [Int.neg_mul_neg] at this
  have p1 := p (crn x); have p2 := p (crn y)
  generalize crn x * crn x = u at *
  generalize crn y * crn y = v at *
  exact ⟨IntWalk.i64_in _ (by omega), IntWalk.i64_in _ (by omega), IntWalk.i64_in _ (by omega), by simp; omega⟩
end Mt
set_option maxHeartbeats 8000000 in
set_option maxRecDepth 100000 in
theorem walk_HaltonDisc (w : World) (n : Int) (_ : I n) (m : Int) (_ : I m) :
    Calls Try.prog 5 #[.int .i64 n, .int .i64 m] w fun e w' => e = .returned (.bool true) ∧ Gr w w' := by
  by_cases hn : 64 < n
  · have d1 : decide (64 < n) = true := by simp; omega
    go_enter Try.func5, Try.ntmps5
    go_wp2_with fail
    go_ret
    exact ⟨rfl, Gr.refl _⟩
  · have d1 : decide (64 < n) = false := by simp; omega
    by_cases hm : 64 < m
    · have d2 : decide (64 < m) = true := by simp; omega
      go_enter Try.func5, Try.ntmps5
      go_wp2_with fail
      go_ret
      exact ⟨rfl, Gr.refl _⟩
    · have d2 : decide (64 < m) = false := by simp; omega
      go_enter Try.func5, Try.ntmps5
      go_wp2_with fail
      refine (disc_le n (by omega) _).mono ?_
      rintro e w1 ⟨a, len, cap, er, rfl, hr1, hg1, hl1, ho1⟩
      have HR1 := Lib.hid hr1; have HG1 := Lib.hid hg1
      clear hr1 hg1
      go_wp2_with fail
      refine (disc_le m (by omega) _).mono ?_
      rintro e w2 ⟨a2, len2, cap2, er2, rfl, hr2, hg2, hl2, ho2⟩
      have HR2 := Lib.hid hr2; have HG2 := Lib.hid (HG1.out.trans hg2); have HR1 := Lib.hid (HR1.out.later hg2)
      clear hr2 hg2
      rcases ho1 with ⟨hn0, rfl, rfl⟩ | ⟨hn0, rfl, hln⟩
      · have q1 : decide (n < 0) = true := by simp; omega
        go_wp2_with fail
        refine (strewn_any _).mono ?_
        rintro e w3 ⟨rfl, hg3⟩
        have HG3 := Lib.hid (HG2.out.trans hg3)
        clear hg3
        go_wp2_with fail
        go_ret
        exact ⟨rfl, HG3.out⟩
      · rcases ho2 with ⟨hm0, rfl, rfl⟩ | ⟨hm0, rfl, hlm⟩
        · have q1 : decide (n < 0) = false := by simp; omega
          have q2 : decide (m < 0) = true := by simp; omega
          go_wp2_with fail
          refine (strewn_any _).mono ?_
          rintro e w3 ⟨rfl, hg3⟩
          have HG3 := Lib.hid (HG2.out.trans hg3)
          clear hg3
          go_wp2_with fail
          go_ret
          exact ⟨rfl, HG3.out⟩
        · have b1 : ((len : Int) != n) = false := by simp; omega
          have b2 : ((len2 : Int) != m) = false := by simp; omega
          clear hln hlm
          go_wp2_with fail
          go_loopw [9] (fun i wr => ∃ k : Nat, k ≤ len ∧ i = .int .i64 k ∧ Gr w2 wr) (fun i _ => len - (intOf i).toNat)
          case atStart => exact ⟨0, Nat.zero_le _, rfl, Gr.refl _⟩
          case round =>
            obtain ⟨k, hk, rfl, hg⟩ := hrel
            by_cases hlt : k < len
            · obtain ⟨b, off, x, y, rfl, hbl, ez, cx, cy, hx, hy⟩ := Ro.rows2_at (HR1.out.1.later hg) hlt
              obtain ⟨x', y', e', g1, g2, g3, g4, hsq⟩ := pt_ok (pts_in hl1 hlt ez)
              obtain ⟨rfl, rfl⟩ : x = x' ∧ y = y' := by simpa using e'
              have s1 : decide (x < -1024) = false := by simp; omega
              have s2 : decide (1024 < x) = false := by simp; omega
              have s3 : decide (y < -1024) = false := by simp; omega
              have s4 : decide (1024 < y) = false := by simp; omega
              have HG := Lib.hid hg; have EZ := Lib.hid ez; have HS := Lib.hid hsq
              clear ez hx hy hg hsq e'
              have hcx : (decide (x < 0) = true ∧ x + 1 = crn x) ∨ (decide (x < 0) = false ∧ x = crn x) := by
                unfold crn; by_cases h : x < 0
                · left; simp [h]
                · right; simp [h]
              have hcy : (decide (y < 0) = true ∧ y + 1 = crn y) ∨ (decide (y < 0) = false ∧ y = crn y) := by
                unfold crn; by_cases h : y < 0
                · left; simp [h]
                · right; simp [h]
              have hk2 : (k < len2 ∧ ∃ b2 off2, a2 = some ⟨b2, off2, none⟩ ∧ b2 < wr.heap.size ∧ wr.cell? ⟨b2, off2 + k * 2, none⟩ = some (.int .i64 x) ∧ wr.cell? ⟨b2, off2 + k * 2 + 1, none⟩ = some (.int .i64 y) ∧ decide ((k : Int) < (len2 : Int)) = true) ∨ (¬ k < len2 ∧ decide ((k : Int) < (len2 : Int)) = false) := by
                by_cases hlt2 : k < len2
                · left
                  obtain ⟨b2, off2, x2, y2, h1, hbl2, ez2, cx2, cy2, _, _⟩ := Ro.rows2_at (HR2.out.1.later HG.out) hlt2
                  have e3 := EZ.out
                  rw [pts_at hlt] at e3
                  rw [pts_at hlt2, e3] at ez2
                  obtain ⟨rfl, rfl⟩ : x = x2 ∧ y = y2 := by simpa using ez2
                  exact ⟨hlt2, b2, off2, h1, hbl2, cx2, cy2, by simp; omega⟩
                · right; exact ⟨hlt2, by simp; omega⟩
              have HK2 := Lib.hid hk2
              clear hk2
              rcases hcx with ⟨p1, p2⟩ | ⟨p1, p2⟩ <;> rcases hcy with ⟨p3, p4⟩ | ⟨p3, p4⟩
              all_goals
                obtain ⟨q1, q2, q3, q4⟩ := crn_facts HS.out _ _ p2 p4
                clear p2 p4
                rcases HK2.out with ⟨hlt2, b2, off2, rfl, hbl2, cx2, cy2, q5⟩ | ⟨hlt2, q5⟩
                all_goals
                  have q6 : decide (k < len2) = decide ((k : Int) < (len2 : Int)) := by simp [Int.ofNat_lt]
                  rw [q5] at q6
                  go_wp2_with fail
                  refine wp_region_quiet_lit (by kernel_rfl) (by kernel_rfl) ?_
                  repeat (go_big_quiet_step (fail))
                  refine wpQuiet_nil ?_
                  rintro _ ⟨n', rfl⟩
                  go_wp2_with fail
                  go_roundw
                  case rel => exact ⟨k + 1, by omega, by go_num, HG.out.dn _⟩
                  case measure => simp [intOf]; omega
            · have HG := Lib.hid (HG2.out.trans hg)
              clear hg
              go_wp2_with fail
              refine (strewn_any _).mono ?_
              rintro e w3 ⟨rfl, hg3⟩
              have HG3 := Lib.hid (HG.out.trans hg3)
              clear hg3
              go_wp2_with fail
              go_ret
              exact ⟨rfl, HG3.out⟩
end Go.Proofs.Ytndnjjeildnhdaa
