/- Chapter 23: the reference's Inverse, walked. -/
import Derived.Test.YtndnjjeildnhdaaDc
import Derived.StillTailTactics
set_option linter.unusedVariables false
set_option linter.unusedSimpArgs false
namespace Go.Proofs.Ytndnjjeildnhdaa
open Go.RowKit Go.Shelf
attribute [local go_sem] Oper.semAt_some
namespace Mt
set_option maxHeartbeats 4000000 in
set_option maxRecDepth 100000 in
theorem rinverse_any (b i : Int) (w : World) :
    Calls Try.prog 9 #[.int .i64 b, .int .i64 i] w
      fun e w' => e = .returned (.tuple #[.agg #[.int .i64 (Sx.fi 72 0 [b, i]), .int .i64 (Sx.fi 72 1 [b, i])], .int .i64 (Sx.fi 72 2 [b, i])]) ∧ Gr w w' := by
  go_enter Try.func9, Try.ntmps9
  have e0 : Sx.fi 72 0 [b, i] = if Sx.hok [b, i] then (Sx.hinv [b, i]).1 else 0 := rfl
  have e1 : Sx.fi 72 1 [b, i] = if Sx.hok [b, i] then (Sx.hinv [b, i]).2 else 0 := rfl
  have e2 : Sx.fi 72 2 [b, i] = if Sx.hok [b, i] then 0 else 1 := rfl
  rw [e0, e1, e2]
  clear e0 e1 e2
  have hok : Sx.hok [b, i] = (decide (2 ≤ b) && (decide (b ≤ 16) && (decide (0 ≤ i) && decide (i ≤ 65535)))) := rfl
  by_cases hg : 2 ≤ b ∧ b ≤ 16 ∧ 0 ≤ i ∧ i ≤ 65535
  · obtain ⟨hb2, hb16, hi0, hi1⟩ := hg
    have hk : Sx.hok [b, i] = true := by rw [hok]; simp; omega
    rw [hk]
    simp only [if_true]
    have hinv : Sx.hinv [b, i] = hA b i (nd b 17 i) := by show Sx.hI b 17 i (0, 1) = _; rw [hI_eq, hA_hB]
    rw [hinv]
    clear hok hk hinv
    obtain ⟨nz, npos⟩ := nd_ok hb2 17 i hi0 (by rw [show (2 : Int) ^ 17 = 131072 by decide]; omega)
    have NP := Lib.hid npos; have NZ := Lib.hid nz
    clear nz npos
    generalize nd b 17 i = N at *
    have q1 : decide (b < 2) = false := by simp; omega
    have q2 : decide (16 < b) = false := by simp; omega
    have q3 : decide (i < 0) = false := by simp; omega
    have q4 : decide (65535 < i) = false := by simp; omega
    go_wp2_with fail
    go_loopw [1] (fun v1 wr => ∃ k : Nat, k ≤ N ∧ v1 = .int .i64 (iN b i k) ∧ Bx wr (w.heap.size + 1) 25 [.int .i64 (hA b i k).1, .int .i64 (hA b i k).2] ∧ Bx wr w.heap.size 25 [.int .i64 0, .int .i64 0] ∧ Gr w wr) (fun v _ => (intOf v).toNat)
    case atStart =>
      refine ⟨0, Nat.zero_le _, rfl, ?_, ?_, ?_⟩
      · exact Bx.new (w := w.alloc (.cells #[.int .i64 0, .int .i64 0] 25)) (vs := [.int .i64 0, .int .i64 1]) (by simp)
      · exact (Bx.new (w := w) (vs := [.int .i64 0, .int .i64 0]) rfl).alloc _
      · exact ((Gr.refl w).alloc _).alloc _
    case round =>
      obtain ⟨k, hkN, rfl, hA1, hR1, hgr⟩ := hrel
      by_cases hz : k = N
      · subst hz
        have z0 : iN b i k = 0 := NZ.out
        rw [z0]
        clear z0
        have c0 := hA1.blk.cell 0 rfl; have c1 := hA1.blk.cell 1 rfl
        have r0 := hR1.blk.cell 0 rfl; have r1 := hR1.blk.cell 1 rfl
        have f0 := hR1.blk.free 0 rfl; have f1 := hR1.blk.free 1 rfl
        have HR := Lib.hid hR1; have HG := Lib.hid hgr
        clear hA1 hR1 hgr
        go_wp2_with fail
        refine ⟨rfl, _, results_blk_tmp rfl Sx.ty25 rfl rfl (HR.out.blk.set2 _ _) rfl, rfl, ?_⟩
        exact (HG.out.setCell (p := ⟨w.heap.size, 0, none⟩) (Nat.le_refl _) _).setCell (p := ⟨w.heap.size, 1, none⟩) (Nat.le_refl _) _
      · have hpos := NP.out k (by omega)
        have hle := hA_le hb2 hi0 hpos
        obtain ⟨u1, u2, u3, u4⟩ := hA_bd hb2 hi0 k
        obtain ⟨g1, g2⟩ := iN_bd hb2 hi0 k
        have E1 : (hA b i (k + 1)).1 = (hA b i k).1 * b + iN b i k % b := rfl
        have E2 : (hA b i (k + 1)).2 = (hA b i k).2 * b := rfl
        have E3 : iN b i (k + 1) = iN b i k / b := rfl
        have m0 : 0 ≤ iN b i k % b := Int.emod_nonneg _ (by omega)
        have m1 : iN b i k % b < b := Int.emod_lt_of_pos _ (by omega)
        have d0 : iN b i k / b < iN b i k := Int.ediv_lt_self_of_pos_of_ne_one hpos (by omega)
        have d1 : 0 ≤ iN b i k / b := Int.ediv_nonneg (by omega) (by omega)
        have t1 : (iN b i k).tmod b = iN b i k % b := Int.tmod_eq_emod_of_nonneg (by omega)
        have t2 : (iN b i k).tdiv b = iN b i k / b := Int.tdiv_eq_ediv_of_nonneg (by omega)
        have HE := Lib.hid (And.intro E1 (And.intro E2 E3))
        clear E1 E2 E3 u4
        generalize (hA b i k).1 = n at *
        generalize (hA b i k).2 = d at *
        generalize iN b i k % b = r at *
        generalize iN b i k / b = x at *
        generalize iN b i k = y at *
        have p1 : n * b ≤ 65535 * 16 := Int.mul_le_mul (by omega) hb16 (by omega) (by omega)
        have p2 : d * b ≤ 65535 * 16 := Int.mul_le_mul (by omega) hb16 (by omega) (by omega)
        have p3 : 0 ≤ n * b := Int.mul_nonneg (by omega) (by omega)
        have p4 : 0 ≤ d * b := Int.mul_nonneg (by omega) (by omega)
        have w1 : IntKind.i64.wrap (n * b) = n * b := IntWalk.i64_in _ (by omega)
        have w2 : IntKind.i64.wrap (d * b) = d * b := IntWalk.i64_in _ (by omega)
        have w3 : IntKind.i64.wrap (n * b + r) = n * b + r := IntWalk.i64_in _ (by omega)
        have w4 : IntKind.i64.wrap r = r := IntWalk.i64_in _ (by omega)
        have w5 : IntKind.i64.wrap x = x := IntWalk.i64_in _ (by omega)
        have q5 : decide (0 < y) = true := by simp; omega
        have q6 : (b == 0) = false := by simp; omega
        have q7 : (b == -1) = false := by simp; omega
        have q8 : ¬ b = 0 := by omega
        have c0 := hA1.blk.cell 0 rfl; have c1 := hA1.blk.cell 1 rfl
        have f0 := hA1.blk.free 0 rfl; have f1 := hA1.blk.free 1 rfl
        have HA1 := Lib.hid hA1; have HR := Lib.hid hR1; have HG := Lib.hid hgr
        clear hA1 hR1 hgr
        go_wp2_with fail
        go_still_tail 13, (by kernel_rfl)
        change wpList _ _ _ _ _ wr.drew
        go_wp2_with fail
        go_roundw
        case rel =>
          refine ⟨k + 1, by omega, by rw [HE.out.2.2], ?_, ?_, ?_⟩
          · rw [HE.out.1, HE.out.2.1]
            exact bx_set1 (bx_set0 (HA1.out.gr (Gr.refl wr).drew) _) _
          · exact (HR.out.gr (Gr.refl wr).drew).ks (Ks.trans (ks_cell (i := 0) (T := fun k => k = w.heap.size + 1) (.int .i64 (n * b + r)) rfl) (ks_cell (i := 1) (T := fun k => k = w.heap.size + 1) (.int .i64 (d * b)) rfl)) (by omega)
          · exact (HG.out.drew.setCell (p := ⟨w.heap.size + 1, 0, none⟩) (by simp) _).setCell (p := ⟨w.heap.size + 1, 1, none⟩) (by simp) _
        case measure => simp [intOf]; omega
  · have hk : Sx.hok [b, i] = false := by rw [hok]; simp; omega
    rw [hk]
    simp only [Bool.false_eq_true, if_false]
    clear hok hk
    by_cases q1 : b < 2
    · have q1 : decide (b < 2) = true := by simp; omega
      go_wp2_with fail
      refine ⟨rfl, _, results_blk_tmp rfl Sx.ty25 rfl rfl (Blk.new (vs := [.int .i64 0, .int .i64 0]) (by simp)) rfl, rfl, ?_⟩
      exact (Gr.refl w).alloc _
    · have h1 : decide (b < 2) = false := by simp; omega
      by_cases q2 : 16 < b
      · have h2 : decide (16 < b) = true := by simp; omega
        go_wp2_with fail
        refine ⟨rfl, _, results_blk_tmp rfl Sx.ty25 rfl rfl (Blk.new (vs := [.int .i64 0, .int .i64 0]) (by simp)) rfl, rfl, ?_⟩
        exact (Gr.refl w).alloc _
      · have h2 : decide (16 < b) = false := by simp; omega
        by_cases q3 : i < 0
        · have h3 : decide (i < 0) = true := by simp; omega
          go_wp2_with fail
          refine ⟨rfl, _, results_blk_tmp rfl Sx.ty25 rfl rfl (Blk.new (vs := [.int .i64 0, .int .i64 0]) (by simp)) rfl, rfl, ?_⟩
          exact (Gr.refl w).alloc _
        · have h3 : decide (i < 0) = false := by simp; omega
          have h4 : decide (65535 < i) = true := by simp; omega
          go_wp2_with fail
          refine ⟨rfl, _, results_blk_tmp rfl Sx.ty25 rfl rfl (Blk.new (vs := [.int .i64 0, .int .i64 0]) (by simp)) rfl, rfl, ?_⟩
          exact (Gr.refl w).alloc _
end Mt
end Go.Proofs.Ytndnjjeildnhdaa
