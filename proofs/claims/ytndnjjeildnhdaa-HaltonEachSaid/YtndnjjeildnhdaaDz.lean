/- The walk of HaltonEach. -/
import Derived.Test.YtndnjjeildnhdaaDy
import Derived.Deep.MidRow
set_option linter.unusedVariables false
set_option linter.unusedSimpArgs false
namespace Go.Proofs.Ytndnjjeildnhdaa
open Go.RowKit
open Mt Ro
theorem infoB : (Try.prog.info? 4).map (fun i => (i.zero, i.size, i.bytes)) = some (some (.bool false), 1, 1) := by kernel_rfl
set_option maxHeartbeats 8000000 in
set_option maxRecDepth 100000 in
theorem walk_HaltonEach (w : World) (b : Int) (_ : I b) (k : Int) (_ : I k) :
    Calls Try.prog 4 #[.int .i64 b, .int .i64 k] w fun e w' => e = .returned (.bool true) ∧ Gr w w' := by
  obtain ⟨i0, hi, hz0, hz1, hz2⟩ := info_parts infoB
  by_cases hg : 2 ≤ b ∧ b ≤ 16 ∧ 0 ≤ k ∧ k ≤ 4
  · obtain ⟨g0, g1, g2, g3⟩ := hg
    obtain ⟨n, rfl⟩ : ∃ n : Nat, k = n := ⟨k.toNat, by omega⟩
    have hn4 : n ≤ 4 := by omega
    have hpw := fun j (hj : j ≤ n) => pow_bd g0 g1 j (by omega)
    have hp16 := fun j (hj : j ≤ n) => pow_le16 (k := j) (by omega)
    have PW := Lib.hid hpw; have P16 := Lib.hid hp16
    clear hpw hp16 g2 g3
    have d1 : decide (b < 2) = false := by simp; omega
    have d2 : decide (16 < b) = false := by simp; omega
    have d3 : decide ((n : Int) < 0) = false := by simp
    have d4 : decide (4 < (n : Int)) = false := by simp; omega
    have d5 : decide (4 < n) = false := by simp; omega
    go_enter Try.func4, Try.ntmps4
    go_wp2_with fail
    go_loopw [5, 6] (fun v5 v6 wr => ∃ (j : Nat) (p : Int), j ≤ n ∧ p = b ^ j ∧ v5 = .int .i64 p ∧ v6 = .int .i64 j ∧ w = wr) (fun _ v6 _ => n - (intOf v6).toNat)
    case atStart => exact ⟨0, 1, Nat.zero_le _, by simp, rfl, rfl, by first | rfl | trivial⟩
    case round =>
      obtain ⟨j, p, hj, hp, rfl, rfl, rfl⟩ := hrel
      have HP := Lib.hid hp
      clear hp
      by_cases hlt : j < n
      · obtain ⟨q1, q2⟩ := PW.out (j + 1) hlt
        have q3 := P16.out (j + 1) hlt
        have e : p * b = b ^ (j + 1) := by rw [HP.out, Int.pow_succ]
        have hw : IntKind.i64.wrap (p * b) = p * b := IntWalk.i64_in _ (by rw [e]; omega)
        have HE := Lib.hid e
        clear q1 q2 q3 e
        go_wp2_with fail
        go_roundw
        case rel => exact ⟨j + 1, p * b, by omega, HE.out, rfl, by go_num, by first | rfl | trivial⟩
        case measure => simp [intOf]; omega
      · have hjn : j = n := by omega
        subst hjn
        obtain ⟨q1, q2⟩ := PW.out j (Nat.le_refl _)
        have q3 := P16.out j (Nat.le_refl _)
        rw [← HP.out] at q1 q2
        have hp1 : 1 ≤ p := q1
        have hp2 : p ≤ 65536 := by omega
        clear q1 q2 q3
        by_cases hm : 300 < p
        · have d6 : decide (300 < p) = true := by simp; omega
          go_wp2_with fail
          refine (strewn_any _).mono ?_
          rintro e w3 ⟨rfl, hg3⟩
          have HG3 := Lib.hid hg3
          clear hg3
          go_wp2_with fail
          go_ret
          exact ⟨rfl, HG3.out⟩
        · have d6 : decide (300 < p) = false := by simp; omega
          have hck := chk_all g0 g1 hn4 (by rw [← HP.out]; omega)
          rw [← HP.out] at hck
          obtain ⟨M, hM⟩ : ∃ M : Nat, p = M := ⟨p.toNat, by omega⟩
          rw [hM] at hck
          simp only [Int.toNat_natCast] at hck
          have HCK := Lib.hid hck
          clear hck
          subst hM
          have hM3 : M ≤ 300 := by omega
          go_wp2_with (first | (refine wpList_make_full _ rfl (.tmp 38) (.tmp 38) 38 rfl w.heap.size 4 i0 (.bool false) 1 Try.underlying38 hi hz0 hz1 .i64 .i64 _ _ M rfl rfl ?c1 ?c2 ?c3 ?c4 ?c5 ?_))
          case c1 => rfl
          case c2 => rfl
          case c3 => first | omega | (rw [hz2]; omega)
          case c4 => unfold maxLen; omega
          try case c5 => simp
          intro w1 hown hgrow
          have hG : Gr w w1 := Below.grown (Gr.refl _) hgrow (Nat.le_refl _) (fun k hk => by simp at hk)
          have hB : Blk w1 w.heap.size (bitsE 0 M) := by
            have := own_blk hown
            rw [toList_madeCells_one] at this
            rw [bits_zero]
            simpa using this
          have HG := Lib.hid hG; have HB := Lib.hid hB
          clear hown hgrow hG hB
          go_wp2_with fail
          go_loopw [8] (fun v8 wx => ∃ (i m : Nat), i ≤ M ∧ v8 = .int .i64 i ∧ chk b M (M - i) i m = true ∧ Blk wx w.heap.size (bitsE m M) ∧ Gr w wx) (fun v8 _ => M - (intOf v8).toNat)
          case atStart => exact ⟨0, 0, Nat.zero_le _, rfl, HCK.out, HB.out, HG.out⟩
          case round =>
            clear HB HG HCK
            obtain ⟨i, m, hiM, rfl, hc, hB, hG⟩ := hrel
            by_cases hlt : i < M
            · rw [show M - i = (M - i - 1) + 1 by omega] at hc
              simp only [chk, Bool.and_eq_true, Bool.not_eq_true'] at hc
              obtain ⟨hok, hbit, hnext⟩ := hc
              obtain ⟨o1, o2, o3, o4, o5⟩ := okE_ok hok
              obtain ⟨f0, f1, f2⟩ := fi72 (b := b) (i := (i : Int)) g0 g1 (by omega) (by omega)
              obtain ⟨a, ha⟩ : ∃ a : Nat, atE b M i = a := ⟨(atE b M i).toNat, by omega⟩
              rw [ha] at hbit hnext o4 o5
              simp only [Int.toNat_natCast] at hbit hnext
              have hq : (M : Int).tdiv (dE b i) = M / dE b i := Int.tdiv_eq_ediv_of_nonneg (by omega)
              have hr : (M : Int).tmod (dE b i) = M % dE b i := Int.tmod_eq_emod_of_nonneg (by omega)
              have haq : nE b i * (M / dE b i) = a := ha
              have hq0 : 0 ≤ (M : Int) / dE b i := Int.ediv_nonneg (by omega) (by omega)
              have hq1 : (M : Int) / dE b i ≤ M := Int.ediv_le_self _ (by omega)
              have f0' : Sx.fi 72 0 [b, i] = nE b i := f0
              have f1' : Sx.fi 72 1 [b, i] = dE b i := f1
              have HINV := Lib.hid (fun w => inverse_raw b i w _ _ _ f0' f1' f2)
              clear f0 f1 f0' f1' f2 ha hok
              generalize nE b i = N at *
              generalize dE b i = D at *
              generalize (M : Int) / D = q at *
              have t1 : decide (D < 1) = false := by simp; omega
              have t2 : (D == 0) = false := by simp; omega
              have t3 : IntKind.i64.wrap q = q := IntWalk.i64_in _ (by omega)
              have t4 : IntKind.i64.wrap (N * q) = (a : Int) := by rw [haq]; exact IntWalk.i64_in _ (by omega)
              have t5 : decide ((a : Int) < 0) = false := by simp
              have t6 : decide ((M : Int) ≤ (a : Int)) = false := by simp; omega
              have t7 : decide (M ≤ a) = false := by simp; omega
              have haM : a < M := by omega
              have t8 : (M : Int).tmod D = 0 := by rw [hr, o2]
              have HBB := Lib.hid hB; have HG := Lib.hid hG; have HN := Lib.hid hnext; have HBT := Lib.hid hbit; have HAQ := Lib.hid haq
              have t9 : ¬ D = 0 := by omega
              have HR := Lib.hid hr; have HO2 := Lib.hid o2
              clear hB hG hnext haq hr o2
              go_wp2_with fail
              refine (HINV.out _).mono ?_
              rintro e w2 ⟨rfl, hg2⟩
              have HB2 := Lib.hid (HBB.out.gr hg2); have HG2 := Lib.hid (HG.out.trans hg2)
              clear hg2
              go_wp2_with fail
              refine wp_region_quiet_lit (by kernel_rfl) (by kernel_rfl) ?_
              repeat (go_big_quiet_step (fail))
              refine wpQuiet_nil ?_
              rintro _ ⟨n', rfl⟩
              have hB3 : Blk ((w2.alloc (.cells #[.int .i64 N, .int .i64 D] 25)).drewN n') w.heap.size (bitsE m M) := (HB2.out.alloc).dn n'
              have hg3 : Gr w ((w2.alloc (.cells #[.int .i64 N, .int .i64 D] 25)).drewN n') := (HG2.out.alloc _).dn n'
              generalize (w2.alloc (.cells #[.int .i64 N, .int .i64 D] 25)).drewN n' = w3 at *
              have hc3 := hB3.cell a (bits_getE haM)
              have hz3 := hB3.free a (bits_getE haM)
              rw [HBT.out] at hc3
              have HB3 := Lib.hid hB3; have HG3 := Lib.hid hg3
              have hlt3 := hB3.1
              clear hB3 hg3
              go_wp2_with fail
              go_roundw
              case rel =>
                refine ⟨i + 1, m ||| 1 <<< a, by omega, by go_num, ?_, ?_, HG3.out.setCell (p := ⟨w.heap.size, a, none⟩) (Nat.le_refl _) _⟩
                · rw [show M - (i + 1) = M - i - 1 by omega]; exact HN.out
                · rw [← bits_setE haM]
                  exact HB3.out.set a (bits_getE haM)
              case measure => simp [intOf]; omega
            · have HG := Lib.hid hG
              clear hG hB hc
              go_wp2_with fail
              refine (strewn_any _).mono ?_
              rintro e w3 ⟨rfl, hg3⟩
              have HG3 := Lib.hid (HG.out.trans hg3)
              clear hg3
              go_wp2_with fail
              go_ret
              exact ⟨rfl, HG3.out⟩
  · by_cases c1 : b < 2
    · have d1 : decide (b < 2) = true := by simp; omega
      go_enter Try.func4, Try.ntmps4
      go_wp2_with fail
      refine (strewn_any _).mono ?_
      rintro e w3 ⟨rfl, hg3⟩
      have HG3 := Lib.hid hg3
      clear hg3
      go_wp2_with fail
      go_ret
      exact ⟨rfl, HG3.out⟩
    · have d1 : decide (b < 2) = false := by simp; omega
      by_cases c2 : 16 < b
      · have d2 : decide (16 < b) = true := by simp; omega
        go_enter Try.func4, Try.ntmps4
        go_wp2_with fail
        refine (strewn_any _).mono ?_
        rintro e w3 ⟨rfl, hg3⟩
        have HG3 := Lib.hid hg3
        clear hg3
        go_wp2_with fail
        go_ret
        exact ⟨rfl, HG3.out⟩
      · have d2 : decide (16 < b) = false := by simp; omega
        by_cases c3 : k < 0
        · have d3 : decide (k < 0) = true := by simp; omega
          go_enter Try.func4, Try.ntmps4
          go_wp2_with fail
          refine (strewn_any _).mono ?_
          rintro e w3 ⟨rfl, hg3⟩
          have HG3 := Lib.hid hg3
          clear hg3
          go_wp2_with fail
          go_ret
          exact ⟨rfl, HG3.out⟩
        · have d3 : decide (k < 0) = false := by simp; omega
          have d4 : decide (4 < k) = true := by simp; omega
          go_enter Try.func4, Try.ntmps4
          go_wp2_with fail
          refine (strewn_any _).mono ?_
          rintro e w3 ⟨rfl, hg3⟩
          have HG3 := Lib.hid hg3
          clear hg3
          go_wp2_with fail
          go_ret
          exact ⟨rfl, HG3.out⟩
end Go.Proofs.Ytndnjjeildnhdaa
