/- The walk of RasterDoes. -/
import Derived.Test.YtfkgjpdipdllhaaWom
import Derived.Deep.CutRange
import Derived.Deep.CutBlock
set_option linter.unusedVariables false
set_option linter.unusedSimpArgs false
namespace Go.Proofs.Ytfkgjpdipdllhaa
open Go.RowKit
open Mt Ro
namespace Mt
theorem rtexel_raw (x y : Int) (w : World) : Calls Try.prog 12 #[.agg #[.int .i64 x, .int .i64 y]] w fun e w' => e = .returned (.tuple #[.int .i64 (Sx.fi 67 0 [x, y]), .int .i64 (Sx.fi 67 1 [x, y]), .int .i64 (Sx.fi 67 2 [x, y])]) ∧ Gr w w' :=
  Sx.flat_run (Sx.c_rtex w) rfl [x, y] rfl trivial
def earlyB (W H : Int) (len nlen : Nat) : Bool := decide (8 < len ∨ 40 < nlen ∨ (12 < W ∧ W ≤ 256 ∧ 0 < H ∧ H ≤ 256) ∨ (12 < H ∧ H ≤ 256 ∧ 0 < W ∧ W ≤ 256))
theorem ivl (W : Int) : (W ≤ 0 ∧ decide (12 < W) = false ∧ decide (W ≤ 256) = true ∧ decide (0 < W) = false) ∨ ((1 ≤ W ∧ W ≤ 12) ∧ decide (12 < W) = false ∧ decide (W ≤ 256) = true ∧ decide (0 < W) = true) ∨ ((13 ≤ W ∧ W ≤ 256) ∧ decide (12 < W) = true ∧ decide (W ≤ 256) = true ∧ decide (0 < W) = true) ∨ (257 ≤ W ∧ decide (12 < W) = true ∧ decide (W ≤ 256) = false ∧ decide (0 < W) = true) := by
  simp; omega
end Mt
set_option maxHeartbeats 16000000 in
set_option maxRecDepth 100000 in
theorem walk_RasterDoes (w : World) (W : Int) (_ : I W) (H : Int) (_ : I H) (a : Option Addr) (len cap : Nat) (zs : List (List Int)) (hr : Oi.IsRows 6 w a len zs) (hn : len ≤ cap ∧ (a = none → cap = 0)) (x : Int) (_ : I x) (y : Int) (_ : I y) (px py : Int) (_ : I px) (_ : I py)
    (an : Option Addr) (nlen ncap : Nat) (ns : List Int) (hnr : IsRow .i64 w an nlen ns) (hnn : an = none → ncap = 0) :
    Calls Try.prog 3 #[.int .i64 W, .int .i64 H, .slice a len cap, .int .i64 x, .int .i64 y, .agg #[.int .i64 px, .int .i64 py], .slice an nlen ncap] w fun e w' => e = .returned (.bool true) ∧ Gr w w' := by
  have hzl := hr.1
  have HR := Lib.hid hr; have HO := Lib.hid owned_any; have HN := Lib.hid hnr; have HNN := Lib.hid hnn
  have hB0 : Bx (w.alloc (.cells #[.int .i64 px, .int .i64 py] 24)) w.heap.size 24 [.int .i64 px, .int .i64 py] := Bx.new (vs := [.int .i64 px, .int .i64 py]) rfl
  have HB0 := Lib.hid hB0
  have HG0 := Lib.hid ((Gr.refl w).alloc (.cells #[.int .i64 px, .int .i64 py] 24))
  clear hr hn hB0 hnr hnn
  go_enter Try.func3, Try.ntmps3
  go_upto_region 1 with fail
  go_cut [72] from 33 to 71 (fun s72 wx => s72 = .bool (earlyB W H len nlen) ∧ wx = w.alloc (.cells #[.int .i64 px, .int .i64 py] 24))
  case first =>
    by_cases hA : 8 < len
    · have d1 : decide ((8 : Int) < (len : Int)) = true := by simp; omega
      have d1' : decide (8 < len) = true := by simp; omega
      go_wp2_with fail
      go_meet
      case rel => exact ⟨by unfold earlyB; rw [decide_eq_true (.inl hA)], rfl⟩
    · have d1 : decide ((8 : Int) < (len : Int)) = false := by simp; omega
      have d1' : decide (8 < len) = false := by simp; omega
      by_cases hN : 40 < nlen
      · have d2 : decide ((40 : Int) < (nlen : Int)) = true := by simp; omega
        have d2' : decide (40 < nlen) = true := by simp; omega
        go_wp2_with fail
        go_meet
        case rel => exact ⟨by unfold earlyB; rw [decide_eq_true (.inr (.inl hN))], rfl⟩
      · have d2 : decide ((40 : Int) < (nlen : Int)) = false := by simp; omega
        have d2' : decide (40 < nlen) = false := by simp; omega
        rcases ivl W with ⟨iw, w1, w2, w3⟩ | ⟨iw, w1, w2, w3⟩ | ⟨iw, w1, w2, w3⟩ | ⟨iw, w1, w2, w3⟩
        all_goals rcases ivl H with ⟨ih, v1, v2, v3⟩ | ⟨ih, v1, v2, v3⟩ | ⟨ih, v1, v2, v3⟩ | ⟨ih, v1, v2, v3⟩
        all_goals
          have HIW := Lib.hid iw; have HIH := Lib.hid ih
          clear iw ih
          go_wp2_with fail
          go_meet
          case rel =>
            refine ⟨?_, rfl⟩
            have := HIW.out; have := HIH.out
            unfold earlyB
            first
              | (rw [decide_eq_true (by omega)])
              | (rw [decide_eq_false (by omega)])
  case rest =>
    obtain ⟨rfl, rfl⟩ := hcut
    cases hE : earlyB W H len nlen
    · unfold earlyB at hE
      have hE := of_decide_eq_false hE
      have hl8 : len ≤ 8 := by omega
      have hn40 : nlen ≤ 40 := by omega
      have HOW := Lib.hid (fun w h => owners_any W H a len cap zs w h (by omega))
      have HRO := Lib.hid (fun w h => rowners_any W H a len cap zs w h (by omega))
      have hI : ∀ n, n < (owL W H zs).length + 1 → True := fun _ _ => trivial
      clear hE hI
      generalize owL W H zs = L at *
      generalize owE W H zs = E at *
      obtain ⟨wb, hwb⟩ : ∃ wb, w.alloc (.cells #[.int .i64 px, .int .i64 py] 24) = wb := ⟨_, rfl⟩
      rw [hwb] at HB0 HG0 ⊢
      clear hwb
      go_wp2_with fail
      go_loopw [15] (fun v15 wr => ∃ k : Nat, k ≤ nlen ∧ v15 = .int .i64 k ∧ wb = wr) (fun v15 _ => nlen - (intOf v15).toNat)
      case atStart => exact ⟨0, Nat.zero_le _, rfl, by first | rfl | trivial⟩
      case round =>
        obtain ⟨k, hk, rfl, rfl⟩ := hrel
        by_cases hlt : k < nlen
        · obtain ⟨b, off, rfl, hbl, hcell, hI⟩ := row_at (HN.out.later HG0.out) hlt
          have hk0 : (0 : Int) ≤ (k : Int) := by omega
          generalize ns.getD k 0 = v at hcell hI
          by_cases hv : 1000 < v ∧ v ≤ 1000000
          · have v1 : decide (1000 < v) = true := by simp; omega
            have v2 : decide (v ≤ 1000000) = true := by simp; omega
            go_wp2_with fail
            go_ret
            exact ⟨rfl, HG0.out⟩
          · have hv2 : (decide (1000 < v) = false) ∨ (decide (1000 < v) = true ∧ decide (v ≤ 1000000) = false) := by simp; omega
            clear hv
            rcases hv2 with v1 | ⟨v1, v2⟩
            all_goals
              go_wp2_with fail
              go_roundw
              case rel => exact ⟨k + 1, by omega, by go_num, by first | rfl | trivial⟩
              case measure => simp [intOf]; omega
        · have hkn : k = nlen := by omega
          clear hlt
          go_wp2_with fail
          refine (Ow.own_any an nlen ncap ns _ (HN.out.later HG0.out) HNN.out (by omega)).mono ?_
          rintro e w1 ⟨a16, cap16, rfl, hr16, hg1⟩
          have hnl : ns.length = nlen := HN.out.1
          rw [hnl] at hr16 ⊢
          have R16 := Lib.hid hr16
          have G1 := Lib.hid (HG0.out.trans hg1); have B1 := Lib.hid (HB0.out.gr hg1)
          clear hr16 hg1 hnl
          go_wp2_with fail
          refine (HOW.out _ (HR.out.later G1.out)).mono ?_
          rintro e w2 ⟨a17, cap17, rfl, hr17, hg2⟩
          have R17 := Lib.hid hr17; have R16 := Lib.hid (R16.out.later hg2)
          have G2 := Lib.hid (G1.out.trans hg2); have B2 := Lib.hid (B1.out.gr hg2)
          clear hr17 hg2
          go_wp2_with fail
          refine (HRO.out _ (HR.out.later G2.out)).mono ?_
          rintro e w3 ⟨a19, cap19, rfl, hr19, hg3⟩
          have R19 := Lib.hid hr19; have R17 := Lib.hid (R17.out.later hg3); have R16 := Lib.hid (R16.out.later hg3)
          have G3 := Lib.hid (G2.out.trans hg3); have B3 := Lib.hid (B2.out.gr hg3)
          have c0 := B3.out.blk.cell 0 rfl; have c1 := B3.out.blk.cell 1 rfl; have l0 := B3.out.lt
          clear hr19 hg3
          go_wp2_with fail
          refine (texel_raw px py _).mono ?_
          rintro e w4 ⟨rfl, hg4⟩
          have R19 := Lib.hid (R19.out.later hg4); have R17 := Lib.hid (R17.out.later hg4); have R16 := Lib.hid (R16.out.later hg4)
          have G4 := Lib.hid (G3.out.trans hg4); have B4 := Lib.hid (B3.out.gr hg4)
          clear c0 c1 l0 hg4
          have c0 := B4.out.blk.cell 0 rfl; have c1 := B4.out.blk.cell 1 rfl; have l0 := B4.out.lt
          have HT := Lib.hid (rtexel_raw px py)
          generalize Sx.fi 67 0 [px, py] = u0 at *
          generalize Sx.fi 67 1 [px, py] = u1 at *
          generalize Sx.fi 67 2 [px, py] = u2 at *
          go_wp2_with fail
          refine (HT.out _).mono ?_
          rintro e w5 ⟨rfl, hg5⟩
          have R19 := Lib.hid (R19.out.later hg5); have R17 := Lib.hid (R17.out.later hg5); have R16 := Lib.hid (R16.out.later hg5)
          have G5 := Lib.hid (G4.out.trans hg5)
          clear c0 c1 l0 hg5
          go_wp2_with fail
          refine (Ow.same_any a17 a19 L.length cap17 cap19 L _ R17.out R19.out).mono ?_
          rintro e w6 ⟨rfl, hg6⟩
          have R16 := Lib.hid (R16.out.later hg6.gr)
          have G6 := Lib.hid (G5.out.trans hg6.gr)
          clear hg6
          have b1 : (E == E) = true := beq_self_eq_true E
          have b2 : (u0 == u0) = true := beq_self_eq_true u0
          have b3 : (u1 == u1) = true := beq_self_eq_true u1
          have b4 : (u2 == u2) = true := beq_self_eq_true u2
          go_wp2_with fail
          refine (count_any an nlen ncap ns _ (HN.out.later G6.out) (by omega)).mono ?_
          rintro e w7 ⟨ac, capc, rfl, hrc, hg7⟩
          have RC := Lib.hid hrc
          have R16 := Lib.hid (R16.out.later hg7)
          have G7 := Lib.hid (G6.out.trans hg7)
          clear hrc hg7
          go_wp2_with fail
          refine (rcount_any a16 nlen cap16 ns _ R16.out (by omega)).mono ?_
          rintro e w8 ⟨ad, capd, rfl, hrd, hg8⟩
          have RD := Lib.hid hrd; have RC := Lib.hid (RC.out.later hg8)
          have R16 := Lib.hid (R16.out.later hg8)
          have G8 := Lib.hid (G7.out.trans hg8)
          clear hrd hg8
          go_wp2_with fail
          refine (Ow.same_any ac ad (cntL ns).length capc capd (cntL ns) _ RC.out RD.out).mono ?_
          rintro e w9 ⟨rfl, hg9⟩
          have R16 := Lib.hid (R16.out.later hg9.gr)
          have G9 := Lib.hid (G8.out.trans hg9.gr)
          clear hg9
          go_wp2_with fail
          go_loopw [28] (fun v28 wr => ∃ i : Nat, i ≤ len ∧ v28 = .int .i64 i ∧ Gr w9 wr) (fun v28 _ => len - (intOf v28).toNat)
          case atStart => exact ⟨0, Nat.zero_le _, rfl, Gr.refl _⟩
          case round =>
            obtain ⟨i, hi, rfl, hg⟩ := hrel
            have HK := Lib.hid hg
            clear hg
            by_cases hlti : i < len
            · obtain ⟨b, off, t0, t1, t2, t3, t4, t5, rfl, hbl, ez, c0, c1, c2, c3, c4, c5⟩ := rows6_at (HR.out.later (G9.out.trans HK.out)) hlti
              have EZ := Lib.hid ez
              have hi0 : (0 : Int) ≤ (i : Int) := by omega
              clear ez
              go_wp2_with fail
              refine (covers_raw x y t0 t1 t2 t3 t4 t5 _).mono ?_
              rintro e wa ⟨rfl, hga⟩
              have GA := Lib.hid ((G9.out.trans HK.out).trans hga); have KA := Lib.hid (HK.out.trans hga)
              clear c0 c1 c2 c3 c4 c5 hga
              obtain ⟨b', off', s0, s1, s2, s3, s4, s5, eb, hbl', ez', c0, c1, c2, c3, c4, c5⟩ := rows6_at (HR.out.later GA.out) hlti
              cases eb
              have es := EZ.out.symm.trans ez'
              obtain ⟨rfl, rfl, rfl, rfl, rfl, rfl⟩ : t0 = s0 ∧ t1 = s1 ∧ t2 = s2 ∧ t3 = s3 ∧ t4 = s4 ∧ t5 = s5 := by simpa using es
              clear ez' es
              go_wp2_with fail
              refine (rcovers_raw x y t0 t1 t2 t3 t4 t5 _).mono ?_
              rintro e wb' ⟨rfl, hgb⟩
              have KB := Lib.hid (KA.out.trans hgb)
              clear hgb c0 c1 c2 c3 c4 c5
              generalize cov [t0, t1, t2, t3, t4, t5] x y = cv at *
              generalize Sx.fi 66 0 [x, y, t0, t1, t2, t3, t4, t5] = f6 at *
              have b5 : (cv != cv) = false := by cases cv <;> rfl
              have b6 : (f6 != f6) = false := by simp
              go_wp2_with fail
              go_roundw
              case rel => exact ⟨i + 1, by omega, by go_num, KB.out⟩
              case measure => simp [intOf]; omega
            · have hie : i = len := by omega
              clear hlti
              go_wp2_with fail
              refine (HO.out _).mono ?_
              rintro e wa ⟨rfl, hga⟩
              have GA := Lib.hid ((G9.out.trans HK.out).trans hga)
              have R16 := Lib.hid (R16.out.later (HK.out.trans hga))
              clear hga
              go_wp2_with fail
              refine (Ow.same_any an a16 nlen ncap cap16 ns _ (HN.out.later GA.out) R16.out).mono ?_
              rintro e wb' ⟨rfl, hgb⟩
              have GB := Lib.hid (GA.out.trans hgb.gr)
              clear hgb
              go_wp2_with fail
              go_ret
              exact ⟨rfl, GB.out⟩
    · clear hzl
      go_wp2_with fail
      go_ret
      exact ⟨rfl, HG0.out⟩
end Go.Proofs.Ytfkgjpdipdllhaa
