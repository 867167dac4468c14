/- The contract of the reference's Gcd (limewashref02). -/
import Derived.Test.YtfpnkcmplmkghaaGd
set_option linter.unusedVariables false
namespace Go.Proofs.Ytfpnkcmplmkghaa
open Go.RowKit
namespace Wh

theorem rgcd_any (a : Option Addr) (len cap : Nat) (zs : List Int) (w : World) (hr : IsRow .i64 w a len zs) :
    Calls Try.prog 93 #[.slice a len cap] w fun e w' => e = .returned (.tuple #[.int .i64 (gv zs), .int .i64 (ge zs)]) ∧ Drew w w' := by
  obtain ⟨hz, hm, hwz, hr⟩ := hr
  by_cases h0 : len = 0
  · subst h0
    have : zs = [] := List.eq_nil_of_length_eq_zero hz
    subst this
    clear hr hwz hz
    go_enter Try.func93, Try.ntmps93
    go_wp2
    go_loopw [4, 5] (fun g i wr => i = .int .i64 0 ∧ g = .int .i64 0 ∧ w = wr) (fun _ i _ => 0)
    case atStart => exact ⟨rfl, rfl, rfl⟩
    case round =>
      obtain ⟨rfl, rfl, rfl⟩ := hrel
      go_wp2
      go_ret2
      exact ⟨rfl, 0, rfl⟩
  · obtain ⟨b, off, rfl, hcell⟩ := hr (by omega)
    clear hr
    have HZ := Lib.hid hz; have HC := Lib.hid hcell; have HW := Lib.hid hwz; clear hcell hwz
    clear hz h0
    go_enter Try.func93, Try.ntmps93
    go_wp2
    go_loop [4, 5] (fun g i => ∃ (k : Nat) (G : Int), k ≤ len ∧ i = .int .i64 k ∧ g = .int .i64 G ∧ G ≤ 0 ∧ -9223372036854775808 ≤ G ∧ G.natAbs = gl (zs.take k)) (fun _ i => len - (intOf i).toNat)
    case atStart => exact ⟨0, 0, Nat.zero_le _, rfl, rfl, by omega, by omega, rfl⟩
    case round =>
      obtain ⟨k, G, hk, rfl, rfl, hG0, hG1, hG2⟩ := hrel
      have HG := Lib.hid hG2; clear hG2
      by_cases hlt : k < len
      · have hkl : k < zs.length := by rw [HZ.out]; omega
        have hkc : w.cell? ⟨b, off + k, none⟩ = some (.int .i64 (zs.getD k 0)) := HC.out k hlt
        have hg2 := gl_take_succ zs k hkl
        have hzI : I (zs.getD k 0) := I_of_wf (HW.out _ (by rw [List.getD_eq_getElem?_getD, List.getElem?_eq_getElem hkl]; exact List.getElem_mem _))
        generalize hzk : zs.getD k 0 = z at hkc hg2 hzI
        rw [← HG.out] at hg2
        have HG2 := Lib.hid hg2; clear hg2
        clear hzk hkl
        obtain ⟨zl, zu⟩ := hzI
        by_cases hpos : 0 < z
        all_goals
          go_wp2
          go_loop [4, 6, 7] (fun g x t => ∃ gn xn : Int, g = .int .i64 gn ∧ x = .int .i64 xn ∧ Nat.gcd gn.natAbs xn.natAbs = Nat.gcd G.natAbs z.natAbs ∧ gn ≤ 0 ∧ -9223372036854775808 ≤ gn ∧ xn ≤ 0 ∧ -9223372036854775808 ≤ xn) (fun _ x _ => (-(intOf x)).toNat)
          case atStart => exact ⟨G, _, rfl, rfl, by first | rfl | rw [Int.natAbs_neg], hG0, hG1, by omega, by omega⟩
          case round =>
            obtain ⟨gn, xn, rfl, rfl, hgx, hg0, hg1, hx0, hx1⟩ := hrel
            have HGX := Lib.hid hgx; clear hgx
            by_cases hxz : xn = 0
            · subst hxz
              go_wp2
              go_round
              case rel =>
                refine ⟨k + 1, gn, by omega, by go_num, rfl, hg0, hg1, ?_⟩
                rw [HG2.out, ← HGX.out]; simp
              case measure => simp [intOf]; omega
            · have hxb : (xn != 0) = true := by simpa using hxz
              by_cases hgz : gn = 0
              · have hgb : (gn == 0) = true := by simpa using hgz
                have HGZ := Lib.hid hgz; clear hgz
                go_wp2
                go_round
                case rel =>
                  refine ⟨xn, 0, rfl, rfl, ?_, hx0, hx1, by omega, by omega⟩
                  rw [← HGX.out, HGZ.out]; simp
                case measure => simp [intOf]; omega
              · have hgb : (gn == 0) = false := by simpa using hgz
                have hs := (tmod_side gn xn).2 hg0
                have hl := tmod_lt (a := gn) hxz
                have HL := Lib.hid hl; clear hl
                have hmm : Nat.gcd xn.natAbs (gn.tmod xn).natAbs = Nat.gcd gn.natAbs xn.natAbs := by rw [Int.natAbs_tmod, gcd_step]
                have HM := Lib.hid hmm; clear hmm
                go_wp2
                go_round
                case rel =>
                  refine ⟨xn, gn.tmod xn, rfl, rfl, ?_, hx0, hx1, hs, ?_⟩
                  · rw [HM.out]; exact HGX.out
                  · have := HL.out; omega
                case measure => have := HL.out; simp [intOf]; omega
      · have hkl : k = len := by omega
        subst hkl
        have hg2 := HG.out
        rw [List.take_of_length_le (Nat.le_of_eq HZ.out)] at hg2
        have e1 : gv zs = if 9223372036854775807 < gl zs then 0 else (gl zs : Int) := rfl
        have e2 : ge zs = if 9223372036854775807 < gl zs then 4 else 0 := rfl
        have E1 := Lib.hid e1; have E2 := Lib.hid e2; have G2 := Lib.hid hg2; clear e1 e2 hg2 HG
        by_cases hb : G = -9223372036854775808
        · have hbb : (G == -9223372036854775808) = true := by simpa using hb
          have hgt : 9223372036854775807 < gl zs := by rw [← G2.out]; omega
          have HGT := Lib.hid hgt; clear hgt hb
          go_wp2
          go_ret2
          exact ⟨ret2 (by rw [E1.out, if_pos HGT.out]) (by rw [E2.out, if_pos HGT.out]), Drew.refl _⟩
        · have hbb : (G == -9223372036854775808) = false := by simpa using hb
          have hgt : ¬ 9223372036854775807 < gl zs := by rw [← G2.out]; omega
          have hgv : -G = (gl zs : Int) := by rw [← G2.out]; omega
          have HGT := Lib.hid hgt; have HGV := Lib.hid hgv; clear hgt hgv
          go_wp2
          go_ret2
          exact ⟨ret2 (by rw [E1.out, if_neg HGT.out]; exact HGV.out) (by rw [E2.out, if_neg HGT.out]), Drew.refl _⟩
end Wh
end Go.Proofs.Ytfpnkcmplmkghaa
