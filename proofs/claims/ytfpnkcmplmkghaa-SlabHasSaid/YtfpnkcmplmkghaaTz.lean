/- The box of a row of points: the reference's Of. -/
import Derived.Test.YtfpnkcmplmkghaaSz
set_option linter.unusedVariables false
set_option linter.unusedSimpArgs false
namespace Go.Proofs.Ytfpnkcmplmkghaa
open Go.RowKit
namespace Sz
open Sy
attribute [local go_sem ↓] Go.wp_at_zero Go.wp_at_succ
set_option maxHeartbeats 8000000 in
set_option maxRecDepth 100000 in
theorem rof_any (a : Option Addr) (len cap : Nat) (zs : List (List Int)) (w : World) (hr : Oi.IsRows 3 w a len zs) :
    Calls Try.prog 53 #[.slice a len cap] w fun e w' => e = .returned (.tuple #[obV zs, .int .i64 (oe zs)]) ∧ Gr w w' := by
  have hm := hr.2.1
  by_cases h0 : len = 0
  · subst h0
    have e1 : oe zs = 1 := by unfold oe; rw [if_pos hr.1]
    have e2 : obV zs = .agg #[.int .i64 0, .int .i64 0, .int .i64 0, .int .i64 0, .int .i64 0, .int .i64 0] := by unfold obV ob; rw [if_neg (by rw [e1]; omega)]; rfl
    rw [e1, e2]
    clear hr e1 e2
    go_enter Try.func53, Try.ntmps53
    go_wp2
    refine bodyPost_ret (v := .tuple #[.agg #[.int .i64 0, .int .i64 0, .int .i64 0, .int .i64 0, .int .i64 0, .int .i64 0], .int .i64 1]) (by simp [results, Try.results53, go_sem]) rfl ⟨rfl, ?_⟩
    exact (Gr.refl _).alloc _
  · have hl0 : ¬ zs.length = 0 := by rw [hr.1]; exact h0
    have hlz := hr.1
    have HR := Lib.hid hr
    clear hr
    cases hs : smallL zs
    · have e1 : oe zs = 5 := by unfold oe; rw [if_neg hl0, if_neg (by rw [hs]; simp)]
      have e2 : obV zs = .agg #[.int .i64 0, .int .i64 0, .int .i64 0, .int .i64 0, .int .i64 0, .int .i64 0] := by unfold obV ob; rw [if_neg (by rw [e1]; omega)]; rfl
      rw [e1, e2]
      have HS := Lib.hid hs
      clear e1 e2 hs hl0 hlz
      go_enter Try.func53, Try.ntmps53
      go_wp2_with fail
      refine (all3_any a len cap zs _ (HR.out.later ((Gr.refl _).alloc _))).mono ?_
      rintro e w1 ⟨rfl, g1⟩
      rw [HS.out]
      have hB := (Blk.new (w := w) (T := 69) (vs := [.int .i64 0, .int .i64 0, .int .i64 0, .int .i64 0, .int .i64 0, .int .i64 0]) rfl).gr g1
      have G1 := Lib.hid (((Gr.refl w).alloc (.cells #[.int .i64 0, .int .i64 0, .int .i64 0, .int .i64 0, .int .i64 0, .int .i64 0] 69)).trans g1)
      clear g1
      have HB := Lib.hid hB
      obtain ⟨c0, c1, c2, c3, c4, c5⟩ := cells6 hB
      obtain ⟨f0, f1, f2, f3, f4, f5⟩ := frees6 hB
      have hlt := hB.1
      clear hB
      go_wp2
      obtain ⟨d0, d1, d2, d3, d4, d5⟩ := cells6 (set6 HB.out (.int .i64 0) (.int .i64 0) (.int .i64 0) (.int .i64 0) (.int .i64 0) (.int .i64 0))
      clear c0 c1 c2 c3 c4 c5 f0 f1 f2 f3 f4 f5
      refine bodyPost_ret (v := .tuple #[.agg #[.int .i64 0, .int .i64 0, .int .i64 0, .int .i64 0, .int .i64 0, .int .i64 0], .int .i64 5]) (by simp [results, Try.results53, go_sem, d0, d1, d2, d3, d4, d5]) rfl ⟨rfl, ?_⟩
      exact gr6 G1.out (Nat.le_refl _) _ _ _ _ _ _
    · have e1 : oe zs = 0 := by unfold oe; rw [if_neg hl0, if_pos hs]
      have e2 : obV zs = .agg #[.int .i64 (mnk zs 0 len), .int .i64 (mnk zs 1 len), .int .i64 (mnk zs 2 len), .int .i64 (mxk zs 0 len), .int .i64 (mxk zs 1 len), .int .i64 (mxk zs 2 len)] := by unfold obV ob; rw [if_pos e1, hlz]; rfl
      rw [e1, e2]
      have HS := Lib.hid hs
      have hM := fun j => (fun k (hk : k < len) => mnk_succ zs j k (by omega))
      have hX := fun j => (fun k (hk : k < len) => mxk_succ zs j k (by omega))
      have hM1 := fun j => mnk_one zs j (by omega)
      have hX1 := fun j => mxk_one zs j (by omega)
      have HM := Lib.hid hM; have HX := Lib.hid hX; have HM1 := Lib.hid hM1; have HX1 := Lib.hid hX1
      clear e1 e2 hs hl0 hM hX hlz hM1 hX1
      go_enter Try.func53, Try.ntmps53
      go_wp2_with fail
      refine (all3_any a len cap zs _ (HR.out.later ((Gr.refl _).alloc _))).mono ?_
      rintro e w1 ⟨rfl, g1⟩
      rw [HS.out]
      have HB := Lib.hid ((Blk.new (w := w) (T := 69) (vs := [.int .i64 0, .int .i64 0, .int .i64 0, .int .i64 0, .int .i64 0, .int .i64 0]) rfl).gr g1)
      have hG1 := ((Gr.refl w).alloc (.cells #[.int .i64 0, .int .i64 0, .int .i64 0, .int .i64 0, .int .i64 0, .int .i64 0] 69)).trans g1
      have R1 := Lib.hid (HR.out.later hG1)
      obtain ⟨b, off, x, y, z, rfl, hb, ez, c0, c1, c2, _, _, _⟩ := rows3_at R1.out (i := 0) (by omega)
      simp only [Nat.zero_mul, Nat.add_zero] at c0 c1 c2
      have EZ := Lib.hid ez
      have hl1 : (0 : Int) < (len : Int) := by omega
      have hl2 : 0 < len := by omega
      have G1 := Lib.hid hG1
      clear g1 hG1 ez HR
      go_wp2_with fail
      go_region
      have P1 : Blk (w1.alloc (.cells #[.int .i64 x, .int .i64 y, .int .i64 z, .int .i64 x, .int .i64 y, .int .i64 z] 69)).drew w1.heap.size [.int .i64 x, .int .i64 y, .int .i64 z, .int .i64 x, .int .i64 y, .int .i64 z] := (Blk.new (vs := [.int .i64 x, .int .i64 y, .int .i64 z, .int .i64 x, .int .i64 y, .int .i64 z]) rfl).drew
      have GP : Gr w1 (w1.alloc (.cells #[.int .i64 x, .int .i64 y, .int .i64 z, .int .i64 x, .int .i64 y, .int .i64 z] 69)).drew := ((Gr.refl _).alloc _).drew
      generalize (w1.alloc (.cells #[.int .i64 x, .int .i64 y, .int .i64 z, .int .i64 x, .int .i64 y, .int .i64 z] 69)).drew = w2 at *
      have PH := Lib.hid P1; have GH := Lib.hid GP
      clear P1 GP c0 c1 c2
      go_wp2_with fail
      go_loopw [5] (fun v5 wr => ∃ k : Nat, 1 ≤ k ∧ k ≤ len ∧ v5 = .int .i64 k ∧ Blk wr w1.heap.size [.int .i64 (mnk zs 0 k), .int .i64 (mnk zs 1 k), .int .i64 (mnk zs 2 k), .int .i64 (mxk zs 0 k), .int .i64 (mxk zs 1 k), .int .i64 (mxk zs 2 k)] ∧ Gr w1 wr) (fun v5 _ => len - (intOf v5).toNat)
      case atStart => exact ⟨1, by omega, by omega, rfl, by rw [HM1.out, HM1.out, HM1.out, HX1.out, HX1.out, HX1.out, EZ.out]; exact PH.out, GH.out⟩
      case round =>
        clear PH GH
        obtain ⟨k, hk1, hk, rfl, P, hg⟩ := hrel
        by_cases hlt : k < len
        · obtain ⟨b', off', u, v, t, e2, hb2, ez, c0, c1, c2, _, _, _⟩ := rows3_at (R1.out.later hg) hlt
          obtain ⟨rfl, rfl⟩ : b = b' ∧ off = off' := by injection e2 with e; injection e with e1 e2; exact ⟨e1, e2⟩
          have m0 := HM.out 0 k hlt; have m1 := HM.out 1 k hlt; have m2 := HM.out 2 k hlt
          have x0 := HX.out 0 k hlt; have x1 := HX.out 1 k hlt; have x2 := HX.out 2 k hlt
          rw [ez] at m0 m1 m2 x0 x1 x2
          simp only [List.getD_cons_zero, List.getD_cons_succ] at m0 m1 m2 x0 x1 x2
          generalize mnk zs 0 k = M0 at *
          generalize mnk zs 1 k = M1 at *
          generalize mnk zs 2 k = M2 at *
          generalize mxk zs 0 k = X0 at *
          generalize mxk zs 1 k = X1 at *
          generalize mxk zs 2 k = X2 at *
          have H0 := Lib.hid m0; have H1 := Lib.hid m1; have H2 := Lib.hid m2; have H3 := Lib.hid x0; have H4 := Lib.hid x1; have H5 := Lib.hid x2
          have PP := Lib.hid P; have HG := Lib.hid hg
          obtain ⟨p0, p1, p2, p3, p4, p5⟩ := cells6 P
          obtain ⟨f0, f1, f2, f3, f4, f5⟩ := frees6 P
          have hbl := P.1
          have hm0 : (if u < M0 then u else M0) = min M0 u := by split <;> omega
          have hm1 : (if v < M1 then v else M1) = min M1 v := by split <;> omega
          have hm2 : (if t < M2 then t else M2) = min M2 t := by split <;> omega
          have hx0 : (if X0 < u then u else X0) = max X0 u := by split <;> omega
          have hx1 : (if X1 < v then v else X1) = max X1 v := by split <;> omega
          have hx2 : (if X2 < t then t else X2) = max X2 t := by split <;> omega
          clear m0 m1 m2 x0 x1 x2 P hg e2 ez
          go_wp2_with fail
          refine ⟨⟨k + 1, by omega, by omega, by go_num, ?_, ?_⟩, by simp [intOf]; omega⟩
          · rw [H0.out, H1.out, H2.out, H3.out, H4.out, H5.out]
            exact (set6 PP.out _ _ _ _ _ _).alloc
          · exact (gr6 HG.out (Nat.le_refl _) _ _ _ _ _ _).alloc _
        · have hkl : k = len := by omega
          subst hkl
          have hB := HB.out.gr hg
          have HG2 := Lib.hid (G1.out.trans hg)
          have HB2 := Lib.hid hB
          generalize hE0 : mnk zs 0 k = M0 at *
          generalize hE1 : mnk zs 1 k = M1 at *
          generalize hE2 : mnk zs 2 k = M2 at *
          generalize hE3 : mxk zs 0 k = X0 at *
          generalize hE4 : mxk zs 1 k = X1 at *
          generalize hE5 : mxk zs 2 k = X2 at *
          have E0 := Lib.hid hE0; have E1 := Lib.hid hE1; have E2 := Lib.hid hE2; have E3 := Lib.hid hE3; have E4 := Lib.hid hE4; have E5 := Lib.hid hE5
          obtain ⟨p0, p1, p2, p3, p4, p5⟩ := cells6 P
          obtain ⟨b0, b1, b2, b3, b4, b5⟩ := cells6 hB
          obtain ⟨f0, f1, f2, f3, f4, f5⟩ := frees6 hB
          have hbl := hB.1
          clear hE0 hE1 hE2 hE3 hE4 hE5 P hB hg
          go_wp2
          obtain ⟨d0, d1, d2, d3, d4, d5⟩ := cells6 (set6 HB2.out (.int .i64 M0) (.int .i64 M1) (.int .i64 M2) (.int .i64 X0) (.int .i64 X1) (.int .i64 X2))
          clear b0 b1 b2 b3 b4 b5 f0 f1 f2 f3 f4 f5 p0 p1 p2 p3 p4 p5
          refine bodyPost_ret (v := .tuple #[.agg #[.int .i64 M0, .int .i64 M1, .int .i64 M2, .int .i64 X0, .int .i64 X1, .int .i64 X2], .int .i64 0]) (by simp [results, Try.results53, go_sem, d0, d1, d2, d3, d4, d5]) rfl ⟨by rw [E0.out, E1.out, E2.out, E3.out, E4.out, E5.out], ?_⟩
          exact gr6 HG2.out (Nat.le_refl _) _ _ _ _ _ _
end Sz
end Go.Proofs.Ytfpnkcmplmkghaa
