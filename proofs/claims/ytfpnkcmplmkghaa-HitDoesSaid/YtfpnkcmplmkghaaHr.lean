/- The contract of the reference's First, of chapter 12. -/
import Derived.Test.YtfpnkcmplmkghaaHf
import Derived.Test.YtfpnkcmplmkghaaS9
import Derived.Test.YtfpnkcmplmkghaaCn
set_option linter.unusedVariables false
namespace Go.Proofs.Ytfpnkcmplmkghaa
open Go.RowKit
namespace Hf
theorem rhit_any (a0 a1 a2 b0 b1 b2 t0 t1 t2 t3 t4 t5 t6 t7 t8 : Int) (w : World) :
    Calls Try.prog 19 #[.agg #[.int .i64 a0, .int .i64 a1, .int .i64 a2], .agg #[.int .i64 b0, .int .i64 b1, .int .i64 b2], .agg #[.int .i64 t0, .int .i64 t1, .int .i64 t2, .int .i64 t3, .int .i64 t4, .int .i64 t5, .int .i64 t6, .int .i64 t7, .int .i64 t8]] w
      fun e w' => e = .returned (.tuple #[.bool (hb [a0, a1, a2, b0, b1, b2, t0, t1, t2, t3, t4, t5, t6, t7, t8]), .int .i64 (he [a0, a1, a2, b0, b1, b2, t0, t1, t2, t3, t4, t5, t6, t7, t8])]) ∧ Gr w w' :=
  Sx.flat_run (Sx.c_rhit w) rfl [a0, a1, a2, b0, b1, b2, t0, t1, t2, t3, t4, t5, t6, t7, t8] rfl trivial
set_option maxHeartbeats 4000000 in
theorem rfirst_any (a0 a1 a2 b0 b1 b2 : Int) (p : Option Addr) (len cap : Nat) (zs : List (List Int)) (w : World) (hr : Oi.IsRows 9 w p len zs) :
    Calls Try.prog 23 #[.agg #[.int .i64 a0, .int .i64 a1, .int .i64 a2], .agg #[.int .i64 b0, .int .i64 b1, .int .i64 b2], .slice p len cap] w
      fun e w' => e = .returned (.tuple #[.int .i64 (go 0 0 false (es a0 a1 a2 b0 b1 b2 zs)).1, .bool (go 0 0 false (es a0 a1 a2 b0 b1 b2 zs)).2.1, .int .i64 (go 0 0 false (es a0 a1 a2 b0 b1 b2 zs)).2.2]) ∧ Gr w w' := by
  have hm := hr.2.1
  have hz := hr.1
  have HR := Lib.hid hr
  have HZ := Lib.hid hz; clear hr hz
  go_enter Try.func23, Try.ntmps23
  go_wp2_with fail
  go_loopw [9, 10] (fun v9 v10 wr => ∃ (k : Nat) (A at' : Int) (fd : Bool), k ≤ len ∧ v10 = .int .i64 k ∧ v9 = .int .i64 A ∧ ((A = -1 ∧ fd = false ∧ at' = 0) ∨ (0 ≤ A ∧ fd = true ∧ at' = A)) ∧ Gr w wr ∧ go 0 0 false (es a0 a1 a2 b0 b1 b2 zs) = go k at' fd ((es a0 a1 a2 b0 b1 b2 zs).drop k)
      ∧ Blk wr w.heap.size [.int .i64 a0, .int .i64 a1, .int .i64 a2] ∧ Blk wr (w.heap.size + 1) [.int .i64 b0, .int .i64 b1, .int .i64 b2]) (fun _ i _ => len - (intOf i).toNat)
  case atStart => exact ⟨0, -1, 0, false, Nat.zero_le _, rfl, rfl, .inl ⟨rfl, rfl, rfl⟩, ((Gr.refl w).alloc _).alloc _, rfl, (Blk.new (vs := [.int .i64 a0, .int .i64 a1, .int .i64 a2]) rfl).alloc, Blk.new (vs := [.int .i64 b0, .int .i64 b1, .int .i64 b2]) (by simp)⟩
  case round =>
    obtain ⟨k, A, at', fd, hk, rfl, rfl, hst, hg, hgo, ba, bb⟩ := hrel
    by_cases hlt : k < len
    · obtain ⟨b, off, rfl, hcell⟩ := HR.out.2.2.2 (by omega)
      have hz9 : (zs.getD k []).length = 9 := by
        rw [List.getD_eq_getElem?_getD, List.getElem?_eq_getElem (by rw [HZ.out]; exact hlt)]
        exact (HR.out.2.2.1 _ (List.getElem_mem _)).1
      have hc : ∀ j, j < 9 → ∀ x : GW wr, x.val.cell? ⟨b, off + (k * 9 + j), none⟩ = some (.int .i64 ((zs.getD k []).getD j 0)) := fun j hj x => by
        have := hcell k j hlt hj
        rw [(hg.trans x.gr).cell (lt_of_cell this)]; exact this
      have hdr : (es a0 a1 a2 b0 b1 b2 zs).drop k = (he ([a0, a1, a2, b0, b1, b2] ++ zs.getD k []), hb ([a0, a1, a2, b0, b1, b2] ++ zs.getD k [])) :: (es a0 a1 a2 b0 b1 b2 zs).drop (k + 1) := by
        have hkz : k < zs.length := by rw [HZ.out]; exact hlt
        unfold es
        rw [List.drop_eq_getElem_cons (by simpa using hkz)]
        simp [List.getD, List.getElem?_eq_getElem hkz]
      rw [hdr] at hgo
      clear hdr
      generalize zs.getD k [] = z at hz9 hc hgo
      obtain ⟨t0, l1, rfl, e1⟩ := Sx.cut1 hz9
      obtain ⟨t1, l2, rfl, e2⟩ := Sx.cut1 e1
      obtain ⟨t2, l3, rfl, e3⟩ := Sx.cut1 e2
      obtain ⟨t3, l4, rfl, e4⟩ := Sx.cut1 e3
      obtain ⟨t4, l5, rfl, e5⟩ := Sx.cut1 e4
      obtain ⟨t5, l6, rfl, e6⟩ := Sx.cut1 e5
      obtain ⟨t6, l7, rfl, e7⟩ := Sx.cut1 e6
      obtain ⟨t7, l8, rfl, e8⟩ := Sx.cut1 e7
      obtain ⟨t8, l9, rfl, e9⟩ := Sx.cut1 e8
      obtain rfl := Sx.cut0 e9
      clear hz9 e1 e2 e3 e4 e5 e6 e7 e8 e9
      have c0 : ∀ x : GW wr, x.val.cell? ⟨b, off + k * 9, none⟩ = some (.int .i64 t0) := hc 0 (by decide)
      have c1 : ∀ x : GW wr, x.val.cell? ⟨b, off + k * 9 + 1, none⟩ = some (.int .i64 t1) := hc 1 (by decide)
      have c2 : ∀ x : GW wr, x.val.cell? ⟨b, off + k * 9 + 2, none⟩ = some (.int .i64 t2) := hc 2 (by decide)
      have c3 : ∀ x : GW wr, x.val.cell? ⟨b, off + k * 9 + 3, none⟩ = some (.int .i64 t3) := hc 3 (by decide)
      have c4 : ∀ x : GW wr, x.val.cell? ⟨b, off + k * 9 + 4, none⟩ = some (.int .i64 t4) := hc 4 (by decide)
      have c5 : ∀ x : GW wr, x.val.cell? ⟨b, off + k * 9 + 5, none⟩ = some (.int .i64 t5) := hc 5 (by decide)
      have c6 : ∀ x : GW wr, x.val.cell? ⟨b, off + k * 9 + 6, none⟩ = some (.int .i64 t6) := hc 6 (by decide)
      have c7 : ∀ x : GW wr, x.val.cell? ⟨b, off + k * 9 + 7, none⟩ = some (.int .i64 t7) := hc 7 (by decide)
      have c8 : ∀ x : GW wr, x.val.cell? ⟨b, off + k * 9 + 8, none⟩ = some (.int .i64 t8) := hc 8 (by decide)
      have q0 := ba.gw 0 rfl; have q1 := ba.gw 1 rfl; have q2 := ba.gw 2 rfl
      have r0 := bb.gw 0 rfl; have r1 := bb.gw 1 rfl; have r2 := bb.gw 2 rfl
      have hgo2 : go 0 0 false (es a0 a1 a2 b0 b1 b2 zs) = go k at' fd ((he [a0, a1, a2, b0, b1, b2, t0, t1, t2, t3, t4, t5, t6, t7, t8], hb [a0, a1, a2, b0, b1, b2, t0, t1, t2, t3, t4, t5, t6, t7, t8]) :: (es a0 a1 a2 b0 b1 b2 zs).drop (k + 1)) := hgo
      have HG := Lib.hid hg; have BA := Lib.hid ba; have BB := Lib.hid bb
      clear hc hcell hg hgo ba bb
      go_wp2_with fail
      refine wp_region_gr (W := wr) (by kernel_rfl) (by kernel_rfl) (Gr.refl _) ?_
      repeat (go_big_quiet_step (fail))
      go_big_quiet_want; go_big_quiet_op
      go_big_quiet_call (exact Calls.cw (rhit_any a0 a1 a2 b0 b1 b2 t0 t1 t2 t3 t4 t5 t6 t7 t8 _))
      repeat (go_big_quiet_step (fail))
      refine wpQuiet_nil ?_
      rintro _ ⟨x, rfl⟩
      have hg3 := x.gr
      generalize x.val = w2 at *
      clear x c0 c1 c2 c3 c4 c5 c6 c7 c8 q0 q1 q2 r0 r1 r2
      generalize he [a0, a1, a2, b0, b1, b2, t0, t1, t2, t3, t4, t5, t6, t7, t8] = E0 at *
      generalize hb [a0, a1, a2, b0, b1, b2, t0, t1, t2, t3, t4, t5, t6, t7, t8] = H0 at *
      have HG2 := Lib.hid hg3; clear hg3
      have HGO := Lib.hid hgo2; clear hgo2
      by_cases hE : E0 = 0
      · subst hE
        rcases hst with ⟨rfl, rfl, rfl⟩ | ⟨hA, rfl, rfl⟩
        · cases H0
          · go_wp2
            go_roundw
            case rel => exact ⟨k + 1, -1, 0, false, by omega, by go_num, rfl, .inl ⟨rfl, rfl, rfl⟩, HG.out.trans HG2.out, HGO.out, BA.out.gr HG2.out, BB.out.gr HG2.out⟩
            case measure => simp [intOf]; omega
          · go_wp2
            go_roundw
            case rel => exact ⟨k + 1, (k : Int), (k : Int), true, by omega, by go_num, rfl, .inr ⟨by omega, rfl, rfl⟩, HG.out.trans HG2.out, HGO.out, BA.out.gr HG2.out, BB.out.gr HG2.out⟩
            case measure => simp [intOf]; omega
        · have hA2 : ¬ at' < 0 := by omega
          cases H0
          · go_wp2
            go_roundw
            case rel => exact ⟨k + 1, at', at', true, by omega, by go_num, rfl, .inr ⟨hA, rfl, rfl⟩, HG.out.trans HG2.out, HGO.out, BA.out.gr HG2.out, BB.out.gr HG2.out⟩
            case measure => simp [intOf]; omega
          · go_wp2
            go_roundw
            case rel => exact ⟨k + 1, at', at', true, by omega, by go_num, rfl, .inr ⟨hA, rfl, rfl⟩, HG.out.trans HG2.out, HGO.out, BA.out.gr HG2.out, BB.out.gr HG2.out⟩
            case measure => simp [intOf]; omega
      · have hb1 : (E0 != 0) = true := by simpa using hE
        have hgo3 : go 0 0 false (es a0 a1 a2 b0 b1 b2 zs) = (0, false, E0) := by rw [HGO.out]; unfold go; rw [if_neg hE]
        have HGO3 := Lib.hid hgo3; clear hgo3 HGO hst
        go_wp2
        go_ret3
        exact ⟨show Ending.returned (.tuple #[.int .i64 0, .bool false, .int .i64 E0]) = _ by rw [HGO3.out], HG.out.trans HG2.out⟩
    · have hkl : k = len := by omega
      have hgo2 : go 0 0 false (es a0 a1 a2 b0 b1 b2 zs) = (at', fd, 0) := by
        rw [hgo, List.drop_eq_nil_of_le (by unfold es; rw [List.length_map, HZ.out]; omega)]; rfl
      have HGO := Lib.hid hgo2; have HG := Lib.hid hg
      clear hgo hgo2 hg ba bb
      subst hkl
      rcases hst with ⟨rfl, rfl, rfl⟩ | ⟨hA, rfl, rfl⟩
      · go_wp2
        go_ret3
        exact ⟨show Ending.returned (.tuple #[.int .i64 0, .bool false, .int .i64 0]) = _ by rw [HGO.out], HG.out⟩
      · go_wp2
        all_goals
          go_ret3
          exact ⟨show Ending.returned (.tuple #[.int .i64 at', .bool true, .int .i64 0]) = _ by rw [HGO.out], HG.out⟩
end Hf
end Go.Proofs.Ytfpnkcmplmkghaa
