/- The contract of hit.First (under way). -/
import Derived.Test.YtfpnkcmplmkghaaOr
import Derived.Test.YtfpnkcmplmkghaaS1
import Derived.WalkKit
import Derived.WalkSpells
import Derived.Deep.QuietTactic
import Derived.BigQuiet
import Derived.Lib.Hide
set_option linter.unusedVariables false
namespace Go.Proofs.Ytfpnkcmplmkghaa
open Go.RowKit
namespace Hf
/-- What First does with what Hit says of each: an error, or whether it is hit. -/
def go : Nat → Int → Bool → List (Int × Bool) → Int × Bool × Int
  | _, at', fd, [] => (at', fd, 0)
  | i, at', fd, (e, h) :: l => if e = 0 then (if h = true ∧ fd = false then go (i + 1) i true l else go (i + 1) at' fd l) else (0, false, e)
def he (l : List Int) : Int := if l.all Sx.ss then 0 else 5
def hb (l : List Int) : Bool := l.all Sx.ss && Sx.hitB (Sx.vA l) (Sx.vB l) (Sx.r0 l) (Sx.r1 l) (Sx.r2 l)
theorem hit_any (a0 a1 a2 b0 b1 b2 t0 t1 t2 t3 t4 t5 t6 t7 t8 : Int) (w : World) :
    Calls Try.prog 18 #[.agg #[.int .i64 a0, .int .i64 a1, .int .i64 a2], .agg #[.int .i64 b0, .int .i64 b1, .int .i64 b2], .agg #[.int .i64 t0, .int .i64 t1, .int .i64 t2, .int .i64 t3, .int .i64 t4, .int .i64 t5, .int .i64 t6, .int .i64 t7, .int .i64 t8]] w
      fun e w' => e = .returned (.tuple #[.bool (hb [a0, a1, a2, b0, b1, b2, t0, t1, t2, t3, t4, t5, t6, t7, t8]), .int .i64 (he [a0, a1, a2, b0, b1, b2, t0, t1, t2, t3, t4, t5, t6, t7, t8])]) ∧ Gr w w' :=
  Sx.flat_run (Sx.c_hit w) rfl [a0, a1, a2, b0, b1, b2, t0, t1, t2, t3, t4, t5, t6, t7, t8] rfl trivial
def es (a0 a1 a2 b0 b1 b2 : Int) (zs : List (List Int)) : List (Int × Bool) := zs.map fun z => (he ([a0, a1, a2, b0, b1, b2] ++ z), hb ([a0, a1, a2, b0, b1, b2] ++ z))

theorem first_any (a0 a1 a2 b0 b1 b2 : Int) (p : Option Addr) (len cap : Nat) (zs : List (List Int)) (w : World) (hr : Oi.IsRows 9 w p len zs) :
    Calls Try.prog 22 #[.agg #[.int .i64 a0, .int .i64 a1, .int .i64 a2], .agg #[.int .i64 b0, .int .i64 b1, .int .i64 b2], .slice p len cap] w
      fun e w' => e = .returned (.tuple #[.int .i64 (go 0 0 false (es a0 a1 a2 b0 b1 b2 zs)).1, .bool (go 0 0 false (es a0 a1 a2 b0 b1 b2 zs)).2.1, .int .i64 (go 0 0 false (es a0 a1 a2 b0 b1 b2 zs)).2.2]) ∧ Gr w w' := by
  have hm := hr.2.1
  have hz := hr.1
  have HR := Lib.hid hr
  have HZ := Lib.hid hz; clear hr hz
  go_enter Try.func22, Try.ntmps22
  go_wp2_with fail
  go_loopw [9, 10, 17] (fun v9 v10 v17 wr => ∃ (k : Nat) (at' : Int) (fd : Bool), k ≤ len ∧ v17 = .int .i64 k ∧ v9 = .int .i64 at' ∧ v10 = .bool fd ∧ Gr w wr ∧ go 0 0 false (es a0 a1 a2 b0 b1 b2 zs) = go k at' fd ((es a0 a1 a2 b0 b1 b2 zs).drop k)
      ∧ Blk wr w.heap.size [.int .i64 a0, .int .i64 a1, .int .i64 a2] ∧ Blk wr (w.heap.size + 1) [.int .i64 b0, .int .i64 b1, .int .i64 b2]) (fun _ _ i _ => len - (intOf i).toNat)
  case atStart => exact ⟨0, 0, false, Nat.zero_le _, rfl, rfl, rfl, ((Gr.refl w).alloc _).alloc _, rfl, (Blk.new (vs := [.int .i64 a0, .int .i64 a1, .int .i64 a2]) rfl).alloc, Blk.new (vs := [.int .i64 b0, .int .i64 b1, .int .i64 b2]) (by simp)⟩
  case round =>
    obtain ⟨k, at', fd, hk, rfl, rfl, rfl, hg, hgo, ba, bb⟩ := hrel
    by_cases hlt : k < len
    · obtain ⟨b, off, rfl, hcell⟩ := HR.out.2.2.2 (by omega)
      have hz9 : (zs.getD k []).length = 9 := by
        rw [List.getD_eq_getElem?_getD, List.getElem?_eq_getElem (by rw [HZ.out]; exact hlt)]
        exact (HR.out.2.2.1 _ (List.getElem_mem _)).1
      have hc : ∀ j, j < 9 → wr.cell? ⟨b, off + (k * 9 + j), none⟩ = some (.int .i64 ((zs.getD k []).getD j 0)) := fun j hj => by
        have := hcell k j hlt hj
        rw [hg.cell (lt_of_cell this)]; exact this
      have hdr : (es a0 a1 a2 b0 b1 b2 zs).drop k = (he ([a0, a1, a2, b0, b1, b2] ++ zs.getD k []), hb ([a0, a1, a2, b0, b1, b2] ++ zs.getD k [])) :: (es a0 a1 a2 b0 b1 b2 zs).drop (k + 1) := by
        have hkz : k < zs.length := by rw [HZ.out]; exact hlt
        unfold es
        rw [List.drop_eq_getElem_cons (by simpa using hkz)]
        simp [List.getD, List.getElem?_eq_getElem hkz]
      rw [hdr] at hgo
      clear hdr
      generalize zs.getD k [] = z at hz9 hc hgo
      obtain ⟨t0, l1, rfl, e1⟩ := Sx.cut1 hz9
      obtain ⟨t1, l2, rfl, e2⟩ := Sx.cut1 e1
      obtain ⟨t2, l3, rfl, e3⟩ := Sx.cut1 e2
      obtain ⟨t3, l4, rfl, e4⟩ := Sx.cut1 e3
      obtain ⟨t4, l5, rfl, e5⟩ := Sx.cut1 e4
      obtain ⟨t5, l6, rfl, e6⟩ := Sx.cut1 e5
      obtain ⟨t6, l7, rfl, e7⟩ := Sx.cut1 e6
      obtain ⟨t7, l8, rfl, e8⟩ := Sx.cut1 e7
      obtain ⟨t8, l9, rfl, e9⟩ := Sx.cut1 e8
      obtain rfl := Sx.cut0 e9
      clear hz9 e1 e2 e3 e4 e5 e6 e7 e8 e9
      have c0 : wr.cell? ⟨b, off + k * 9, none⟩ = some (.int .i64 t0) := hc 0 (by decide)
      have c1 : wr.cell? ⟨b, off + k * 9 + 1, none⟩ = some (.int .i64 t1) := hc 1 (by decide)
      have c2 : wr.cell? ⟨b, off + k * 9 + 2, none⟩ = some (.int .i64 t2) := hc 2 (by decide)
      have c3 : wr.cell? ⟨b, off + k * 9 + 3, none⟩ = some (.int .i64 t3) := hc 3 (by decide)
      have c4 : wr.cell? ⟨b, off + k * 9 + 4, none⟩ = some (.int .i64 t4) := hc 4 (by decide)
      have c5 : wr.cell? ⟨b, off + k * 9 + 5, none⟩ = some (.int .i64 t5) := hc 5 (by decide)
      have c6 : wr.cell? ⟨b, off + k * 9 + 6, none⟩ = some (.int .i64 t6) := hc 6 (by decide)
      have c7 : wr.cell? ⟨b, off + k * 9 + 7, none⟩ = some (.int .i64 t7) := hc 7 (by decide)
      have c8 : wr.cell? ⟨b, off + k * 9 + 8, none⟩ = some (.int .i64 t8) := hc 8 (by decide)
      have q0 := ba.cell 0 rfl; have q1 := ba.cell 1 rfl; have q2 := ba.cell 2 rfl
      have r0 := bb.cell 0 rfl; have r1 := bb.cell 1 rfl; have r2 := bb.cell 2 rfl
      have lt0 := ba.1; have lt1 := bb.1
      have ne0 : ¬ w.heap.size = wr.heap.size := by omega
      have ne1 : ¬ w.heap.size + 1 = wr.heap.size := by omega
      have HG := Lib.hid hg; have HGO := Lib.hid hgo; have BA := Lib.hid ba; have BB := Lib.hid bb
      clear hc hcell hg hgo ba bb
      go_wp2_with fail
      refine (hit_any a0 a1 a2 b0 b1 b2 t0 t1 t2 t3 t4 t5 t6 t7 t8 _).mono ?_; rintro e w2 ⟨rfl, hg2⟩
      have hgw : Gr wr w2 := ((Gr.refl wr).alloc _).trans hg2
      have HG2 := Lib.hid hgw; clear hg2 hgw
      have hgo2 : go 0 0 false (es a0 a1 a2 b0 b1 b2 zs) = go k at' fd ((he [a0, a1, a2, b0, b1, b2, t0, t1, t2, t3, t4, t5, t6, t7, t8], hb [a0, a1, a2, b0, b1, b2, t0, t1, t2, t3, t4, t5, t6, t7, t8]) :: (es a0 a1 a2 b0 b1 b2 zs).drop (k + 1)) := HGO.out
      clear HGO
      generalize he [a0, a1, a2, b0, b1, b2, t0, t1, t2, t3, t4, t5, t6, t7, t8] = E0 at *
      generalize hb [a0, a1, a2, b0, b1, b2, t0, t1, t2, t3, t4, t5, t6, t7, t8] = H0 at *
      have HGO := Lib.hid hgo2; clear hgo2
      clear c0 c1 c2 c3 c4 c5 c6 c7 c8 q0 q1 q2 r0 r1 r2
      by_cases hE : E0 = 0
      · subst hE
        cases H0 <;> cases fd
        · go_wp2
          go_roundw
          case rel => exact ⟨k + 1, at', false, by omega, by go_num, rfl, rfl, HG.out.trans HG2.out, HGO.out, BA.out.gr HG2.out, BB.out.gr HG2.out⟩
          case measure => simp [intOf]; omega
        · go_wp2
          go_roundw
          case rel => exact ⟨k + 1, at', true, by omega, by go_num, rfl, rfl, HG.out.trans HG2.out, HGO.out, BA.out.gr HG2.out, BB.out.gr HG2.out⟩
          case measure => simp [intOf]; omega
        · go_wp2
          go_roundw
          case rel => exact ⟨k + 1, (k : Int), true, by omega, by go_num, rfl, rfl, HG.out.trans HG2.out, HGO.out, BA.out.gr HG2.out, BB.out.gr HG2.out⟩
          case measure => simp [intOf]; omega
        · go_wp2
          go_roundw
          case rel => exact ⟨k + 1, at', true, by omega, by go_num, rfl, rfl, HG.out.trans HG2.out, HGO.out, BA.out.gr HG2.out, BB.out.gr HG2.out⟩
          case measure => simp [intOf]; omega
      · have hb1 : (E0 != 0) = true := by simpa using hE
        have hgo3 : go 0 0 false (es a0 a1 a2 b0 b1 b2 zs) = (0, false, E0) := by rw [HGO.out]; unfold go; rw [if_neg hE]
        have HGO3 := Lib.hid hgo3; clear hgo3 HGO
        go_wp2
        go_ret3
        exact ⟨show Ending.returned (.tuple #[.int .i64 0, .bool false, .int .i64 E0]) = _ by rw [HGO3.out], HG.out.trans HG2.out⟩
    · have hkl : k = len := by omega
      have hgo2 : go 0 0 false (es a0 a1 a2 b0 b1 b2 zs) = (at', fd, 0) := by
        rw [hgo, List.drop_eq_nil_of_le (by unfold es; rw [List.length_map, HZ.out]; omega)]; rfl
      have HGO := Lib.hid hgo2; have HG := Lib.hid hg
      clear hgo hgo2 hg ba bb
      subst hkl
      go_wp2
      go_ret3
      exact ⟨show Ending.returned (.tuple #[.int .i64 at', .bool fd, .int .i64 0]) = _ by rw [HGO.out], HG.out⟩
end Hf
end Go.Proofs.Ytfpnkcmplmkghaa
