/- Chapter 23: the reference's Same; the example of chapter 23 holds. -/
import Derived.Test.YtndnjjeildnhdaaDu
set_option linter.unusedVariables false
set_option linter.unusedSimpArgs false
namespace Go.Proofs.Ytndnjjeildnhdaa
open Go.RowKit
namespace Mt
open Ro
set_option maxHeartbeats 4000000 in
set_option maxRecDepth 100000 in
theorem same_any (a a2 : Option Addr) (len cap cap2 : Nat) (zs : List (List Int)) (w : World) (hr : Oi.IsRows 2 w a len zs) (hr2 : Oi.IsRows 2 w a2 len zs) :
    Calls Try.prog 15 #[.slice a len cap, .slice a2 len cap2] w fun e w' => e = .returned (.bool true) ∧ Gr w w' := by
  have hm := hr.2.1
  have HR := Lib.hid hr; have HR2 := Lib.hid hr2
  clear hr hr2
  go_enter Try.func15, Try.ntmps15
  go_wp2
  go_loopw [5] (fun i wr => ∃ k : Nat, k ≤ len ∧ i = .int .i64 k ∧ Gr w wr) (fun i _ => len - (intOf i).toNat)
  case atStart => exact ⟨0, Nat.zero_le _, rfl, Gr.refl _⟩
  case round =>
    obtain ⟨k, hk, rfl, hg⟩ := hrel
    by_cases hlt : k < len
    · obtain ⟨b, off, x, y, rfl, hbl, ez, cx, cy, hx, hy⟩ := Ro.rows2_at (HR.out.later hg) hlt
      obtain ⟨b2, off2, x2, y2, rfl, hbl2, ez2, cx2, cy2, hx2, hy2⟩ := Ro.rows2_at (HR2.out.later hg) hlt
      rw [ez] at ez2
      obtain ⟨rfl, rfl⟩ : x = x2 ∧ y = y2 := by simpa using ez2
      have HG := Lib.hid hg
      clear ez ez2 hx hy hx2 hy2 hg
      go_wp2_with fail
      refine wp_region_quiet_lit (by kernel_rfl) (by kernel_rfl) ?_
      repeat (go_big_quiet_step (fail))
      refine wpQuiet_nil ?_
      rintro _ ⟨n', rfl⟩
      go_wp2
      go_roundw
      case rel => exact ⟨k + 1, by omega, by go_num, HG.out.dn _⟩
      case measure => simp [intOf]; omega
    · have HG := Lib.hid hg
      clear hg
      go_wp2
      go_ret
      exact ⟨rfl, HG.out⟩
theorem rows_blk {m : Nat} {w : World} {b : Nat} {zs : List (List Int)} (hb : Blk w b (fl zs)) (hz : ∀ z ∈ zs, z.length = m ∧ ∀ x ∈ z, I x) (hl : zs.length ≤ 9223372036854775807) : Oi.IsRows m w (some ⟨b, 0, none⟩) zs.length zs :=
  ⟨rfl, hl, hz, fun _ => ⟨b, 0, rfl, fun i j hi hj => by
    rw [Nat.zero_add]
    exact hb.cell _ (fl_get zs (fun z h => (hz z h).1) i j hi hj)⟩⟩
theorem inverse_raw (b i : Int) (w : World) (n d e0 : Int) (h0 : Sx.fi 72 0 [b, i] = n) (h1 : Sx.fi 72 1 [b, i] = d) (h2 : Sx.fi 72 2 [b, i] = e0) :
    Calls Try.prog 8 #[.int .i64 b, .int .i64 i] w fun e w' => e = .returned (.tuple #[.agg #[.int .i64 n, .int .i64 d], .int .i64 e0]) ∧ Gr w w' := by
  have := inverse_any b i w
  rw [h0, h1, h2] at this
  exact this
theorem inside_raw (x y : Int) (w : World) (v : Bool) (h : Sx.hins x y = v) : Calls Try.prog 16 #[.agg #[.int .i64 x, .int .i64 y]] w fun e w' => e = .returned (.bool v) ∧ Gr w w' := by
  have := hinside_any x y w
  rw [h] at this
  exact this
theorem point_raw (x : Int) (w : World) (u v e0 : Int) (h0 : Sx.fi 73 0 [x] = u) (h1 : Sx.fi 73 1 [x] = v) (h2 : Sx.fi 73 2 [x] = e0) : Calls Try.prog 10 #[.int .i64 x] w fun e w' => e = .returned (.tuple #[.agg #[.int .i64 u, .int .i64 v], .int .i64 e0]) ∧ Gr w w' := by
  have := hpoint_raw x w
  rw [h0, h1, h2] at this
  exact this
theorem pts2 : pts 2 = [[0, -342], [-512, 341]] := by
  have h : ∃ r, dl 65535 = dl 100 ++ r := dl_pre 100 65535 (by omega)
  obtain ⟨r, h⟩ := h
  unfold pts
  rw [h, List.take_append_of_le_length (by have := of_decide_eq_true dl_100; omega)]
  have : decide ((dl 100).take 2 = [[0, -342], [-512, 341]]) = true := by decide +kernel
  exact of_decide_eq_true this
set_option maxHeartbeats 8000000 in
set_option maxRecDepth 100000 in
theorem strewn_any (w : World) : Calls Try.prog 14 #[] w fun e w' => e = .returned (.bool true) ∧ Gr w w' := by
  go_enter Try.func14, Try.ntmps14
  go_wp2_with fail
  refine (inverse_raw 2 6 _ 3 8 0 (by decide +kernel) (by decide +kernel) (by decide +kernel)).mono ?_
  rintro e w1 ⟨rfl, g1⟩
  have G1 := Lib.hid g1; clear g1
  go_wp2_with fail
  refine (inverse_raw 3 5 _ 7 9 0 (by decide +kernel) (by decide +kernel) (by decide +kernel)).mono ?_
  rintro e w2 ⟨rfl, g2⟩
  have B1 := Lib.hid ((Bx.new (w := w1) (T := 25) (vs := [.int .i64 3, .int .i64 8]) rfl).gr g2)
  have G2 := Lib.hid ((G1.out.alloc (.cells #[.int .i64 3, .int .i64 8] 25)).trans g2); clear g2
  go_wp2_with fail
  refine (point_raw 1 _ 32768 21845 0 (by decide +kernel) (by decide +kernel) (by decide +kernel)).mono ?_
  rintro e w3 ⟨rfl, g3⟩
  have B2 := Lib.hid ((Bx.new (w := w2) (T := 25) (vs := [.int .i64 7, .int .i64 9]) rfl).gr g3)
  have B1 := Lib.hid ((B1.out.alloc (.cells #[.int .i64 7, .int .i64 9] 25)).gr g3)
  have G3 := Lib.hid ((G2.out.alloc (.cells #[.int .i64 7, .int .i64 9] 25)).trans g3); clear g3
  go_wp2_with fail
  refine (disc_any 2 (by omega) _).mono ?_
  rintro e w4 ⟨a, cap, rfl, hr, g4⟩
  have R4 := Lib.hid hr
  have B3 := Lib.hid ((Bx.new (w := w3) (T := 23) (vs := [.int .i64 32768, .int .i64 21845]) rfl).gr g4)
  have B2 := Lib.hid ((B2.out.alloc (.cells #[.int .i64 32768, .int .i64 21845] 23)).gr g4)
  have B1 := Lib.hid ((B1.out.alloc (.cells #[.int .i64 32768, .int .i64 21845] 23)).gr g4)
  have G4 := Lib.hid ((G3.out.alloc (.cells #[.int .i64 32768, .int .i64 21845] 23)).trans g4); clear g4 hr
  go_wp2_with fail
  refine (inverse_raw 17 1 _ 0 0 1 (by decide +kernel) (by decide +kernel) (by decide +kernel)).mono ?_
  rintro e w5 ⟨rfl, g5⟩
  have R5 := Lib.hid (R4.out.later g5)
  have B3 := Lib.hid (B3.out.gr g5)
  have B2 := Lib.hid (B2.out.gr g5)
  have B1 := Lib.hid (B1.out.gr g5)
  have G5 := Lib.hid (G4.out.trans g5); clear g5
  have x1 := B1.out.lt; have x2 := B2.out.lt; have x3 := B3.out.lt
  have p0 := B1.out.blk.cell 0 rfl; have p1 := B1.out.blk.cell 1 rfl
  have q0 := B2.out.blk.cell 0 rfl; have q1 := B2.out.blk.cell 1 rfl
  have r0 := B3.out.blk.cell 0 rfl; have r1 := B3.out.blk.cell 1 rfl
  go_wp2_with fail
  have hb := Blk.new (w := w5.alloc (.cells #[.int .i64 0, .int .i64 0] 25)) (T := 23) (b := w5.heap.size + 1) (vs := fl [[0, -342], [-512, 341]]) (by simp)
  have hrow := rows_blk hb (by intro z hz; simp at hz; rcases hz with rfl | rfl <;> exact ⟨rfl, by intro x hx; simp at hx; rcases hx with rfl | rfl <;> exact ⟨by omega, by omega⟩⟩) (by simp)
  have hg6 : Gr w5 ((w5.alloc (.cells #[.int .i64 0, .int .i64 0] 25)).alloc (.cells (fl [[0, -342], [-512, 341]]).toArray 23)) := ((Gr.refl _).alloc _).alloc _
  have R6 := (R5.out.later hg6).1
  rw [pts2] at R6
  refine (same_any a _ 2 cap 2 _ _ R6 hrow).mono ?_
  rintro e w6 ⟨rfl, g6⟩
  have G6 := hg6.trans g6
  have B3 := Lib.hid (B3.out.gr G6)
  have G6 := Lib.hid (G5.out.trans G6)
  clear hb hrow hg6 R6 g6 x1 x2 x3 p0 p1 q0 q1 r0 r1
  have r0 := B3.out.blk.cell 0 rfl; have r1 := B3.out.blk.cell 1 rfl
  go_wp2_with fail
  refine (inside_raw 32768 21845 _ true (by decide +kernel)).mono ?_
  rintro e w7 ⟨rfl, g7⟩
  have G7 := Lib.hid (G6.out.trans g7); clear g7
  go_wp2_with fail
  refine (inside_raw 0 0 _ false (by decide +kernel)).mono ?_
  rintro e w8 ⟨rfl, g8⟩
  have G8 := Lib.hid (G7.out.trans g8); clear g8
  go_wp2_with fail
  go_ret
  exact ⟨rfl, G8.out⟩
end Mt
end Go.Proofs.Ytndnjjeildnhdaa
