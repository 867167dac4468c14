/- Chapter 23: halton.Disc, walked. -/
import Derived.Test.YtndnjjeildnhdaaDt
set_option linter.unusedVariables false
set_option linter.unusedSimpArgs false
namespace Go.Proofs.Ytndnjjeildnhdaa
open Go.RowKit
namespace Mt
open Ro
/-- A row of points with its room. -/
def Row2 (w : World) (p : Option Addr) (len cap : Nat) (zs : List (List Int)) : Prop := Oi.IsRows 2 w p len zs ∧ len ≤ cap ∧ (p = none → cap = 0)
theorem Row2.later {w w' : World} {p : Option Addr} {len cap : Nat} {zs : List (List Int)} (h : Row2 w p len cap zs) (g : Gr w w') : Row2 w' p len cap zs := ⟨h.1.later g, h.2⟩
theorem row2_own {w : World} {base : Nat} {e : TypeId} {v : Value} {n : Nat} {zs : List (List Int)} (h : w.ownsRow base e 2 v n (fl zs)) (hl : zs.length = n) (hn : n ≤ 9223372036854775807) (hz : ∀ z ∈ zs, z.length = 2 ∧ ∀ x ∈ z, I x) :
    ∃ a cap, v = .slice a n cap ∧ Row2 w a n cap zs := by
  subst hl
  obtain ⟨a, cap, hv, hr, hc, hnn⟩ := rows_owned h hn hz
  exact ⟨a, cap, hv, hr, hc, hnn⟩
set_option maxRecDepth 100000 in
set_option maxHeartbeats 1600000 in
theorem take_any (n : Nat) (hn : n ≤ 64) (bd : Nat) (w : World) (hB : Bx w bd 59 [.int .u32 0, .int .i32 0, .int .u32 0, .slice none 0 0]) :
    Calls Try.prog 21 #[.pointer (some ⟨bd, 0, none⟩), .int .i64 n] w fun e w' => ∃ a cap, e = .returned (.slice a n cap) ∧ Row2 w' a n cap (pts n) ∧ Ks (fun k => k = bd) w w' := by
  have hlt := hB.lt
  have hmf : ∀ (fn : Fn) (first cap : Array Value) (w : World), (Instr.makeFunc fn first cap).run Try.prog w = .ok (.func fn first cap) w := fun _ _ _ _ => rfl
  have hB2 : Bx ((w.alloc (.cells #[.pointer (some ⟨bd, 0, none⟩)] 66)).alloc (.cells #[.int .i64 n] 3)) bd 59 [.int .u32 0, .int .i32 0, .int .u32 0, .slice none 0 0] := (hB.alloc _).alloc _
  have hV2 : Bx ((w.alloc (.cells #[.pointer (some ⟨bd, 0, none⟩)] 66)).alloc (.cells #[.int .i64 n] 3)) w.heap.size 66 [.pointer (some ⟨bd, 0, none⟩)] := (Bx.new (vs := [.pointer (some ⟨bd, 0, none⟩)]) rfl).alloc _
  have hN2 : Bx ((w.alloc (.cells #[.pointer (some ⟨bd, 0, none⟩)] 66)).alloc (.cells #[.int .i64 n] 3)) (w.heap.size + 1) 3 [.int .i64 n] := Bx.new (vs := [.int .i64 n]) (by simp)
  have HB2 := Lib.hid hB2; have HV2 := Lib.hid hV2; have HN2 := Lib.hid hN2
  clear hB hB2 hV2 hN2
  go_enter Try.func21, Try.ntmps21
  go_wp2_with fail
  obtain ⟨W, hW⟩ : ∃ W, (w.alloc (.cells #[.pointer (some ⟨bd, 0, none⟩)] 66)).alloc (.cells #[.int .i64 n] 3) = W := ⟨_, rfl⟩
  have gW : Gr w W := by rw [← hW]; exact ((Gr.refl w).alloc _).alloc _
  have sW : W.heap.size = w.heap.size + 2 := by rw [← hW]; simp
  rw [hW] at HB2 HV2 HN2 ⊢
  refine (On.do_any bd _ (.slice none 0 0) _ (fun v w2 => ∃ base, W.heap.size ≤ base ∧ w2.ownsRow base 23 2 v n (fl (pts n)) ∧ Ks (fun k => k = bd) W w2) HB2.out ?hc).mono ?_
  case hc =>
    intro w1 hb1 hk1
    refine (take1_any n hn bd (w.heap.size + 1) w.heap.size w1 hb1 (HV2.out.ks hk1 (by omega)) (HN2.out.ks hk1 (by omega)) (by omega) (by omega)).mono ?_
    rintro e w' ⟨rfl, v, hb, ho, hk⟩
    exact ⟨rfl, v, hb, _, hk1.size, ho, hk1.trans hk⟩
  rintro e w3 ⟨rfl, v, w2, ⟨base, hbs, ho, hk⟩, hb2, rfl⟩
  obtain ⟨W3, hW3⟩ : ∃ W3, (w2.drew.setCell ⟨bd, 0, none⟩ (.int .u32 1)).setCell ⟨bd, 1, none⟩ (.int .i32 0) = W3 := ⟨_, rfl⟩
  have hb3 : Bx W3 bd 59 [.int .u32 1, .int .i32 0, .int .u32 0, v] := by rw [← hW3]; exact bx_seti (bx_seti (bx_drew hb2) 0 (.int .u32 1)) 1 (.int .i32 0)
  have hk3 : Ks (fun k => k = bd) w2 W3 := by rw [← hW3]; exact ((ks_drew (S := fun k => k = bd)).trans (ks_at (S := fun k => k = bd) (p := ⟨bd, 0, none⟩) _ rfl)).trans (ks_at (S := fun k => k = bd) (p := ⟨bd, 1, none⟩) _ rfl)
  have ho3 := own_ks ho hk3 (by intro k h; omega)
  have hv3 := (HV2.out.ks (hk.trans hk3) (by omega)).blk.cell 0 rfl
  obtain ⟨a, cap, rfl, hrow⟩ := row2_own ho3 (pts_len hn) (by omega) (fun z hz => dl_rows z (pts_mem hz))
  have hc3 := hb3.blk.cell 3 rfl
  have HR := Lib.hid hrow; have HK := Lib.hid (((Ks.of_gr gW).trans hk).trans hk3)
  rw [hW3]
  clear ho ho3 hb3 hk3 hk hb2 hrow hW3 hW gW HB2 HV2 HN2
  go_wp2_with fail
  go_ret
  exact ⟨a, cap, rfl, HR.out, HK.out⟩
theorem zeroD : (Try.prog.info? 59).map (fun i => (i.zero, i.size)) = some (some (.agg #[.int .u32 0, .int .i32 0, .int .u32 0, .slice none 0 0]), 4) := by kernel_rfl
set_option maxRecDepth 100000 in
set_option maxHeartbeats 1600000 in
theorem disc_any (n : Nat) (hn : n ≤ 64) (w : World) :
    Calls Try.prog 12 #[.int .i64 n] w fun e w' => ∃ a cap, e = .returned (.tuple #[.slice a n cap, .int .i64 0]) ∧ Row2 w' a n cap (pts n) ∧ Gr w w' := by
  have d1 : decide ((n : Int) < 0) = false := by simp
  have d2 : decide (256 < (n : Int)) = false := by simp; omega
  go_enter Try.func12, Try.ntmps12
  go_wp2_with fail
  refine (take_any n hn w.heap.size _ (Bx.new (vs := [.int .u32 0, .int .i32 0, .int .u32 0, .slice none 0 0]) rfl)).mono ?_
  rintro e w2 ⟨a, cap, rfl, hr, hk⟩
  have HR := Lib.hid hr; have HG := Lib.hid (hk.gr ((Gr.refl w).alloc _) (fun k h e => by omega))
  clear hr hk
  go_wp2_with fail
  go_ret2
  exact ⟨a, cap, rfl, HR.out, HG.out⟩
theorem disc_bad (n : Int) (hn : n < 0 ∨ 256 < n) (w : World) :
    Calls Try.prog 12 #[.int .i64 n] w fun e w' => e = .returned (.tuple #[.slice none 0 0, .int .i64 1]) ∧ w = w' := by
  by_cases h : n < 0
  · have d1 : decide (n < 0) = true := by simp; omega
    go_enter Try.func12, Try.ntmps12
    go_wp2
    go_ret2
    exact ⟨rfl, rfl⟩
  · have d1 : decide (n < 0) = false := by simp; omega
    have d2 : decide (256 < n) = true := by simp; omega
    go_enter Try.func12, Try.ntmps12
    go_wp2
    go_ret2
    exact ⟨rfl, rfl⟩
end Mt
end Go.Proofs.Ytndnjjeildnhdaa
