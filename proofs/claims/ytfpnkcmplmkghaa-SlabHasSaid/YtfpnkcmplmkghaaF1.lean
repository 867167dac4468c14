/- Texts that stood alone before, in one. -/
import Derived.Test.YtfpnkcmplmkghaaB0
import Derived.Test.YtfpnkcmplmkghaaQ9
import Derived.Deep.Cut
import Derived.Deep.RegionHeld3
import Derived.Deep.DeepCutAuto
import Derived.Test.YtfpnkcmplmkghaaF0
import Derived.Deep.CutBlock
/- The reference's Cmp of chapter 3, walked: by numbers in digits. -/
set_option linter.unusedVariables false
set_option linter.unusedSimpArgs false
namespace Go.Proofs.Ytfpnkcmplmkghaa
open Go.RowKit
namespace Fc
open Bg
theorem ris_any (a b : Int) (w : World) : Calls Try.prog 49 #[.agg #[.int .i64 a, .int .i64 b]] w
      fun e w' => e = .returned (.bool (Sx.fr1 a b)) ∧ Gr w w' := Sx.flat_run (Sx.c_ris3 w) rfl [a, b] rfl trivial
theorem fr1_bd {a b : Int} (h : Sx.fr1 a b = true) : (1 ≤ b ∧ b ≤ 1000000000000000000) ∧ -1000000000000000000 ≤ a ∧ a ≤ 1000000000000000000 := by
  unfold Sx.fr1 at h; simp only [Bool.and_eq_true, decide_eq_true_eq] at h; omega
theorem order_any (a b : Int) (w : World) : Calls Try.prog 98 #[.int .i64 a, .int .i64 b] w
      fun e w' => e = .returned (.int .i64 (Sx.sgc a b)) ∧ Gr w w' := by
  unfold Sx.sgc
  by_cases h : a < b
  · rw [if_pos h]
    go_enter Try.func98, Try.ntmps98
    go_wp2
    go_ret
    exact ⟨rfl, Gr.refl _⟩
  · rw [if_neg h]
    by_cases k : b < a
    · rw [if_pos k]
      go_enter Try.func98, Try.ntmps98
      go_wp2
      go_ret
      exact ⟨rfl, Gr.refl _⟩
    · rw [if_neg k]
      go_enter Try.func98, Try.ntmps98
      go_wp2
      go_ret
      exact ⟨rfl, Gr.refl _⟩
theorem sg1 {x y : Int} (h : x < y) : Sx.sgc x y = -1 := by unfold Sx.sgc; rw [if_pos h]
theorem sg2 {x y : Int} (h : y < x) : Sx.sgc x y = 1 := by unfold Sx.sgc; rw [if_neg (by omega), if_pos h]
theorem sg3 {x y : Int} (h : ¬ x < y) (k : ¬ y < x) : Sx.sgc x y = 0 := by unfold Sx.sgc; rw [if_neg h, if_neg k]
/-- The four numbers lie in two boxes. -/
def Four (k : Nat) (a b c d : Int) (x : World) : Prop := Blk x k [.int .i64 a, .int .i64 b] ∧ Blk x (k + 1) [.int .i64 c, .int .i64 d]
theorem Four.gr {k : Nat} {a b c d : Int} {x y : World} (h : Four k a b c d x) (g : Gr x y) : Four k a b c d y := ⟨h.1.gr g, h.2.gr g⟩
theorem Four.cells {k : Nat} {a b c d : Int} {x : World} (h : Four k a b c d x) : x.cell? ⟨k, 0, none⟩ = some (.int .i64 a) ∧ x.cell? ⟨k, 1, none⟩ = some (.int .i64 b) ∧ x.cell? ⟨k + 1, 0, none⟩ = some (.int .i64 c) ∧ x.cell? ⟨k + 1, 1, none⟩ = some (.int .i64 d) :=
  ⟨h.1.cell 0 rfl, h.1.cell 1 rfl, h.2.cell 0 rfl, h.2.cell 1 rfl⟩
theorem four_new (w : World) (a b c d : Int) (T : TypeId) : Four w.heap.size a b c d ((w.alloc (.cells #[.int .i64 a, .int .i64 b] T)).alloc (.cells #[.int .i64 c, .int .i64 d] T)) :=
  ⟨(Blk.new (vs := [.int .i64 a, .int .i64 b]) rfl).alloc, Blk.new (vs := [.int .i64 c, .int .i64 d]) (by simp)⟩
set_option maxHeartbeats 8000000 in
set_option maxRecDepth 100000 in
theorem rcmp_tf (a b c d : Int) (h : Sx.fr1 a b = true) (k : Sx.fr1 c d = false) (w : World) : Calls Try.prog 51 #[.agg #[.int .i64 a, .int .i64 b], .agg #[.int .i64 c, .int .i64 d]] w
      fun e w' => e = .returned (.int .i64 (1)) ∧ Gr w w' := by
  have hF := four_new w a b c d 54
  have hG : Gr w ((w.alloc (.cells #[.int .i64 a, .int .i64 b] 54)).alloc (.cells #[.int .i64 c, .int .i64 d] 54)) := ((Gr.refl w).alloc _).alloc _
  have HF := Lib.hid hF; have HG := Lib.hid hG
  clear hF hG
  go_enter Try.func51, Try.ntmps51
  go_wp2_with fail
  refine (ris_any a b _).mono ?_; rintro e w1 ⟨rfl, g1⟩
  have hF := HF.out.gr g1; have hG := HG.out.trans g1
  clear g1
  obtain ⟨c0, c1, c2, c3⟩ := hF.cells
  have HF := Lib.hid hF; have HG := Lib.hid hG
  clear hF hG
  rw [h]
  go_wp2_with fail
  refine (ris_any c d _).mono ?_; rintro e w2 ⟨rfl, g2⟩
  clear c0 c1 c2 c3
  have hF := HF.out.gr g2; have hG := HG.out.trans g2
  clear g2 HF HG
  obtain ⟨c0, c1, c2, c3⟩ := hF.cells
  have HF := Lib.hid hF; have HG := Lib.hid hG
  clear hF hG
  rw [k]
  go_wp2_with fail
  have hgc : ∀ z : GW w2, z.val.cell? ⟨w.heap.size, 0, none⟩ = some (.int .i64 a) ∧ z.val.cell? ⟨w.heap.size, 1, none⟩ = some (.int .i64 b) ∧ z.val.cell? ⟨w.heap.size + 1, 0, none⟩ = some (.int .i64 c) ∧ z.val.cell? ⟨w.heap.size + 1, 1, none⟩ = some (.int .i64 d) := fun z => (HF.out.gr z.gr).cells
  have q0 : ∀ z : GW w2, z.val.cell? ⟨w.heap.size, 0, none⟩ = some (.int .i64 a) := fun z => (hgc z).1
  have q1 : ∀ z : GW w2, z.val.cell? ⟨w.heap.size, 1, none⟩ = some (.int .i64 b) := fun z => (hgc z).2.1
  have q2 : ∀ z : GW w2, z.val.cell? ⟨w.heap.size + 1, 0, none⟩ = some (.int .i64 c) := fun z => (hgc z).2.2.1
  have q3 : ∀ z : GW w2, z.val.cell? ⟨w.heap.size + 1, 1, none⟩ = some (.int .i64 d) := fun z => (hgc z).2.2.2
  clear hgc c0 c1 c2 c3
  refine wp_region_gr (W := w2) (by kernel_rfl) (by kernel_rfl) (Gr.refl _) ?_
  repeat (go_big_quiet_step (fail))
  go_big_quiet_want; go_big_quiet_op
  go_big_quiet_call (exact Calls.cw (ris_any a b _))
  repeat (go_big_quiet_step (fail))
  go_big_quiet_want; go_big_quiet_op
  go_big_quiet_call (exact Calls.cw (ris_any c d _))
  rw [h, k]
  repeat (go_big_quiet_step (fail))
  refine wpQuiet_nil ?_
  rintro _ ⟨z, rfl⟩
  have g3 := z.gr
  generalize z.val = w3 at *
  clear z q0 q1 q2 q3
  have hF := HF.out.gr g3; have hG := HG.out.trans g3
  clear g3 HF HG
  obtain ⟨c0, c1, c2, c3⟩ := hF.cells
  have HF := Lib.hid hF; have HG := Lib.hid hG
  clear hF hG
  go_wp2_with fail
  refine (ris_any c d _).mono ?_; rintro e w4 ⟨rfl, g4⟩
  have hG := HG.out.trans g4
  clear g4 HG
  have HG := Lib.hid hG; clear hG
  rw [k]
  go_wp2
  go_ret
  exact ⟨rfl, HG.out⟩
set_option maxHeartbeats 8000000 in
set_option maxRecDepth 100000 in
theorem rcmp_ft (a b c d : Int) (h : Sx.fr1 a b = false) (k : Sx.fr1 c d = true) (w : World) : Calls Try.prog 51 #[.agg #[.int .i64 a, .int .i64 b], .agg #[.int .i64 c, .int .i64 d]] w
      fun e w' => e = .returned (.int .i64 (-1)) ∧ Gr w w' := by
  have hF := four_new w a b c d 54
  have hG : Gr w ((w.alloc (.cells #[.int .i64 a, .int .i64 b] 54)).alloc (.cells #[.int .i64 c, .int .i64 d] 54)) := ((Gr.refl w).alloc _).alloc _
  have HF := Lib.hid hF; have HG := Lib.hid hG
  clear hF hG
  go_enter Try.func51, Try.ntmps51
  go_wp2_with fail
  refine (ris_any a b _).mono ?_; rintro e w1 ⟨rfl, g1⟩
  have hF := HF.out.gr g1; have hG := HG.out.trans g1
  clear g1
  obtain ⟨c0, c1, c2, c3⟩ := hF.cells
  have HF := Lib.hid hF; have HG := Lib.hid hG
  clear hF hG
  rw [h]
  go_wp2_with fail
  have hgc : ∀ z : GW w1, z.val.cell? ⟨w.heap.size, 0, none⟩ = some (.int .i64 a) ∧ z.val.cell? ⟨w.heap.size, 1, none⟩ = some (.int .i64 b) ∧ z.val.cell? ⟨w.heap.size + 1, 0, none⟩ = some (.int .i64 c) ∧ z.val.cell? ⟨w.heap.size + 1, 1, none⟩ = some (.int .i64 d) := fun z => (HF.out.gr z.gr).cells
  have q0 : ∀ z : GW w1, z.val.cell? ⟨w.heap.size, 0, none⟩ = some (.int .i64 a) := fun z => (hgc z).1
  have q1 : ∀ z : GW w1, z.val.cell? ⟨w.heap.size, 1, none⟩ = some (.int .i64 b) := fun z => (hgc z).2.1
  have q2 : ∀ z : GW w1, z.val.cell? ⟨w.heap.size + 1, 0, none⟩ = some (.int .i64 c) := fun z => (hgc z).2.2.1
  have q3 : ∀ z : GW w1, z.val.cell? ⟨w.heap.size + 1, 1, none⟩ = some (.int .i64 d) := fun z => (hgc z).2.2.2
  clear hgc c0 c1 c2 c3
  refine wp_region_gr (W := w1) (by kernel_rfl) (by kernel_rfl) (Gr.refl _) ?_
  repeat (go_big_quiet_step (fail))
  go_big_quiet_want; go_big_quiet_op
  go_big_quiet_call (exact Calls.cw (ris_any a b _))
  repeat (go_big_quiet_step (fail))
  go_big_quiet_want; go_big_quiet_op
  go_big_quiet_call (exact Calls.cw (ris_any c d _))
  rw [h, k]
  repeat (go_big_quiet_step (fail))
  refine wpQuiet_nil ?_
  rintro _ ⟨z, rfl⟩
  have g3 := z.gr
  generalize z.val = w3 at *
  clear z q0 q1 q2 q3
  have hF := HF.out.gr g3; have hG := HG.out.trans g3
  clear g3 HF HG
  obtain ⟨c0, c1, c2, c3⟩ := hF.cells
  have HF := Lib.hid hF; have HG := Lib.hid hG
  clear hF hG
  go_wp2_with fail
  refine (ris_any c d _).mono ?_; rintro e w4 ⟨rfl, g4⟩
  have hG := HG.out.trans g4
  clear g4 HG
  have HG := Lib.hid hG; clear hG
  rw [k]
  go_wp2
  go_ret
  exact ⟨rfl, HG.out⟩
set_option maxHeartbeats 8000000 in
set_option maxRecDepth 100000 in
theorem rcmp_ff1 (a b c d : Int) (h : Sx.fr1 a b = false) (hac : ¬ a = c) (k : Sx.fr1 c d = false) (w : World) : Calls Try.prog 51 #[.agg #[.int .i64 a, .int .i64 b], .agg #[.int .i64 c, .int .i64 d]] w
      fun e w' => e = .returned (.int .i64 (Sx.sgc a c)) ∧ Gr w w' := by
  have hF := four_new w a b c d 54
  have hG : Gr w ((w.alloc (.cells #[.int .i64 a, .int .i64 b] 54)).alloc (.cells #[.int .i64 c, .int .i64 d] 54)) := ((Gr.refl w).alloc _).alloc _
  have HF := Lib.hid hF; have HG := Lib.hid hG
  clear hF hG
  go_enter Try.func51, Try.ntmps51
  go_wp2_with fail
  refine (ris_any a b _).mono ?_; rintro e w1 ⟨rfl, g1⟩
  have hF := HF.out.gr g1; have hG := HG.out.trans g1
  clear g1
  obtain ⟨c0, c1, c2, c3⟩ := hF.cells
  have HF := Lib.hid hF; have HG := Lib.hid hG
  clear hF hG
  rw [h]
  go_wp2_with fail
  have hgc : ∀ z : GW w1, z.val.cell? ⟨w.heap.size, 0, none⟩ = some (.int .i64 a) ∧ z.val.cell? ⟨w.heap.size, 1, none⟩ = some (.int .i64 b) ∧ z.val.cell? ⟨w.heap.size + 1, 0, none⟩ = some (.int .i64 c) ∧ z.val.cell? ⟨w.heap.size + 1, 1, none⟩ = some (.int .i64 d) := fun z => (HF.out.gr z.gr).cells
  have q0 : ∀ z : GW w1, z.val.cell? ⟨w.heap.size, 0, none⟩ = some (.int .i64 a) := fun z => (hgc z).1
  have q1 : ∀ z : GW w1, z.val.cell? ⟨w.heap.size, 1, none⟩ = some (.int .i64 b) := fun z => (hgc z).2.1
  have q2 : ∀ z : GW w1, z.val.cell? ⟨w.heap.size + 1, 0, none⟩ = some (.int .i64 c) := fun z => (hgc z).2.2.1
  have q3 : ∀ z : GW w1, z.val.cell? ⟨w.heap.size + 1, 1, none⟩ = some (.int .i64 d) := fun z => (hgc z).2.2.2
  clear hgc c0 c1 c2 c3
  refine wp_region_gr (W := w1) (by kernel_rfl) (by kernel_rfl) (Gr.refl _) ?_
  repeat (go_big_quiet_step (fail))
  go_big_quiet_want; go_big_quiet_op
  go_big_quiet_call (exact Calls.cw (ris_any a b _))
  repeat (go_big_quiet_step (fail))
  go_big_quiet_want; go_big_quiet_op
  go_big_quiet_call (exact Calls.cw (ris_any c d _))
  rw [h, k]
  repeat (go_big_quiet_step (fail))
  refine wpQuiet_nil ?_
  rintro _ ⟨z, rfl⟩
  have g3 := z.gr
  generalize z.val = w3 at *
  clear z q0 q1 q2 q3
  have hF := HF.out.gr g3; have hG := HG.out.trans g3
  clear g3 HF HG
  obtain ⟨c0, c1, c2, c3⟩ := hF.cells
  have HF := Lib.hid hF; have HG := Lib.hid hG
  clear hF hG
  go_wp2_with fail
  refine (order_any a c _).mono ?_; rintro e w4 ⟨rfl, g4⟩
  have hG := HG.out.trans g4
  clear g4 HG
  have HG := Lib.hid hG; clear hG
  go_wp2
  go_ret
  exact ⟨rfl, HG.out⟩
set_option maxHeartbeats 8000000 in
set_option maxRecDepth 100000 in
theorem rcmp_ff2 (a b d : Int) (h : Sx.fr1 a b = false) (k : Sx.fr1 a d = false) (w : World) : Calls Try.prog 51 #[.agg #[.int .i64 a, .int .i64 b], .agg #[.int .i64 a, .int .i64 d]] w
      fun e w' => e = .returned (.int .i64 (Sx.sgc b d)) ∧ Gr w w' := by
  have hF := four_new w a b a d 54
  have hG : Gr w ((w.alloc (.cells #[.int .i64 a, .int .i64 b] 54)).alloc (.cells #[.int .i64 a, .int .i64 d] 54)) := ((Gr.refl w).alloc _).alloc _
  have HF := Lib.hid hF; have HG := Lib.hid hG
  clear hF hG
  go_enter Try.func51, Try.ntmps51
  go_wp2_with fail
  refine (ris_any a b _).mono ?_; rintro e w1 ⟨rfl, g1⟩
  have hF := HF.out.gr g1; have hG := HG.out.trans g1
  clear g1
  obtain ⟨c0, c1, c2, c3⟩ := hF.cells
  have HF := Lib.hid hF; have HG := Lib.hid hG
  clear hF hG
  rw [h]
  go_wp2_with fail
  have hgc : ∀ z : GW w1, z.val.cell? ⟨w.heap.size, 0, none⟩ = some (.int .i64 a) ∧ z.val.cell? ⟨w.heap.size, 1, none⟩ = some (.int .i64 b) ∧ z.val.cell? ⟨w.heap.size + 1, 0, none⟩ = some (.int .i64 a) ∧ z.val.cell? ⟨w.heap.size + 1, 1, none⟩ = some (.int .i64 d) := fun z => (HF.out.gr z.gr).cells
  have q0 : ∀ z : GW w1, z.val.cell? ⟨w.heap.size, 0, none⟩ = some (.int .i64 a) := fun z => (hgc z).1
  have q1 : ∀ z : GW w1, z.val.cell? ⟨w.heap.size, 1, none⟩ = some (.int .i64 b) := fun z => (hgc z).2.1
  have q2 : ∀ z : GW w1, z.val.cell? ⟨w.heap.size + 1, 0, none⟩ = some (.int .i64 a) := fun z => (hgc z).2.2.1
  have q3 : ∀ z : GW w1, z.val.cell? ⟨w.heap.size + 1, 1, none⟩ = some (.int .i64 d) := fun z => (hgc z).2.2.2
  clear hgc c0 c1 c2 c3
  refine wp_region_gr (W := w1) (by kernel_rfl) (by kernel_rfl) (Gr.refl _) ?_
  repeat (go_big_quiet_step (fail))
  go_big_quiet_want; go_big_quiet_op
  go_big_quiet_call (exact Calls.cw (ris_any a b _))
  repeat (go_big_quiet_step (fail))
  go_big_quiet_want; go_big_quiet_op
  go_big_quiet_call (exact Calls.cw (ris_any a d _))
  rw [h, k]
  repeat (go_big_quiet_step (fail))
  refine wpQuiet_nil ?_
  rintro _ ⟨z, rfl⟩
  have g3 := z.gr
  generalize z.val = w3 at *
  clear z q0 q1 q2 q3
  have hF := HF.out.gr g3; have hG := HG.out.trans g3
  clear g3 HF HG
  obtain ⟨c0, c1, c2, c3⟩ := hF.cells
  have HF := Lib.hid hF; have HG := Lib.hid hG
  clear hF hG
  go_wp2_with fail
  refine (order_any b d _).mono ?_; rintro e w4 ⟨rfl, g4⟩
  have hG := HG.out.trans g4
  clear g4 HG
  have HG := Lib.hid hG; clear hG
  go_wp2
  go_ret
  exact ⟨rfl, HG.out⟩
end Fc
end Go.Proofs.Ytfpnkcmplmkghaa
/- The reference's Cmp of chapter 3 at two right fractions. -/
set_option linter.unusedVariables false
set_option linter.unusedSimpArgs false
namespace Go.Proofs.Ytfpnkcmplmkghaa
open Go.RowKit
namespace Fc
open Bg
/-- A number's two cells, laid anew. -/
def Two (x : World) (p : Nat) : Prop := Blk x p [.bool false, .slice none 0 0] ∧ ∀ i, 2 ≤ i → x.cell? ⟨p, i, none⟩ = none
theorem Two.gr {x y : World} {p : Nat} (h : Two x p) (g : Gr x y) : Two y p := ⟨h.1.gr g, fun i hi => (g.cells p i h.1.1).trans (h.2 i hi)⟩
theorem Two.new (x : World) (p : Nat) (T : TypeId) (hp : p = x.heap.size) : Two (x.alloc (.cells #[.bool false, .slice none 0 0] T)) p := by
  subst hp
  refine ⟨Blk.new (vs := [.bool false, .slice none 0 0]) rfl, fun i hi => ?_⟩
  rw [World.cell?_alloc_at _ _ _ _ rfl]
  match i, hi with
  | i + 2, _ => simp
theorem Two.fin {x : World} {p : Nat} (h : Two x p) {b : Bool} {ar : Option Addr} {lr cr : Nat} {n : Int} (hn : IsNum x (NumV b ar lr cr) n) :
    Blk ((x.setCell ⟨p, 0, none⟩ (.bool b)).setCell ⟨p, 1, none⟩ (.slice ar lr cr)) p [.bool b, .slice ar lr cr] ∧ IsNum ((x.setCell ⟨p, 0, none⟩ (.bool b)).setCell ⟨p, 1, none⟩ (.slice ar lr cr)) (NumV b ar lr cr) n := by
  have off : ∀ ad, ar = some ad → 0 < lr → ad.block ≠ p := by
    obtain ⟨a2, l2, c2, zs, e, hr, -⟩ := hn
    injection e with e
    simp only [Array.mk.injEq, List.cons.injEq, Value.bool.injEq, Value.slice.injEq, and_true] at e
    obtain ⟨-, rfl, rfl, rfl⟩ := e
    intro ad ha hl hb
    obtain ⟨b2, off, e2, hc⟩ := hr.2.2.2 hl
    rw [ha] at e2
    obtain rfl := Option.some.inj e2
    simp only at hb
    subst hb
    have h0 := hc 0 hl
    match off, h0 with
    | 0, h0 => rw [h.1.cell 0 rfl] at h0; cases h0
    | 1, h0 => rw [h.1.cell 1 rfl] at h0; cases h0
    | k + 2, h0 => rw [h.2 (k + 2 + 0) (by omega)] at h0; cases h0
  exact ⟨h.1.set2 _ _, IsNum.set (IsNum.set hn off _) off _⟩
set_option maxHeartbeats 8000000 in
set_option maxRecDepth 100000 in
theorem rcmp_tt (a b c d : Int) (h : Sx.fr1 a b = true) (k : Sx.fr1 c d = true) (w : World) : Calls Try.prog 51 #[.agg #[.int .i64 a, .int .i64 b], .agg #[.int .i64 c, .int .i64 d]] w
      fun e w' => e = .returned (.int .i64 (Sx.sgc (a * d) (c * b))) ∧ Gr w w' := by
  have hF := four_new w a b c d 54
  have hG : Gr w ((w.alloc (.cells #[.int .i64 a, .int .i64 b] 54)).alloc (.cells #[.int .i64 c, .int .i64 d] 54)) := ((Gr.refl w).alloc _).alloc _
  have HF := Lib.hid hF; have HG := Lib.hid hG
  clear hF hG
  go_enter Try.func51, Try.ntmps51
  go_wp2_with fail
  refine (ris_any a b _).mono ?_; rintro e w1 ⟨rfl, g1⟩
  have hF := HF.out.gr g1; have hG := HG.out.trans g1
  clear g1
  obtain ⟨c0, c1, c2, c3⟩ := hF.cells
  have HF := Lib.hid hF; have HG := Lib.hid hG
  clear hF hG
  rw [h]
  go_wp2_with fail
  refine (ris_any c d _).mono ?_; rintro e w2 ⟨rfl, g2⟩
  clear c0 c1 c2 c3
  have hF := HF.out.gr g2; have hG := HG.out.trans g2
  clear g2 HF HG
  obtain ⟨c0, c1, c2, c3⟩ := hF.cells
  have HF := Lib.hid hF; have HG := Lib.hid hG
  clear hF hG
  rw [k]
  go_wp2_with fail
  obtain ⟨hb1, ha1⟩ := fr1_bd h
  obtain ⟨hd1, hc1⟩ := fr1_bd k
  have e40 : (1000000000000000000 : Int) < p10 40 := by decide
  have I1 := Lib.hid (show I a by unfold I; omega); have I2 := Lib.hid (show I d by unfold I; omega)
  have N1 := Lib.hid (show (a.natAbs : Int) < p10 40 by omega); have N2 := Lib.hid (show (d.natAbs : Int) < p10 40 by omega)
  have J1 := Lib.hid (show I c by unfold I; omega); have J2 := Lib.hid (show I b by unfold I; omega)
  have M1 := Lib.hid (show (c.natAbs : Int) < p10 40 by omega); have M2 := Lib.hid (show (b.natAbs : Int) < p10 40 by omega)
  have Q1 := Lib.hid (show (a.natAbs : Int) ≤ 1000000000000000000 by omega); have Q2 := Lib.hid (show (b.natAbs : Int) ≤ 1000000000000000000 by omega)
  have Q3 := Lib.hid (show (c.natAbs : Int) ≤ 1000000000000000000 by omega); have Q4 := Lib.hid (show (d.natAbs : Int) ≤ 1000000000000000000 by omega)
  clear hb1 ha1 hd1 hc1 e40
  have mk : ∀ x, Gr w2 x → (Gr w2 x ∧ x.cell? ⟨w.heap.size, 0, none⟩ = some (.int .i64 a) ∧ x.cell? ⟨w.heap.size, 1, none⟩ = some (.int .i64 b) ∧ x.cell? ⟨w.heap.size + 1, 0, none⟩ = some (.int .i64 c) ∧ x.cell? ⟨w.heap.size + 1, 1, none⟩ = some (.int .i64 d)) := fun x h => ⟨h, (HF.out.gr h).cells⟩
  have gs : ∀ x, (Gr w2 x ∧ x.cell? ⟨w.heap.size, 0, none⟩ = some (.int .i64 a) ∧ x.cell? ⟨w.heap.size, 1, none⟩ = some (.int .i64 b) ∧ x.cell? ⟨w.heap.size + 1, 0, none⟩ = some (.int .i64 c) ∧ x.cell? ⟨w.heap.size + 1, 1, none⟩ = some (.int .i64 d)) → Gr w2 x := fun x h => h.1
  have MK := Lib.hid mk; have GS := Lib.hid gs; clear mk gs
  go_cut [5] (fun s wx => ∃ (p : Nat) (q : Bool) (ar : Option Addr) (lr cr : Nat), s = .pointer (some ⟨p, 0, none⟩) ∧ Blk wx p [.bool q, .slice ar lr cr] ∧ IsNum wx (NumV q ar lr cr) (a * d) ∧ Gr w2 wx)
  case first =>
    go_region_held3 (fun x => Gr w2 x ∧ x.cell? ⟨w.heap.size, 0, none⟩ = some (.int .i64 a) ∧ x.cell? ⟨w.heap.size, 1, none⟩ = some (.int .i64 b) ∧ x.cell? ⟨w.heap.size + 1, 0, none⟩ = some (.int .i64 c) ∧ x.cell? ⟨w.heap.size + 1, 1, none⟩ = some (.int .i64 d))
      (first | exact MK.out _ (Gr.refl _).drew | exact MK.out _ ((Gr.refl _).alloc _).drew | exact MK.out _ ((GS.out _ (by with_reducible assumption)).trans hg) | exact MK.out _ (Gr.alloc (by with_reducible assumption) _) | exact MK.out _ (Gr.alloc (GS.out _ (by with_reducible assumption)) _) | exact MK.out _ (((GS.out _ (by with_reducible assumption)).setCell (by first | assumption | (simp; done) | (simp; omega)) _).setCell (by first | assumption | (simp; done) | (simp; omega)) _))
      (first
        | (go_at_call 72; refine (ofInt_any _ (by first | exact I1.out | exact I2.out) _).mono ?_; rintro e x1 ⟨⟨u1, rfl, hn⟩, hg⟩; (try have hgq2 := Gr.trans hgq hg); have hgq := hg; have hGx := (GS.out _ (by with_reducible assumption)).trans hg; have hsx := hGx.size; have hcs := hg.cells; have hfs := hg.frozens; have hss : ∀ n, n < _ → n < _ := fun n h => Nat.lt_of_lt_of_le h hg.size; (try simp at hss); (try (have hst : w2.heap.size < _ := hss _ (by first | with_reducible assumption | exact Nat.lt_succ_self _))))
        | (go_at_call 71; refine (times_any _ _ a d _ (IsNum.gr (by with_reducible assumption) (by first | exact Gr.refl _ | exact (Gr.refl _).alloc _ | exact hg | exact hg.alloc _ | exact Gr.trans ((Gr.refl _).alloc _) hg | exact (Gr.trans ((Gr.refl _).alloc _) hg).alloc _)) (IsNum.gr (by with_reducible assumption) (by first | exact Gr.refl _ | exact (Gr.refl _).alloc _ | exact hg | exact hg.alloc _ | exact Gr.trans ((Gr.refl _).alloc _) hg | exact (Gr.trans ((Gr.refl _).alloc _) hg).alloc _)) N1.out N2.out).mono ?_; rintro e x3 ⟨⟨u3, rfl, hn3⟩, hg⟩; (try have hgq3 := Gr.trans hgq hg); (try have hgq4 := Gr.trans hgq2 hg); have hGx := (GS.out _ (by with_reducible assumption)).trans hg; have hsx := hGx.size; have hcs := hg.cells; have hfs := hg.frozens; have hss : ∀ n, n < _ → n < _ := fun n h => Nat.lt_of_lt_of_le h hg.size; (try simp at hss); (try (have hst : w2.heap.size < _ := hss _ (by first | with_reducible assumption | exact Nat.lt_succ_self _))); obtain ⟨a3, len3, cap3, zs3, rfl, -⟩ := parts hn3; unfold NumV))
    all_goals
      go_wp2_with fail
      go_meet
      first
        | (have hTT := (Two.new _ _ _ rfl).gr hgq4; have hNN := hn3; exact ⟨_, _, _, _, _, rfl, (Two.fin hTT hNN).1, (Two.fin hTT hNN).2, GS.out _ (by with_reducible assumption)⟩)
        | (have hTT := (Two.new _ _ _ rfl).gr hgq3; have hNN := hn3; exact ⟨_, _, _, _, _, rfl, (Two.fin hTT hNN).1, (Two.fin hTT hNN).2, GS.out _ (by with_reducible assumption)⟩)
        | (have hTT := (Two.new _ _ _ rfl).gr hg; have hNN := hn3; exact ⟨_, _, _, _, _, rfl, (Two.fin hTT hNN).1, (Two.fin hTT hNN).2, GS.out _ (by with_reducible assumption)⟩)
        | (have hNN := hn3.gr ((Gr.refl x3).alloc (.cells #[.bool (decide (a * d < 0)), .slice a3 len3 cap3] 88)); exact ⟨_, _, _, _, _, rfl, Blk.new (vs := [.bool (decide (a * d < 0)), .slice a3 len3 cap3]) rfl, hNN, GS.out _ (by with_reducible assumption)⟩)
        | (have hTT := (Two.new w2 _ 88 rfl).gr (((Gr.refl _).drew).trans hgq4); have hNN := hn3; exact ⟨_, _, _, _, _, rfl, (Two.fin hTT hNN).1, (Two.fin hTT hNN).2, GS.out _ (by with_reducible assumption)⟩)
  case rest =>
    obtain ⟨p, q, ar, lr, cr, rfl, hB, hN, hg⟩ := hcut
    have hF := HF.out.gr hg; have hG := HG.out.trans hg
    clear HF HG MK GS c0 c1 c2 c3
    obtain ⟨c0, c1, c2, c3⟩ := hF.cells
    have HF := Lib.hid hF; have HG := Lib.hid hG; have HB1 := Lib.hid hB; have HN1 := Lib.hid hN
    clear hF hG hB hN hg
    go_wp2_with fail
    have mk : ∀ x, Gr wc x → (Gr wc x ∧ x.cell? ⟨w.heap.size, 0, none⟩ = some (.int .i64 a) ∧ x.cell? ⟨w.heap.size, 1, none⟩ = some (.int .i64 b) ∧ x.cell? ⟨w.heap.size + 1, 0, none⟩ = some (.int .i64 c) ∧ x.cell? ⟨w.heap.size + 1, 1, none⟩ = some (.int .i64 d)) := fun x h => ⟨h, (HF.out.gr h).cells⟩
    have gs : ∀ x, (Gr wc x ∧ x.cell? ⟨w.heap.size, 0, none⟩ = some (.int .i64 a) ∧ x.cell? ⟨w.heap.size, 1, none⟩ = some (.int .i64 b) ∧ x.cell? ⟨w.heap.size + 1, 0, none⟩ = some (.int .i64 c) ∧ x.cell? ⟨w.heap.size + 1, 1, none⟩ = some (.int .i64 d)) → Gr wc x := fun x h => h.1
    have MK := Lib.hid mk; have GS := Lib.hid gs; clear mk gs
    go_cut [6] (fun s wx => ∃ (p : Nat) (q : Bool) (ar : Option Addr) (lr cr : Nat), s = .pointer (some ⟨p, 0, none⟩) ∧ Blk wx p [.bool q, .slice ar lr cr] ∧ IsNum wx (NumV q ar lr cr) (c * b) ∧ Gr wc wx)
    case first =>
      go_region_held3 (fun x => Gr wc x ∧ x.cell? ⟨w.heap.size, 0, none⟩ = some (.int .i64 a) ∧ x.cell? ⟨w.heap.size, 1, none⟩ = some (.int .i64 b) ∧ x.cell? ⟨w.heap.size + 1, 0, none⟩ = some (.int .i64 c) ∧ x.cell? ⟨w.heap.size + 1, 1, none⟩ = some (.int .i64 d))
        (first | exact MK.out _ (Gr.refl _).drew | exact MK.out _ ((Gr.refl _).alloc _).drew | exact MK.out _ ((GS.out _ (by with_reducible assumption)).trans hg) | exact MK.out _ (Gr.alloc (by with_reducible assumption) _) | exact MK.out _ (Gr.alloc (GS.out _ (by with_reducible assumption)) _) | exact MK.out _ (((GS.out _ (by with_reducible assumption)).setCell (by first | assumption | (simp; done) | (simp; omega)) _).setCell (by first | assumption | (simp; done) | (simp; omega)) _))
        (first
          | (go_at_call 72; refine (ofInt_any _ (by first | exact J1.out | exact J2.out) _).mono ?_; rintro e x1 ⟨⟨u1, rfl, hn⟩, hg⟩; (try have hgq2 := Gr.trans hgq hg); have hgq := hg; have hGx := (GS.out _ (by with_reducible assumption)).trans hg; have hsx := hGx.size; have hcs := hg.cells; have hfs := hg.frozens; have hss : ∀ n, n < _ → n < _ := fun n h => Nat.lt_of_lt_of_le h hg.size; (try simp at hss); (try (have hst : wc.heap.size < _ := hss _ (by first | with_reducible assumption | exact Nat.lt_succ_self _))))
          | (go_at_call 71; refine (times_any _ _ c b _ (IsNum.gr (by with_reducible assumption) (by first | exact Gr.refl _ | exact (Gr.refl _).alloc _ | exact hg | exact hg.alloc _ | exact Gr.trans ((Gr.refl _).alloc _) hg | exact (Gr.trans ((Gr.refl _).alloc _) hg).alloc _)) (IsNum.gr (by with_reducible assumption) (by first | exact Gr.refl _ | exact (Gr.refl _).alloc _ | exact hg | exact hg.alloc _ | exact Gr.trans ((Gr.refl _).alloc _) hg | exact (Gr.trans ((Gr.refl _).alloc _) hg).alloc _)) M1.out M2.out).mono ?_; rintro e x3 ⟨⟨u3, rfl, hn3⟩, hg⟩; (try have hgq3 := Gr.trans hgq hg); (try have hgq4 := Gr.trans hgq2 hg); have hGx := (GS.out _ (by with_reducible assumption)).trans hg; have hsx := hGx.size; have hcs := hg.cells; have hfs := hg.frozens; have hss : ∀ n, n < _ → n < _ := fun n h => Nat.lt_of_lt_of_le h hg.size; (try simp at hss); (try (have hst : wc.heap.size < _ := hss _ (by first | with_reducible assumption | exact Nat.lt_succ_self _))); obtain ⟨a3, len3, cap3, zs3, rfl, -⟩ := parts hn3; unfold NumV))
      all_goals
        go_wp2_with fail
        go_meet
        first
          | (have hTT := (Two.new _ _ _ rfl).gr hgq4; have hNN := hn3; exact ⟨_, _, _, _, _, rfl, (Two.fin hTT hNN).1, (Two.fin hTT hNN).2, GS.out _ (by with_reducible assumption)⟩)
          | (have hTT := (Two.new _ _ _ rfl).gr hgq3; have hNN := hn3; exact ⟨_, _, _, _, _, rfl, (Two.fin hTT hNN).1, (Two.fin hTT hNN).2, GS.out _ (by with_reducible assumption)⟩)
          | (have hTT := (Two.new _ _ _ rfl).gr hg; have hNN := hn3; exact ⟨_, _, _, _, _, rfl, (Two.fin hTT hNN).1, (Two.fin hTT hNN).2, GS.out _ (by with_reducible assumption)⟩)
          | (have hNN := hn3.gr ((Gr.refl x3).alloc (.cells #[.bool (decide (c * b < 0)), .slice a3 len3 cap3] 88)); exact ⟨_, _, _, _, _, rfl, Blk.new (vs := [.bool (decide (c * b < 0)), .slice a3 len3 cap3]) rfl, hNN, GS.out _ (by with_reducible assumption)⟩)
          | (have hTT := (Two.new wc _ 88 rfl).gr (((Gr.refl _).drew).trans hgq4); have hNN := hn3; exact ⟨_, _, _, _, _, rfl, (Two.fin hTT hNN).1, (Two.fin hTT hNN).2, GS.out _ (by with_reducible assumption)⟩)
    case rest =>
      obtain ⟨p', q', ar', lr', cr', rfl, hB2, hN2, hg2⟩ := hcut
      have HB1 := Lib.hid (HB1.out.gr hg2); have HN1 := Lib.hid (HN1.out.gr hg2); have HB2 := Lib.hid hB2; have HN2 := Lib.hid hN2; have HG := Lib.hid (HG.out.trans hg2)
      clear hB2 hN2 hg2 c0 c1 c2 c3 MK GS
      have hN1 := HN1.out; have hN2 := HN2.out
      have p0 := HB1.out.cell 0 rfl; have p1 := HB1.out.cell 1 rfl; have p2 := HB2.out.cell 0 rfl; have p3 := HB2.out.cell 1 rfl
      clear hN1 hN2
      have L1 := Lib.hid (show ((a * d).natAbs : Int) < p10 40 from (by
        have e : p10 40 = 10000000000000000000000000000000000000000 := by decide
        rw [e, Int.natAbs_mul]; push_cast
        have h1 := Q1.out; have h2 := Q4.out
        have h3 : (a.natAbs : Int) * (d.natAbs : Int) ≤ 1000000000000000000 * 1000000000000000000 := Int.mul_le_mul h1 h2 (by omega) (by omega)
        omega))
      have L2 := Lib.hid (show ((c * b).natAbs : Int) < p10 40 from (by
        have e : p10 40 = 10000000000000000000000000000000000000000 := by decide
        rw [e, Int.natAbs_mul]; push_cast
        have h1 := Q3.out; have h2 := Q2.out
        have h3 : (c.natAbs : Int) * (b.natAbs : Int) ≤ 1000000000000000000 * 1000000000000000000 := Int.mul_le_mul h1 h2 (by omega) (by omega)
        omega))
      by_cases hlt : a * d < c * b
      · have HLT := Lib.hid hlt; clear hlt
        go_wp2_with fail
        refine (less_any _ _ (a * d) (c * b) _ HN1.out HN2.out L1.out L2.out).mono ?_; rintro e w5 ⟨rfl, g5⟩
        rw [decide_eq_true HLT.out]
        go_wp2
        go_ret
        exact ⟨by rw [sg1 HLT.out]; rfl, HG.out.trans g5⟩
      · have HLT := Lib.hid hlt; clear hlt
        go_wp2_with fail
        refine (less_any _ _ (a * d) (c * b) _ HN1.out HN2.out L1.out L2.out).mono ?_; rintro e w5 ⟨rfl, g5⟩
        rw [decide_eq_false (show ¬ a * d < c * b by have := HLT.out; omega)]
        have hN1 := Lib.hid (HN1.out.gr g5); have hN2 := Lib.hid (HN2.out.gr g5); have hB1 := HB1.out.gr g5; have hB2 := HB2.out.gr g5
        have HG2 := Lib.hid (HG.out.trans g5)
        clear p0 p1 p2 p3 g5
        have p0 := hB1.cell 0 rfl; have p1 := hB1.cell 1 rfl; have p2 := hB2.cell 0 rfl; have p3 := hB2.cell 1 rfl
        clear hB1 hB2
        by_cases hgt : c * b < a * d
        · have HGT := Lib.hid hgt; clear hgt
          go_wp2_with fail
          refine (less_any _ _ (c * b) (a * d) _ hN2.out hN1.out L2.out L1.out).mono ?_; rintro e w6 ⟨rfl, g6⟩
          rw [decide_eq_true HGT.out]
          go_wp2
          go_ret
          exact ⟨by rw [sg2 HGT.out]; rfl, HG2.out.trans g6⟩
        · have HGT := Lib.hid hgt; clear hgt
          go_wp2_with fail
          refine (less_any _ _ (c * b) (a * d) _ hN2.out hN1.out L2.out L1.out).mono ?_; rintro e w6 ⟨rfl, g6⟩
          rw [decide_eq_false (show ¬ c * b < a * d by have := HGT.out; omega)]
          go_wp2
          go_ret
          exact ⟨by rw [sg3 (show ¬ a * d < c * b by have := HLT.out; omega) (show ¬ c * b < a * d by have := HGT.out; omega)]; rfl, HG2.out.trans g6⟩

end Fc
end Go.Proofs.Ytfpnkcmplmkghaa
/- The reference's Cmp, Least of chapter 3; plain: one put among sorted ones. -/
set_option linter.unusedVariables false
set_option linter.unusedSimpArgs false
namespace Go.Proofs.Ytfpnkcmplmkghaa
open Go.RowKit
namespace Fc
theorem rcmp_any (a b c d : Int) (w : World) : Calls Try.prog 51 #[.agg #[.int .i64 a, .int .i64 b], .agg #[.int .i64 c, .int .i64 d]] w
      fun e w' => e = .returned (.int .i64 (Sx.fcmp [a, b, c, d])) ∧ Gr w w' := by
  cases h : Sx.fr1 a b <;> cases k : Sx.fr1 c d
  · by_cases hac : a = c
    · subst hac
      have e : Sx.fcmp [a, b, a, d] = Sx.sgc b d := by simp [Sx.fcmp, h, k]
      rw [e]; exact rcmp_ff2 a b d h k w
    · have e : Sx.fcmp [a, b, c, d] = Sx.sgc a c := by simp [Sx.fcmp, h, k, hac]
      rw [e]; exact rcmp_ff1 a b c d h hac k w
  · have e : Sx.fcmp [a, b, c, d] = -1 := by simp [Sx.fcmp, h, k]
    rw [e]; exact rcmp_ft a b c d h k w
  · have e : Sx.fcmp [a, b, c, d] = 1 := by simp [Sx.fcmp, h, k]
    rw [e]; exact rcmp_tf a b c d h k w
  · rw [Sx.fcmp_right h k]; exact rcmp_tt a b c d h k w
theorem rleast_any (p : Option Addr) (len cap : Nat) (zs : List (List Int)) (w : World) (hr : Oi.IsRows 2 w p len zs) :
    Calls Try.prog 43 #[.slice p len cap] w
      fun e w' => e = .returned (.tuple #[.int .i64 (Fa.upto zs len), .bool (decide (0 < len))]) ∧ Gr w w' := Fa.rleast_any rcmp_any p len cap zs w hr
end Fc
namespace So
section
variable {α : Type} (le : α → α → Bool)
theorem ins_at {x : α} {l : List α} {n : Nat} (h : ∀ z ∈ l.take n, le z x = true) (hn : n ≤ l.length) (hx : ∀ z, l[n]? = some z → le z x = false) : ins le x l = l.take n ++ x :: l.drop n := by
  unfold ins
  have e : l = l.take n ++ l.drop n := (List.take_append_drop n l).symm
  have h1 : (l.drop n).takeWhile (fun z => le z x) = [] ∧ (l.drop n).dropWhile (fun z => le z x) = l.drop n := by
    cases hd : l.drop n with
    | nil => simp
    | cons y r =>
      have : l[n]? = some y := by
        have := congrArg (fun q => q[0]?) hd
        simpa using this
      have hy := hx y this
      simp [hy]
  have h2 : (l.take n ++ l.drop n).takeWhile (fun z => le z x) = l.take n := by
    rw [List.takeWhile_append_of_pos h, h1.1, List.append_nil]
  have h3 : (l.take n ++ l.drop n).dropWhile (fun z => le z x) = l.drop n := by
    rw [List.dropWhile_append_of_pos h, h1.2]
  conv => lhs; rw [e]
  rw [h2, h3]
theorem ins_len (x : α) (l : List α) : (ins le x l).length = l.length + 1 := by
  unfold ins
  have := congrArg List.length (List.takeWhile_append_dropWhile (p := fun z => le z x) (l := l))
  simp only [List.length_append, List.length_cons] at *
  omega
theorem ins_mem {x z : α} {l : List α} (h : z ∈ ins le x l) : z = x ∨ z ∈ l := by
  unfold ins at h
  have e : l = l.takeWhile (fun z => le z x) ++ l.dropWhile (fun z => le z x) := List.takeWhile_append_dropWhile.symm
  rw [List.mem_append, List.mem_cons] at h
  rcases h with h | h | h
  · right; rw [e]; exact List.mem_append.2 (.inl h)
  · exact .inl h
  · right; rw [e]; exact List.mem_append.2 (.inr h)
theorem isort_take (l : List α) (k : Nat) (h : k < l.length) (d : α) : isort le (l.take (k + 1)) = ins le (l.getD k d) (isort le (l.take k)) := by
  unfold isort
  rw [List.take_succ_eq_append_getElem h, List.foldl_append]
  simp [List.getD, List.getElem?_eq_getElem h]
theorem isort_len (l : List α) : ∀ k, k ≤ l.length → (isort le (l.take k)).length = k
  | 0, _ => rfl
  | k + 1, h => by
    cases l with
    | nil => simp at h
    | cons d r => rw [isort_take le (d :: r) k (by omega) d, ins_len, isort_len (d :: r) k (by omega)]
theorem isort_mem (l : List α) {z : α} : ∀ k, k ≤ l.length → z ∈ isort le (l.take k) → z ∈ l
  | 0, _, h => by simp [isort] at h
  | k + 1, h, hz => by
    cases l with
    | nil => simp at h
    | cons d r =>
      rw [isort_take le (d :: r) k (by omega) d] at hz
      rcases ins_mem le hz with rfl | hz
      · rw [List.getD_eq_getElem?_getD, List.getElem?_eq_getElem (by omega)]; exact List.getElem_mem _
      · exact isort_mem (d :: r) k (by omega) hz
end
end So
end Go.Proofs.Ytfpnkcmplmkghaa
/- The reference's Sort of chapter 3, walked. -/
set_option linter.unusedVariables false
set_option linter.unusedSimpArgs false
namespace Go.Proofs.Ytfpnkcmplmkghaa
open Go.RowKit
namespace Fa
open Ro
theorem own_some {w : World} {base : Nat} {e : TypeId} {size : Nat} {v : Value} {n : Nat} {xs : List Value} (h : w.ownsRow base e size v n xs) (hn : 0 < n) : ∃ g cap, v = .slice (some ⟨g, 0, none⟩) n cap ∧ base ≤ g ∧ n ≤ cap := by
  rcases h.2 with ⟨_, h0⟩ | ⟨g, cap, cur, hv, hb, _, hc, _⟩
  · omega
  · exact ⟨g, cap, hv, hb, hc⟩
theorem own_base {w : World} {base : Nat} {e : TypeId} {size : Nat} {v : Value} {n : Nat} {xs : List Value} (h : w.ownsRow base e size v n xs) : ∀ k, v.ownBlock = some k → base ≤ k := by
  rcases h.2 with ⟨hv, _⟩ | ⟨g, cap, cur, hv, hb, _⟩
  · intro k hk; subst hv; cases hk
  · intro k hk; subst hv; simp [Value.ownBlock] at hk; omega
theorem row2_own {w : World} {base : Nat} {e : TypeId} {v : Value} {n : Nat} {zs : List (List Int)} (h : w.ownsRow base e 2 v n (fl zs)) (hl : zs.length = n) (hn : n ≤ 9223372036854775807) (hz : ∀ z ∈ zs, z.length = 2 ∧ ∀ x ∈ z, I x) :
    ∃ a cap, v = .slice a n cap ∧ Row2 w a n cap zs := by
  subst hl
  obtain ⟨a, cap, hv, hr, hc, hnn⟩ := rows_owned h hn hz
  exact ⟨a, cap, hv, hr, hc, hnn⟩
set_option maxHeartbeats 8000000 in
set_option maxRecDepth 100000 in
theorem rsort_any (p : Option Addr) (len cap : Nat) (zs : List (List Int)) (w : World) (hr : Row2 w p len cap zs) (hl : len ≤ 1000) :
    Calls Try.prog 46 #[.slice p len cap] w fun e w' => ∃ p' c', e = .returned (.slice p' len c') ∧ Row2 w' p' len c' (So.isort le zs) ∧ Gr w w' := by
  obtain ⟨i0, hi, hz0, hz1, hz2⟩ := info_parts infoF
  have HR := Lib.hid hr
  clear hr
  go_enter Try.func46, Try.ntmps46
  go_wp2_with fail
  go_loopw [3, 4] (fun v3 v4 wr => ∃ (k : Nat) (po : Option Addr) (co : Nat), k ≤ len ∧ v4 = .int .i64 k ∧ v3 = .slice po k co ∧ Row2 wr po k co (So.isort le (zs.take k)) ∧ Gr w wr ∧ ((po = none ∧ co = 0 ∧ k = 0) ∨ ∃ b o, po = some ⟨b, o, none⟩)) (fun _ v4 _ => len - (intOf v4).toNat)
  case atStart => exact ⟨0, none, 0, Nat.zero_le _, rfl, rfl, ⟨Oi.IsRows.nil _ _ _, Nat.le_refl _, fun _ => rfl⟩, Gr.refl _, .inl ⟨rfl, rfl, rfl⟩⟩
  case round =>
    obtain ⟨k, po, co, hk, rfl, rfl, ro, hg, hpo⟩ := hrel
    by_cases hlt : k < len
    · obtain ⟨b, off, x, y, rfl, hbl, ez, cx, cy, hx, hy⟩ := Ro.rows2_at (HR.out.1.later hg) hlt
      have hst := So.isort_take le zs k (by rw [HR.out.1.1]; exact hlt) []
      have hcl := HR.out.2.1
      rw [ez] at hst
      have hm : ∀ z ∈ So.isort le (zs.take (k + 1)), z.length = 2 ∧ ∀ x ∈ z, I x := fun z hz => HR.out.1.2.2.1 z (So.isort_mem le zs (k + 1) (by rw [HR.out.1.1]; omega) hz)
      have hln : (So.isort le (zs.take (k + 1))).length = k + 1 := So.isort_len le zs (k + 1) (by rw [HR.out.1.1]; omega)
      have HST := Lib.hid hst; have HM := Lib.hid hm; have HLN := Lib.hid hln
      clear hst hm hln
      generalize hO : So.isort le (zs.take k) = O at *
      have hbk := hbl
      have HRO := Lib.hid ro; have HG := Lib.hid hg; have HXY := Lib.hid (And.intro hx hy); have CX := Lib.hid cx; have CY := Lib.hid cy; have HBL := Lib.hid hbl
      clear ro hg hx hy hO ez hbl
      go_upto_block 2 with fail
      go_cut [5] from 13 to 30 (fun s5 wx => ∃ j : Nat, j ≤ k ∧ s5 = .int .i64 j ∧ Gr wr wx ∧ (∀ z ∈ O.take j, le z [x, y] = true) ∧ (∀ z, O[j]? = some z → le z [x, y] = false))
      case first =>
        clear hpo
        go_wp2_with fail
        go_loopw [5] (fun v5 wi => ∃ j : Nat, j ≤ k ∧ v5 = .int .i64 j ∧ Gr wr wi ∧ (∀ z ∈ O.take j, le z [x, y] = true)) (fun v5 _ => 1001 - (intOf v5).toNat)
        case atStart => exact ⟨0, Nat.zero_le _, rfl, Gr.refl _, by simp⟩
        case round =>
          obtain ⟨j, hj, rfl, hgi, hall⟩ := hrel
          have hOl := HRO.out.1.1
          by_cases hjk : j < k
          · obtain ⟨bo, oo, u, v, rfl, hbo, eo, cu, cv, hu, hv⟩ := Ro.rows2_at (HRO.out.1.later hgi) hjk
            have hz : O[j]? = some [u, v] := by
              rw [List.getD_eq_getElem?_getD] at eo
              rw [List.getElem?_eq_getElem (by omega)] at eo ⊢
              simpa using eo
            have gx : ∀ z : GW wr, z.val.cell? ⟨b, off + k * 2, none⟩ = some (.int .i64 x) := fun z => ((hgi.trans z.gr).cell HBL.out).trans CX.out
            have gy : ∀ z : GW wr, z.val.cell? ⟨b, off + k * 2 + 1, none⟩ = some (.int .i64 y) := fun z => ((hgi.trans z.gr).cell HBL.out).trans CY.out
            have gu : ∀ z : GW wr, z.val.cell? ⟨bo, oo + j * 2, none⟩ = some (.int .i64 u) := fun z => (z.gr.cell hbo).trans cu
            have gv : ∀ z : GW wr, z.val.cell? ⟨bo, oo + j * 2 + 1, none⟩ = some (.int .i64 v) := fun z => (z.gr.cell hbo).trans cv
            have HGI := Lib.hid hgi; have HALL := Lib.hid hall; have HZ := Lib.hid hz
            clear eo cu cv hu hv hgi hall hz hOl
            go_wp2_with fail
            refine wp_region_gr (W := wr) (by kernel_rfl) (by kernel_rfl) (Gr.refl _) ?_
            repeat (go_big_quiet_step (fail))
            go_big_quiet_want; go_big_quiet_op
            go_big_quiet_call (exact Calls.cw (Fc.rcmp_any u v x y _))
            repeat (go_big_quiet_step (fail))
            refine wpQuiet_nil ?_
            rintro _ ⟨z, rfl⟩
            have hg3 := z.gr
            generalize z.val = w2 at *
            clear z gx gy gu gv
            have HG2 := Lib.hid (HGI.out.trans hg3); clear hg3
            by_cases hle : Sx.fcmp [u, v, x, y] ≤ 0
            · have hl1 : le [u, v] [x, y] = true := by rw [le_two]; simpa using hle
              have HL1 := Lib.hid hl1; clear hl1
              go_wp2
              go_roundw
              case rel =>
                refine ⟨j + 1, by omega, by go_num, HG2.out, fun z hz => ?_⟩
                have := HZ.out
                rw [List.take_add_one, this] at hz
                simp only [Option.toList, List.mem_append, List.mem_singleton] at hz
                rcases hz with hz | rfl
                · exact HALL.out z hz
                · exact HL1.out
              case measure => simp [intOf]; omega
            · have hl1 : le [u, v] [x, y] = false := by rw [le_two]; simpa using hle
              have HL1 := Lib.hid hl1; clear hl1
              go_wp2
              go_meet
              exact ⟨j, by omega, rfl, HG2.out, HALL.out, fun z hz => by rw [HZ.out] at hz; simp only [Option.some.injEq] at hz; subst hz; exact HL1.out⟩
          · have hjk' : j = k := by omega
            subst hjk'
            have HGI := Lib.hid hgi; have HALL := Lib.hid hall
            clear hgi hall
            go_wp2_with fail
            refine wp_region_gr (W := wr) (by kernel_rfl) (by kernel_rfl) (Gr.refl _) ?_
            repeat (go_big_quiet_step (fail))
            refine wpQuiet_nil ?_
            rintro _ ⟨z, rfl⟩
            have hg3 := z.gr
            generalize z.val = w2 at *
            clear z
            have HGI := Lib.hid (HGI.out.trans hg3); clear hg3
            go_wp2
            go_meet
            exact ⟨j, by omega, rfl, HGI.out, HALL.out, fun z hz => by rw [List.getElem?_eq_none (by omega)] at hz; cases hz⟩
      case rest =>
        obtain ⟨j, hj, rfl, hgx, hall, hnot⟩ := hcut
        have hins := So.ins_at le hall (by rw [HRO.out.1.1]; exact hj) hnot
        rw [← HST.out] at hins
        have hlO := HRO.out.1.1
        have cx := (hgx.cell (p := ⟨b, off + k * 2, none⟩) HBL.out).trans CX.out
        have cy := (hgx.cell (p := ⟨b, off + k * 2 + 1, none⟩) HBL.out).trans CY.out
        have rox := HRO.out.later hgx
        have HINS := Lib.hid hins; have HGX := Lib.hid (HG.out.trans hgx); have ROX := Lib.hid rox
        clear hall hnot hins hgx rox
        rcases hpo with ⟨rfl, rfl, rfl⟩ | ⟨bo, oo, rfl⟩
        · obtain rfl : j = 0 := by omega
          have hO : O = [] := List.eq_nil_of_length_eq_zero hlO
          subst hO
          simp only [Nat.zero_mul, Nat.add_zero] at cx cy
          go_wp2_with (at_builtin; refine wpList_append_own _ rfl _ _ 55 rfl wc.heap.size 54 i0 (.agg #[.int .i64 0, .int .i64 0]) 2 16 Try.underlying55 hi hz0 hz1 hz2 rfl (by decide) _ 0 [] rfl (World.ownsRow_nil _ _ _ _) ⟨wc.heap.size, 0, none⟩ 1 1 [.int .i64 x, .int .i64 y] rfl rfl (by intro t z ht; match t, ht with | 0, ht => simp at ht; subst ht; simp [Addr.add] | 1, ht => simp at ht; subst ht; simp [Addr.add]) (by intro z hz; simp at hz; rcases hz with rfl | rfl <;> rfl) (by unfold maxLen; omega) (by omega) (by simp <;> omega) ?_)
          intro v2 w2 hown2 hgrow2 hnil2
          obtain ⟨g2, cap2, rfl, hg0, hc2⟩ := own_some hown2 (by omega)
          have hg2 : Gr wc w2 := ((Gr.refl _).alloc _).trans ((Gr.refl _).grown hgrow2 (Nat.le_refl _) (fun k hk => by cases hk))
          have HOWN := Lib.hid hown2; have HG2 := Lib.hid hg2
          clear hown2 hgrow2 hnil2 hg2
          go_wp2_with fail
          have HROW' : Row2 w2 (some ⟨g2, 0, none⟩) 1 cap2 (So.isort le (zs.take (0 + 1))) := by
            obtain ⟨a4, cap4, e, hrow⟩ := row2_own (zs := So.isort le (zs.take (0 + 1))) (n := 0 + 1) (by rw [HINS.out]; simpa [fl] using HOWN.out) HLN.out (by omega) HM.out
            injection e with e1 e2 e3
            rw [e1, e3]; exact hrow
          have HROW := Lib.hid HROW'; have HGG := Lib.hid (HGX.out.trans HG2.out)
          clear HROW'
          go_wp2
          go_roundw
          case rel => exact ⟨1, _, cap2, by omega, rfl, rfl, HROW.out, HGG.out, .inr ⟨_, _, rfl⟩⟩
          case measure => simp [intOf]; omega
        · have hco := ROX.out.2.1
          have hj1 : (0 : Int) ≤ (j : Int) := by omega
          have hj2 : (j : Int) ≤ (co : Int) := by omega
          have hj3 : (j : Int) ≤ (k : Int) := by omega
          have ht := rows_take ROX.out.1 hj
          go_wp2_with (at_builtin; refine wpList_append_own _ rfl _ _ 55 rfl wc.heap.size 54 i0 (.agg #[.int .i64 0, .int .i64 0]) 2 16 Try.underlying55 hi hz0 hz1 hz2 rfl (by decide) _ 0 [] rfl (World.ownsRow_nil _ _ _ _) ⟨bo, oo, none⟩ j co (fl (O.take j)) rfl (rows_len ht) (rows_cells (by decide) ht _ rfl) fl_one (by unfold maxLen; omega) (by omega) (Nat.le_refl _) ?_)
          intro v1 w1 hown1 hgrow1 hnil1
          have hg1 : Gr wc w1 := (Gr.refl _).grown hgrow1 (Nat.le_refl _) (fun k hk => by cases hk)
          have cx1 := (hg1.cell (p := ⟨b, off + k * 2, none⟩) (lt_of_cell cx)).trans cx
          have cy1 := (hg1.cell (p := ⟨b, off + k * 2 + 1, none⟩) (lt_of_cell cy)).trans cy
          replace hown1 : w1.ownsRow wc.heap.size 54 2 v1 j (fl (O.take j)) := by simpa using hown1
          have HG1 := Lib.hid hg1; have OWN1 := Lib.hid hown1; have BASE1 := Lib.hid (own_base hown1)
          have hs1 := hg1.size
          clear cx cy hgrow1 hnil1 hg1 hown1 ht
          go_wp2_with (at_builtin; refine wpList_append_own _ rfl _ _ 55 rfl wc.heap.size 54 i0 (.agg #[.int .i64 0, .int .i64 0]) 2 16 Try.underlying55 hi hz0 hz1 hz2 rfl (by decide) _ j _ rfl (OWN1.out.alloc _) ⟨w1.heap.size, 0, none⟩ 1 1 [.int .i64 x, .int .i64 y] rfl rfl (by intro t z ht; match t, ht with | 0, ht => simp at ht; subst ht; simp [Addr.add] | 1, ht => simp at ht; subst ht; simp [Addr.add]) (by intro z hz; simp at hz; rcases hz with rfl | rfl <;> rfl) (by unfold maxLen; omega) (by omega) (by simp <;> omega) ?_)
          intro v2 w2 hown2 hgrow2 hnil2
          have hg2 : Gr wc w2 := (HG1.out.alloc (.cells #[.int .i64 x, .int .i64 y] 54)).grown hgrow2 (by simp <;> omega) (fun k hk => BASE1.out k hk)
          have ROX2 := Lib.hid (ROX.out.later hg2)
          have HG2 := Lib.hid hg2; have OWN2 := Lib.hid hown2; have BASE2 := Lib.hid (own_base hown2)
          have hs2 := hg2.size
          clear cx1 cy1 hgrow2 hnil2 hg2 hown2
          by_cases hcj : co = j
          · have hkj : k = j := by omega
            subst hcj
            subst hkj
            have hd0 : Oi.IsRows 2 w2 (some ⟨bo, oo, none⟩) 0 (O.drop k) := by have := rows_drop (ao := some ⟨bo, oo, none⟩) ROX2.out.1 (Nat.le_refl _) ROX2.out.2.1 (fun h => absurd rfl h); rwa [Nat.sub_self] at this
            have hd := Lib.hid hd0; clear hd0
            have hld := Lib.hid (rows_len hd.out)
            have hcd := Lib.hid (rows_cells (by decide) hd.out _ rfl)
            go_wp2_with (at_builtin; refine wpList_append_own _ rfl _ _ 55 rfl wc.heap.size 54 i0 (.agg #[.int .i64 0, .int .i64 0]) 2 16 Try.underlying55 hi hz0 hz1 hz2 rfl (by decide) _ (k + 1) _ rfl OWN2.out ⟨bo, oo, none⟩ 0 0 (fl (O.drop k)) rfl hld.out hcd.out fl_one (by unfold maxLen; omega) (by omega) (by omega) ?_)
            intro v3 w3 hown3 hgrow3 hnil3
            have hg3 : Gr wc w3 := (HG2.out).grown hgrow3 hs2 (fun k hk => BASE2.out k hk)
            obtain ⟨a4, cap4, rfl, hrow⟩ := row2_own (zs := So.isort le (zs.take (k + 1))) (n := k + 1) (by have := hown3; rw [show k + 1 + 0 = k + 1 by omega] at this; rw [HINS.out]; simpa [fl] using this) HLN.out (by omega) HM.out
            have e3 : k + 1 + 0 = k + 1 := by omega
            have hne : ∃ b o, a4 = some (⟨b, o, none⟩ : Addr) := by obtain ⟨b, o, e, _⟩ := hrow.1.2.2.2 (by omega); exact ⟨b, o, e⟩
            have HNE := Lib.hid hne; have HROW := Lib.hid hrow; have HGG := Lib.hid (HGX.out.trans hg3)
            clear hrow hne hown3 hgrow3 hnil3 hg3 e3
            go_wp2
            go_roundw
            case rel => exact ⟨k + 1, a4, cap4, by omega, by go_num, rfl, HROW.out, HGG.out, .inr HNE.out⟩
            case measure => simp [intOf]; omega
          · have hcj' := hcj
            have hd := Lib.hid (rows_drop (ao := some ⟨bo, oo + j * 2, none⟩) ROX2.out.1 hj ROX2.out.2.1 (fun _ => rfl))
            have hld := Lib.hid (rows_len hd.out)
            have hcd := Lib.hid (rows_cells (by decide) hd.out _ rfl)
            go_wp2_with (at_builtin; refine wpList_append_own _ rfl _ _ 55 rfl wc.heap.size 54 i0 (.agg #[.int .i64 0, .int .i64 0]) 2 16 Try.underlying55 hi hz0 hz1 hz2 rfl (by decide) _ (j + 1) _ rfl OWN2.out ⟨bo, oo + j * 2, none⟩ (k - j) (co - j) (fl (O.drop j)) rfl hld.out hcd.out fl_one (by unfold maxLen; omega) (by omega) (by omega) ?_)
            intro v3 w3 hown3 hgrow3 hnil3
            have hg3 : Gr wc w3 := (HG2.out).grown hgrow3 hs2 (fun k hk => BASE2.out k hk)
            obtain ⟨a4, cap4, rfl, hrow⟩ := row2_own (zs := So.isort le (zs.take (k + 1))) (n := k + 1) (by have := hown3; rw [show j + 1 + (k - j) = k + 1 by omega] at this; rw [HINS.out]; simpa [fl] using this) HLN.out (by omega) HM.out
            have e3 : j + 1 + (k - j) = k + 1 := by omega
            have hne : ∃ b o, a4 = some (⟨b, o, none⟩ : Addr) := by obtain ⟨b, o, e, _⟩ := hrow.1.2.2.2 (by omega); exact ⟨b, o, e⟩
            have HNE := Lib.hid hne; have HROW := Lib.hid hrow; have HGG := Lib.hid (HGX.out.trans hg3)
            clear hrow hne hown3 hgrow3 hnil3 hg3 e3
            go_wp2
            go_roundw
            case rel => exact ⟨k + 1, a4, cap4, by omega, by go_num, rfl, HROW.out, HGG.out, .inr HNE.out⟩
            case measure => simp [intOf]; omega
    · have hkl : k = len := by omega
      subst hkl
      have e : zs.take k = zs := List.take_of_length_le (by rw [HR.out.1.1]; exact Nat.le_refl _)
      rw [e] at ro
      have HRO := Lib.hid ro; have HG := Lib.hid hg; clear ro hg e hpo
      go_wp2
      go_ret
      exact ⟨po, co, rfl, HRO.out, HG.out⟩
end Fa
end Go.Proofs.Ytfpnkcmplmkghaa
