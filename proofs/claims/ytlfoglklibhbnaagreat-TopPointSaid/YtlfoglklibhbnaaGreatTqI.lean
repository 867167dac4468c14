/- Parts of the proof of TopPoint. No condition of their own. -/
import Derived.Test.YtlfoglklibhbnaaGreatTpC
import Derived.Test.YtlfoglklibhbnaaGreatTpK
import Derived.Test.YtlfoglklibhbnaaGreatTpL
import Derived.Test.YtlfoglklibhbnaaGreatTpM
import Derived.Deep.RegionHeld3
import Derived.Deep.DrawnRows
import Derived.Laws.Cover1
import Derived.Test.YtlfoglklibhbnaaGreatTpH
set_option linter.unusedVariables false
set_option linter.unusedSimpArgs false
namespace Go.Proofs.YtlfoglklibhbnaaGreat
open Go.RowKit Go.Shelf
attribute [local go_sem] Oper.semAt_some
namespace Mt
set_option maxHeartbeats 4000000 in
set_option maxRecDepth 100000 in
theorem box1_in (n l lb hb : Nat) (lx ly hx hy : Int) (X0 Y0 : Int) (nx ny : Nat) (S : Nat → Prop) (W : World) (J : Nat → World → Prop) (Jx : World → Prop)
    (hJ : ∀ k A B, J k A → Gr A B → J k B)
    (hY : ∀ k W1, k < nx * ny → J k W1 → YieldAt Fence.wide (n - 1) Tryz.prog l #[.int .i64 (X0 + (k % nx : Nat)), .int .i64 (Y0 + (k / nx : Nat))] W1 fun e W' => (e = .returned (.bool true) ∧ J (k + 1) W' ∧ Ks S W1 W') ∨ (e = .returned (.bool false) ∧ Jx W'))
    (b0 : 0 ≤ lx ∧ lx ≤ hx ∧ hx ≤ 4096) (b1 : 0 ≤ ly ∧ ly ≤ hy ∧ hy ≤ 4096) (eX : X0 = max (lx - 1) 0) (eY : Y0 = max (ly - 1) 0) (enx : X0 + nx = hx + 1) (eny : Y0 + ny = hy + 1)
    (hL : Bx W lb 38 [.int .i64 lx, .int .i64 ly]) (hH : Bx W hb 38 [.int .i64 hx, .int .i64 hy]) (hSl : ¬ S lb) (hSh : ¬ S hb) (h0 : J 0 W) :
    CallsIn Fence.wide n Tryz.prog 62 #[.func (.yield l) #[] #[], .pointer (some ⟨lb, 0, none⟩), .pointer (some ⟨hb, 0, none⟩)] W fun e W' => (∃ v, e = .returned v) ∧ (J (nx * ny) W' ∨ Jx W') := by
  refine callsIn_of_wp Tryz.func62 rfl trivial ?_ rfl
  simp only [Tryz.ntmps62, List.size_toArray, List.length_cons, List.length_nil, Nat.reduceAdd, Nat.reduceSub, Array.replicate_succ, Array.replicate_zero, List.push_toArray, List.append_toArray, List.nil_append, List.cons_append]
  have hnx : 1 ≤ nx := by omega
  have HY := Lib.hid hY; have HJ := Lib.hid hJ; have HL := Lib.hid hL; have HH := Lib.hid hH; have H0 := Lib.hid h0; have HSL := Lib.hid hSl; have HSH := Lib.hid hSh
  have EX := Lib.hid eX; have EY := Lib.hid eY; have ENX := Lib.hid enx; have ENY := Lib.hid eny
  have mX : (if lx - 1 < 0 then 0 else lx - 1) = X0 := by rw [eX]; split <;> omega
  have mY : (if ly - 1 < 0 then 0 else ly - 1) = Y0 := by rw [eY]; split <;> omega
  have c1 := hL.blk.cell 1 rfl
  clear hY hJ hL hH h0 hSl hSh eX eY enx eny
  gi_wp2
  gi_loopw [4] (fun v4 wr => ∃ (j : Nat) (y : Int), y = Y0 + (j : Nat) ∧ j ≤ ny ∧ v4 = .int .i64 y ∧ Bx wr lb 38 [.int .i64 lx, .int .i64 ly] ∧ Bx wr hb 38 [.int .i64 hx, .int .i64 hy] ∧ J (j * nx) wr) (fun v4 _ => (hy + 1 - intOf v4).toNat)
  case atStart => exact ⟨0, Y0, by simp, Nat.zero_le _, rfl, HL.out, HH.out, by rw [Nat.zero_mul]; exact H0.out⟩
  case round =>
    clear HL HH H0 c1
    obtain ⟨j, y, hyj, hj, rfl, hl, hh, hjk⟩ := hrel
    by_cases hlt : j < ny
    · have y1 : decide (y ≤ hy) = true := by have := ENY.out; simp; omega
      have y2 : 0 ≤ y ∧ y ≤ 4096 := by have := ENY.out; have := EY.out; omega
      have c0 := hl.blk.cell 0 rfl; have c1 := hh.blk.cell 1 rfl
      have HL := Lib.hid hl; have HH := Lib.hid hh; have HJK := Lib.hid hjk; have HYJ := Lib.hid hyj
      clear hl hh hjk hyj
      gi_wp2
      gi_loopw [5] (fun v5 wi => ∃ (i : Nat) (x : Int), x = X0 + (i : Nat) ∧ i ≤ nx ∧ v5 = .int .i64 x ∧ Bx wi lb 38 [.int .i64 lx, .int .i64 ly] ∧ Bx wi hb 38 [.int .i64 hx, .int .i64 hy] ∧ J (j * nx + i) wi) (fun v5 _ => (hx + 1 - intOf v5).toNat)
      case atStart => exact ⟨0, X0, by simp, Nat.zero_le _, rfl, HL.out, HH.out, HJK.out⟩
      case round =>
        clear HL HH HJK c0 c1
        obtain ⟨i, x, hxi, hi, rfl, hl, hh, hjk⟩ := hrel
        by_cases hlt2 : i < nx
        · have x1 : decide (x ≤ hx) = true := by have := ENX.out; simp; omega
          have x2 : 0 ≤ x ∧ x ≤ 4096 := by have := ENX.out; have := EX.out; omega
          have hkk : j * nx + i < nx * ny := by
            have h1 : (j + 1) * nx ≤ ny * nx := Nat.mul_le_mul_right _ (by omega)
            rw [Nat.add_mul, Nat.mul_comm ny nx] at h1; omega
          obtain ⟨fn, tmps, assign, body, hy', hR⟩ := HY.out (j * nx + i) wr hkk hjk
          have e1 : (j * nx + i) % nx = i := by rw [Nat.add_comm, Nat.add_mul_mod_self_right, Nat.mod_eq_of_lt hlt2]
          have e2 : (j * nx + i) / nx = j := by rw [Nat.add_comm, Nat.add_mul_div_right _ _ (by omega), Nat.div_eq_of_lt hlt2, Nat.zero_add]
          rw [e1, e2, ← hxi, ← HYJ.out] at hy'
          have c0 := hl.blk.cell 0 rfl; have c1 := hh.blk.cell 0 rfl
          have HL := Lib.hid hl; have HH := Lib.hid hh; have HXI := Lib.hid hxi
          clear hl hh hjk hxi e1 e2
          gi_wp2
          refine ⟨(fun h => by cases h), ?_⟩
          refine hR.mono ?_
          rintro e W3 (⟨rfl, hJ3, hk3⟩ | ⟨rfl, hJx3⟩)
          · have H1 := Lib.hid (HL.out.ks hk3 HSL.out); have H2 := Lib.hid (HH.out.ks hk3 HSH.out); have H3 := Lib.hid hJ3
            clear hy' hR c0 c1 hJ3 hk3
            gi_wp2
            go_roundw
            case rel => exact ⟨i + 1, x + 1, by have := HXI.out; omega, by omega, rfl, H1.out, H2.out, H3.out⟩
            case measure => simp [intOf]; have := ENX.out; have := HXI.out; omega
          · clear hy' hR
            gi_wp2
            refine bodyPost_ret (results_none rfl _ _ _) rfl ?_
            exact ⟨⟨_, rfl⟩, .inr hJx3⟩
        · have hin : i = nx := by omega
          have x1 : decide (x ≤ hx) = false := by have := ENX.out; simp; omega
          subst hin
          have c1 := hh.blk.cell 0 rfl
          have HL := Lib.hid hl; have HH := Lib.hid hh; have HJK := Lib.hid hjk
          clear hl hh hjk hxi
          gi_wp2
          go_roundw
          case rel => exact ⟨j + 1, y + 1, by have := HYJ.out; omega, by omega, rfl, HL.out, HH.out, by rw [Nat.add_mul, Nat.one_mul]; exact HJK.out⟩
          case measure => simp [intOf]; have := ENY.out; have := HYJ.out; omega
    · have hjn : j = ny := by omega
      have y1 : decide (y ≤ hy) = false := by have := ENY.out; simp; omega
      subst hjn
      have c1 := hh.blk.cell 1 rfl
      have HJK := Lib.hid hjk
      clear hl hh hjk hyj
      gi_wp2
      go_end0
      exact ⟨⟨_, rfl⟩, .inl (by rw [Nat.mul_comm]; exact HJK.out)⟩
end Mt
end Go.Proofs.YtlfoglklibhbnaaGreat
namespace Go.Proofs.YtlfoglklibhbnaaGreat
open Go.RowKit
namespace Mt
attribute [local go_sem ↓] Go.wp_at_zero Go.wp_at_succ
def mn3 (a b c : Int) : Int := min (min a b) c
def mx3 (a b c : Int) : Int := max (max a b) c
theorem mn3_if (x y z : Int) : (if z < (if y < x then y else x) then z else (if y < x then y else x)) = mn3 x y z := by unfold mn3; split <;> split at * <;> omega
theorem mx3_if (x y z : Int) : (if (if x < y then y else x) < z then z else (if x < y then y else x)) = mx3 x y z := by unfold mx3; split <;> split at * <;> omega
set_option maxHeartbeats 4000000 in
set_option maxRecDepth 100000 in
theorem box_any_ra (t0 t1 t2 t3 t4 t5 : Int) (h0 : 0 ≤ t0 ∧ t0 ≤ 4096) (h1 : 0 ≤ t1 ∧ t1 ≤ 4096) (h2 : 0 ≤ t2 ∧ t2 ≤ 4096) (h3 : 0 ≤ t3 ∧ t3 ≤ 4096) (h4 : 0 ≤ t4 ∧ t4 ≤ 4096) (h5 : 0 ≤ t5 ∧ t5 ≤ 4096) (w : World) :
    Calls Tryz.prog 33 #[.agg #[.int .i64 t0, .int .i64 t1, .int .i64 t2, .int .i64 t3, .int .i64 t4, .int .i64 t5]] w fun e w' => e = .returned (.func (.func 62) #[] #[.pointer (some ⟨w.heap.size + 1, 0, none⟩), .pointer (some ⟨w.heap.size + 2, 0, none⟩)]) ∧
      Bx w' (w.heap.size + 1) 38 [.int .i64 (mn3 t0 t2 t4 / 16), .int .i64 (mn3 t1 t3 t5 / 16)] ∧ Bx w' (w.heap.size + 2) 38 [.int .i64 (mx3 t0 t2 t4 / 16), .int .i64 (mx3 t1 t3 t5 / 16)] ∧ Gr w w' := by
  have e1 := mn3_if t0 t2 t4; have e2 := mn3_if t1 t3 t5; have e3 := mx3_if t0 t2 t4; have e4 := mx3_if t1 t3 t5
  have b1 : 0 ≤ mn3 t0 t2 t4 ∧ mn3 t0 t2 t4 ≤ 4096 := by unfold mn3; omega
  have b2 : 0 ≤ mn3 t1 t3 t5 ∧ mn3 t1 t3 t5 ≤ 4096 := by unfold mn3; omega
  have b3 : 0 ≤ mx3 t0 t2 t4 ∧ mx3 t0 t2 t4 ≤ 4096 := by unfold mx3; omega
  have b4 : 0 ≤ mx3 t1 t3 t5 ∧ mx3 t1 t3 t5 ≤ 4096 := by unfold mx3; omega
  clear h0 h1 h2 h3 h4 h5
  generalize mn3 t0 t2 t4 = m0 at *
  generalize mn3 t1 t3 t5 = m1 at *
  generalize mx3 t0 t2 t4 = x0 at *
  generalize mx3 t1 t3 t5 = x1 at *
  have q1 : m0.tdiv 16 = m0 / 16 := Int.tdiv_eq_ediv_of_nonneg b1.1
  have q2 : m1.tdiv 16 = m1 / 16 := Int.tdiv_eq_ediv_of_nonneg b2.1
  have q3 : x0.tdiv 16 = x0 / 16 := Int.tdiv_eq_ediv_of_nonneg b3.1
  have q4 : x1.tdiv 16 = x1 / 16 := Int.tdiv_eq_ediv_of_nonneg b4.1
  have w1 : IntKind.i64.wrap (m0 / 16) = m0 / 16 := IntWalk.i64_in _ (by omega)
  have w2 : IntKind.i64.wrap (m1 / 16) = m1 / 16 := IntWalk.i64_in _ (by omega)
  have w3 : IntKind.i64.wrap (x0 / 16) = x0 / 16 := IntWalk.i64_in _ (by omega)
  have w4 : IntKind.i64.wrap (x1 / 16) = x1 / 16 := IntWalk.i64_in _ (by omega)
  have hB : Blk (w.alloc (.cells #[.int .i64 t0, .int .i64 t1, .int .i64 t2, .int .i64 t3, .int .i64 t4, .int .i64 t5] 39)) w.heap.size [.int .i64 t0, .int .i64 t1, .int .i64 t2, .int .i64 t3, .int .i64 t4, .int .i64 t5] := Blk.new rfl
  have hmf : ∀ (fn : Fn) (first cap : Array Value) (w : World), (Instr.makeFunc fn first cap).run Tryz.prog w = .ok (.func fn first cap) w := fun _ _ _ _ => rfl
  go_enter Tryz.func33, Tryz.ntmps33
  go_wp2_with fail
  go_ret
  refine ⟨rfl, ?_, ?_, ?_⟩
  · exact (Bx.new (vs := [.int .i64 (m0 / 16), .int .i64 (m1 / 16)]) (by simp)).alloc _
  · exact Bx.new (vs := [.int .i64 (x0 / 16), .int .i64 (x1 / 16)]) (by simp)
  · exact (((Gr.refl w).alloc _).alloc _).alloc _
end Mt
end Go.Proofs.YtlfoglklibhbnaaGreat
namespace Go.Proofs.YtlfoglklibhbnaaGreat
open Go.RowKit
namespace Mt
open Ro
def oddB (W H x y : Int) : Bool := decide (min x y < 0) || (decide (16 * W ≤ x) || decide (16 * H ≤ y))
def oddZ (W H : Int) (z : List Int) : Bool := oddB W H (z.getD 0 0) (z.getD 1 0)
set_option maxHeartbeats 2000000 in
set_option maxRecDepth 100000 in
theorem odd_any_ra (W H x y : Int) (hW : 0 ≤ W ∧ W ≤ 256) (hH : 0 ≤ H ∧ H ≤ 256) (bw bh : Nat) (w : World) (hw : Bx w bw 3 [.int .i64 W]) (hh : Bx w bh 3 [.int .i64 H]) :
    Calls Tryz.prog 30 #[.agg #[.int .i64 x, .int .i64 y], .pointer (some ⟨bw, 0, none⟩), .pointer (some ⟨bh, 0, none⟩)] w fun e w' => e = .returned (.bool (oddB W H x y)) ∧ Gr w w' := by
  have e0 : (if y < x then y else x) = min x y := by split <;> omega
  have c1 : ∀ o, (w.alloc o).cell? ⟨bw, 0, none⟩ = some (.int .i64 W) := fun o => (hw.alloc o).blk.cell 0 rfl
  have c2 : ∀ o, (w.alloc o).cell? ⟨bh, 0, none⟩ = some (.int .i64 H) := fun o => (hh.alloc o).blk.cell 0 rfl
  have l1 := hw.lt; have l2 := hh.lt
  have u1 : IntKind.i64.wrap (16 * W) = 16 * W := IntWalk.i64_in _ (by omega)
  have u2 : IntKind.i64.wrap (16 * H) = 16 * H := IntWalk.i64_in _ (by omega)
  unfold oddB
  generalize min x y = m at *
  generalize hA : decide (m < 0) = A
  generalize hB : decide (16 * W ≤ x) = B
  generalize hC : decide (16 * H ≤ y) = C
  clear hw hh hW hH
  cases A <;> cases B <;> cases C
  all_goals
    go_enter Tryz.func30, Tryz.ntmps30
    go_wp2_with fail
    first
      | (go_ret; exact ⟨rfl, (Gr.refl w).alloc _⟩)
      | (refine wp_region_quiet_lit (by kernel_rfl) (by kernel_rfl) ?_
         repeat (go_big_quiet_step (fail))
         refine wpQuiet_nil ?_
         rintro _ ⟨n', rfl⟩
         go_wp2_with fail
         go_ret
         exact ⟨rfl, ((Gr.refl w).alloc _).dn _⟩)
set_option maxHeartbeats 2000000 in
set_option maxRecDepth 100000 in
theorem index_any_ra (W H : Int) (hW : 0 ≤ W ∧ W ≤ 256) (hH : 0 ≤ H ∧ H ≤ 256) (bw bh : Nat) (w : World) (hw : Bx w bw 3 [.int .i64 W]) (hh : Bx w bh 3 [.int .i64 H])
    (a : Option Addr) (len cap : Nat) (zs : List (List Int)) (hr : Oi.IsRows 2 w a len zs) (hl : len ≤ 1000) :
    Calls Tryz.prog 61 #[.slice a len cap, .func (.func 30) #[] #[.pointer (some ⟨bw, 0, none⟩), .pointer (some ⟨bh, 0, none⟩)]] w fun e w' => ∃ r : Int, e = .returned (.int .i64 r) ∧ -1 ≤ r ∧ (decide (0 ≤ r) = zs.any (oddZ W H)) ∧ Gr w w' := by
  have HR := Lib.hid hr; have HW := Lib.hid hw; have HH := Lib.hid hh
  have hlen := hr.1
  clear hr hw hh
  go_enter Tryz.func61, Tryz.ntmps61
  go_wp2_with fail
  go_loopw [8] (fun i wr => ∃ k : Nat, k ≤ len ∧ i = .int .i64 k ∧ (∀ j, j < k → oddZ W H (zs.getD j []) = false) ∧ Gr w wr) (fun i _ => len - (intOf i).toNat)
  case atStart => exact ⟨0, Nat.zero_le _, rfl, fun j h => absurd h (by omega), Gr.refl _⟩
  case round =>
    obtain ⟨k, hk, rfl, hall, hg⟩ := hrel
    by_cases hlt : k < len
    · obtain ⟨b, off, x, y, rfl, hbl, ez, cx, cy, hx, hy⟩ := Ro.rows2_at (HR.out.later hg) hlt
      have ho : oddZ W H (zs.getD k []) = oddB W H x y := by rw [ez]; rfl
      have HO := Lib.hid ho; have HG := Lib.hid hg; have HA := Lib.hid hall
      have hwx := HW.out.gr hg; have hhx := HH.out.gr hg
      have HWX := Lib.hid hwx; have HHX := Lib.hid hhx
      clear ez hx hy hg ho hall hwx hhx
      have hk1 : (0 : Int) ≤ (k : Int) := by omega
      go_wp2_with fail
      refine (odd_any_ra W H x y hW hH bw bh _ HWX.out HHX.out).mono ?_
      rintro e w1 ⟨rfl, hg1⟩
      have HG1 := Lib.hid (HG.out.trans hg1)
      clear hg1
      cases hb : oddB W H x y
      · go_wp2_with fail
        go_roundw
        case rel =>
          refine ⟨k + 1, by omega, by go_num, fun j hj => ?_, HG1.out⟩
          by_cases e : j = k
          · rw [e, HO.out, hb]
          · exact HA.out j (by omega)
        case measure => simp [intOf]; omega
      · go_wp2_with fail
        go_ret
        refine ⟨(k : Int), rfl, by omega, ?_, HG1.out⟩
        have h1 : zs.any (oddZ W H) = true := by
          rw [List.any_eq_true]
          refine ⟨zs.getD k [], ?_, by rw [HO.out, hb]⟩
          rw [List.getD_eq_getElem?_getD, List.getElem?_eq_getElem (by omega)]
          exact List.getElem_mem _
        rw [h1]; simp
    · have HA := Lib.hid hall; have HG := Lib.hid hg
      clear hall hg
      go_wp2_with fail
      go_ret
      refine ⟨-1, rfl, by omega, ?_, HG.out⟩
      have h1 : zs.any (oddZ W H) = false := by
        rw [List.any_eq_false]
        intro z hz
        obtain ⟨j, hj⟩ := List.getElem?_of_mem hz
        have hjl : j < zs.length := (List.getElem?_eq_some_iff.1 hj).1
        have := HA.out j (by omega)
        rw [List.getD_eq_getElem?_getD, hj] at this
        simpa using this
      rw [h1]; simp
set_option maxHeartbeats 2000000 in
theorem contains_any_ra (W H : Int) (hW : 0 ≤ W ∧ W ≤ 256) (hH : 0 ≤ H ∧ H ≤ 256) (bw bh : Nat) (w : World) (hw : Bx w bw 3 [.int .i64 W]) (hh : Bx w bh 3 [.int .i64 H])
    (a : Option Addr) (len cap : Nat) (zs : List (List Int)) (hr : Oi.IsRows 2 w a len zs) (hl : len ≤ 1000) :
    Calls Tryz.prog 31 #[.slice a len cap, .func (.func 30) #[] #[.pointer (some ⟨bw, 0, none⟩), .pointer (some ⟨bh, 0, none⟩)]] w fun e w' => e = .returned (.bool (zs.any (oddZ W H))) ∧ Gr w w' := by
  have hx := index_any_ra W H hW hH bw bh w hw hh a len cap zs hr hl
  generalize zs.any (oddZ W H) = A at hx ⊢
  have HX := Lib.hid hx
  clear hx hr hw hh hW hH
  go_enter Tryz.func31, Tryz.ntmps31
  go_wp2_with fail
  refine (HX.out).mono ?_
  rintro e w1 ⟨r, rfl, hr1, hr2, hg1⟩
  have HG1 := Lib.hid hg1
  clear hg1 HX
  go_wp2_with fail
  go_ret
  exact ⟨rfl, HG1.out⟩
end Mt
end Go.Proofs.YtlfoglklibhbnaaGreat
