/- Texts that stood alone before, in one. -/
import Derived.Test.YtfkgjpdipdllhaaRQ3
import Derived.Test.YtfkgjpdipdllhaaRX1
import Derived.Test.YtfkgjpdipdllhaaRX2
/- Chapter 19: the reference's inside, walked. -/
set_option linter.unusedVariables false
set_option linter.unusedSimpArgs false
namespace Go.Proofs.Ytfkgjpdipdllhaa
open Go.RowKit
namespace Mt
open Ro
theorem rright_any (t0 t1 t2 t3 t4 t5 : Int) (w : World) : Calls Try.prog 27 #[.agg #[.int .i64 t0, .int .i64 t1, .int .i64 t2, .int .i64 t3, .int .i64 t4, .int .i64 t5]] w
    fun e w' => e = .returned (.bool (Sx.rgt [t0, t1, t2, t3, t4, t5])) ∧ Gr w w' :=
  Sx.flat_run (Sx.c_rright10 w) rfl [t0, t1, t2, t3, t4, t5] rfl trivial
def oddZ' (k : Nat) (z : List Int) : Int × Int := (z.getD (2 * k) 0, z.getD (2 * k + 1) 0)
theorem corner_at (t0 t1 t2 t3 t4 t5 : Int) {k : Nat} (hk : k < 3) : ∃ x y : Int, oddZ' k [t0, t1, t2, t3, t4, t5] = (x, y) ∧ ([Value.int .i64 t0, .int .i64 t1, .int .i64 t2, .int .i64 t3, .int .i64 t4, .int .i64 t5] : List Value)[k * 2]? = some (.int .i64 x) ∧ ([Value.int .i64 t0, .int .i64 t1, .int .i64 t2, .int .i64 t3, .int .i64 t4, .int .i64 t5] : List Value)[k * 2 + 1]? = some (.int .i64 y) := by
  match k, hk with
  | 0, _ => exact ⟨t0, t1, rfl, rfl, rfl⟩
  | 1, _ => exact ⟨t2, t3, rfl, rfl, rfl⟩
  | 2, _ => exact ⟨t4, t5, rfl, rfl, rfl⟩
theorem bad_iff (W H t0 t1 t2 t3 t4 t5 : Int) : badT W H [t0, t1, t2, t3, t4, t5] = ((oddB W H t0 t1 || (oddB W H t2 t3 || oddB W H t4 t5)) || !Sx.rgt [t0, t1, t2, t3, t4, t5]) := rfl
theorem odd_yes {W H t0 t1 t2 t3 t4 t5 x y : Int} {k : Nat} (hk : k < 3) (he : oddZ' k [t0, t1, t2, t3, t4, t5] = (x, y)) (h : oddB W H x y = true) : (oddB W H t0 t1 || (oddB W H t2 t3 || oddB W H t4 t5)) = true := by
  match k, hk with
  | 0, _ => obtain ⟨rfl, rfl⟩ := Prod.mk.inj he; change oddB W H t0 t1 = true at h; rw [h]; rfl
  | 1, _ => obtain ⟨rfl, rfl⟩ := Prod.mk.inj he; change oddB W H t2 t3 = true at h; rw [h]; simp
  | 2, _ => obtain ⟨rfl, rfl⟩ := Prod.mk.inj he; change oddB W H t4 t5 = true at h; rw [h]; simp
theorem odd_no {W H t0 t1 t2 t3 t4 t5 : Int} (h : ∀ k, k < 3 → oddB W H (oddZ' k [t0, t1, t2, t3, t4, t5]).1 (oddZ' k [t0, t1, t2, t3, t4, t5]).2 = false) : (oddB W H t0 t1 || (oddB W H t2 t3 || oddB W H t4 t5)) = false := by
  have h0 : oddB W H t0 t1 = false := h 0 (by omega)
  have h1 : oddB W H t2 t3 = false := h 1 (by omega)
  have h2 : oddB W H t4 t5 = false := h 2 (by omega)
  rw [h0, h1, h2]; rfl
set_option maxHeartbeats 4000000 in
set_option maxRecDepth 100000 in
theorem inside_any (W H t0 t1 t2 t3 t4 t5 : Int) (hW : 0 ≤ W ∧ W ≤ 256) (hH : 0 ≤ H ∧ H ≤ 256) (w : World) :
    Calls Try.prog 25 #[.int .i64 W, .int .i64 H, .agg #[.int .i64 t0, .int .i64 t1, .int .i64 t2, .int .i64 t3, .int .i64 t4, .int .i64 t5]] w fun e w' => e = .returned (.bool (!badT W H [t0, t1, t2, t3, t4, t5])) ∧ Gr w w' := by
  have u1 : IntKind.i64.wrap (16 * W) = 16 * W := IntWalk.i64_in _ (by omega)
  have u2 : IntKind.i64.wrap (16 * H) = 16 * H := IntWalk.i64_in _ (by omega)
  have hB : Blk (w.alloc (.cells #[.int .i64 t0, .int .i64 t1, .int .i64 t2, .int .i64 t3, .int .i64 t4, .int .i64 t5] 36)) w.heap.size [.int .i64 t0, .int .i64 t1, .int .i64 t2, .int .i64 t3, .int .i64 t4, .int .i64 t5] := Blk.new rfl
  have hg0 : Gr w (w.alloc (.cells #[.int .i64 t0, .int .i64 t1, .int .i64 t2, .int .i64 t3, .int .i64 t4, .int .i64 t5] 36)) := (Gr.refl w).alloc _
  have HB := Lib.hid hB; have HG := Lib.hid hg0
  clear hB hg0
  go_enter Try.func25, Try.ntmps25
  go_wp2_with fail
  obtain ⟨V, hV⟩ : ∃ V, w.alloc (.cells #[.int .i64 t0, .int .i64 t1, .int .i64 t2, .int .i64 t3, .int .i64 t4, .int .i64 t5] 36) = V := ⟨_, rfl⟩
  rw [hV] at HB HG
  try rw [hV]
  clear hV
  go_loopw [7] (fun v7 wr => ∃ k : Nat, k ≤ 3 ∧ v7 = .int .i64 k ∧ (∀ j, j < k → oddB W H (oddZ' j [t0, t1, t2, t3, t4, t5]).1 (oddZ' j [t0, t1, t2, t3, t4, t5]).2 = false) ∧ V = wr) (fun v7 _ => 3 - (intOf v7).toNat)
  case atStart => exact ⟨0, Nat.zero_le _, rfl, fun j h => absurd h (by omega), by first | rfl | trivial⟩
  case round =>
    obtain ⟨k, hk, rfl, hall, rfl⟩ := hrel
    have HA := Lib.hid hall
    clear hall
    by_cases hlt : k < 3
    · obtain ⟨x, y, he, g0, g1⟩ := corner_at t0 t1 t2 t3 t4 t5 hlt
      have c0 := HB.out.cell _ g0
      have c1 := HB.out.cell _ g1
      have lb := HB.out.1
      have HE := Lib.hid he
      have hk0 : (0 : Int) ≤ (k : Int) := by omega
      clear g0 g1 he
      by_cases o : oddB W H x y = true
      · have HO := Lib.hid (odd_yes hlt HE.out o)
        unfold oddB at o
        have hd : (decide (x < 0) = true) ∨ (decide (x < 0) = false ∧ decide (16 * W ≤ x) = true) ∨ (decide (x < 0) = false ∧ decide (16 * W ≤ x) = false ∧ decide (y < 0) = true) ∨ (decide (x < 0) = false ∧ decide (16 * W ≤ x) = false ∧ decide (y < 0) = false ∧ decide (16 * H ≤ y) = true) := by
          simp at o ⊢; omega
        clear o
        rcases hd with d1 | ⟨d1, d2⟩ | ⟨d1, d2, d3⟩ | ⟨d1, d2, d3, d4⟩
        all_goals
          go_wp2_with fail
          go_ret
          exact ⟨by rw [bad_iff, HO.out]; rfl, HG.out⟩
      · have o' : oddB W H x y = false := by simpa using o
        have HO := Lib.hid o'
        have hd : decide (x < 0) = false ∧ decide (16 * W ≤ x) = false ∧ decide (y < 0) = false ∧ decide (16 * H ≤ y) = false := by
          unfold oddB at o'
          simp at o' ⊢; omega
        obtain ⟨d1, d2, d3, d4⟩ := hd
        clear o o'
        go_wp2_with fail
        go_roundw
        case rel =>
          refine ⟨k + 1, by omega, by go_num, fun j hj => ?_, by first | rfl | trivial⟩
          by_cases e : j = k
          · subst e; rw [HE.out]; exact HO.out
          · exact HA.out j (by omega)
        case measure => simp [intOf]; omega
    · have hk3 : k = 3 := by omega
      subst hk3
      have HN := Lib.hid (odd_no HA.out)
      have lb := HB.out.1
      have c0 := HB.out.cell 0 rfl; have c1 := HB.out.cell 1 rfl; have c2 := HB.out.cell 2 rfl; have c3 := HB.out.cell 3 rfl; have c4 := HB.out.cell 4 rfl; have c5 := HB.out.cell 5 rfl
      go_wp2_with fail
      refine (rright_any t0 t1 t2 t3 t4 t5 _).mono ?_
      rintro e w2 ⟨rfl, hg2⟩
      have HG2 := Lib.hid (HG.out.trans hg2)
      clear hg2 c0 c1 c2 c3 c4 c5
      go_wp2_with fail
      go_ret
      exact ⟨by rw [bad_iff, HN.out]; simp, HG2.out⟩
end Mt
end Go.Proofs.Ytfkgjpdipdllhaa
/- Chapter 19: the reference's Owners, walked. -/
set_option linter.unusedVariables false
set_option linter.unusedSimpArgs false
namespace Go.Proofs.Ytfkgjpdipdllhaa
open Go.RowKit
namespace Mt
open Ro
theorem rcovers_raw (x y t0 t1 t2 t3 t4 t5 : Int) (w : World) : Calls Try.prog 17 #[.int .i64 x, .int .i64 y, .agg #[.int .i64 t0, .int .i64 t1, .int .i64 t2, .int .i64 t3, .int .i64 t4, .int .i64 t5]] w fun e w' => e = .returned (.tuple #[.bool (cov [t0, t1, t2, t3, t4, t5] x y), .int .i64 (Sx.fi 66 0 [x, y, t0, t1, t2, t3, t4, t5])]) ∧ Gr w w' :=
  Sx.flat_run (Sx.c_rcov w) rfl [x, y, t0, t1, t2, t3, t4, t5] rfl trivial
def outP (zs : List (List Int)) (wn m n : Nat) : List Int := (List.range m).map fun at_ => owN zs (at_ % wn : Nat) (at_ / wn : Nat) n
theorem outP_len (zs : List (List Int)) (wn m n : Nat) : (outP zs wn m n).length = m := by simp [outP]
theorem outP_succ (zs : List (List Int)) (wn n x y : Nat) (hx : x < wn) : outP zs wn (y * wn + x + 1) n = outP zs wn (y * wn + x) n ++ [owN zs (x : Int) (y : Int) n] := by
  have e1 : (y * wn + x) % wn = x := by rw [Nat.add_comm, Nat.add_mul_mod_self_right, Nat.mod_eq_of_lt hx]
  have e2 : (y * wn + x) / wn = y := by rw [Nat.add_comm, Nat.add_mul_div_right _ _ (by omega), Nat.div_eq_of_lt hx, Nat.zero_add]
  unfold outP
  rw [List.range_succ, List.map_append, List.map_cons, List.map_nil, e1, e2]
theorem owN_stay {zs : List (List Int)} {x y : Int} {i : Nat} (h : owN zs x y i ≠ -1) : ∀ n, i ≤ n → owN zs x y n = owN zs x y i
  | 0, hn => by rw [show i = 0 by omega]
  | n + 1, hn => by
    by_cases e : i = n + 1
    · rw [e]
    · have ih := owN_stay h n (by omega)
      simp only [owN]
      rw [ih, if_neg (fun hh => h hh.1)]
theorem outP_I (zs : List (List Int)) (wn m n : Nat) (hn : n ≤ 1000000) : ∀ x ∈ outP zs wn m n, (Lit.int .i64 x).wf = true := by
  intro x hx
  unfold outP at hx
  rw [List.mem_map] at hx
  obtain ⟨j, _, rfl⟩ := hx
  have := owN_bd zs (j % wn : Nat) (j / wn : Nat) n
  exact wf_of_I ⟨by omega, by omega⟩
theorem own_gr {w w' : World} {base : Nat} {e : TypeId} {size : Nat} {v : Value} {n : Nat} {xs : List Value} (h : w.ownsRow base e size v n xs) (hg : Gr w w') : w'.ownsRow base e size v n xs :=
  own_ks h (Ks.of_gr (S := fun _ => False) hg) (fun k h => h.elim)
set_option maxHeartbeats 8000000 in
set_option maxRecDepth 100000 in
theorem rowners_any (W H : Int) (a : Option Addr) (len cap : Nat) (zs : List (List Int)) (w : World) (hr : Oi.IsRows 6 w a len zs) (hl : len ≤ 1000) :
    Calls Try.prog 10 #[.int .i64 W, .int .i64 H, .slice a len cap] w fun e w' => ∃ a' cap', e = .returned (.tuple #[.slice a' (owL W H zs).length cap', .int .i64 (owE W H zs)]) ∧ IsRow .i64 w' a' (owL W H zs).length (owL W H zs) ∧ Gr w w' := by
  obtain ⟨i0, hi, hz0, hz1, hz2⟩ := info_parts Ow.infoInt
  have hzl := hr.1
  have HR := Lib.hid hr
  clear hr
  by_cases hs : sizB W H = true
  · have hs' := hs
    unfold sizB at hs'
    simp only [Bool.and_eq_true, decide_eq_true_eq] at hs'
    have hWb : 1 ≤ W ∧ W ≤ 256 ∧ 1 ≤ H ∧ H ≤ 256 := by omega
    clear hs'
    have d1 : decide (W < 1) = false := by simp; omega
    have d2 : decide (256 < W) = false := by simp; omega
    have d3 : decide (H < 1) = false := by simp; omega
    have d4 : decide (256 < H) = false := by simp; omega
    go_enter Try.func10, Try.ntmps10
    go_wp2_with fail
    clear d1 d2 d3 d4
    go_loopw [8] (fun v8 wr => ∃ k : Nat, k ≤ len ∧ v8 = .int .i64 k ∧ (∀ j, j < k → badT W H (zs.getD j []) = false) ∧ Gr w wr) (fun v8 _ => len - (intOf v8).toNat)
    case atStart => exact ⟨0, Nat.zero_le _, rfl, fun j h => absurd h (by omega), Gr.refl _⟩
    case round =>
      obtain ⟨k, hk, rfl, hall, hg⟩ := hrel
      have HG := Lib.hid hg; have HA := Lib.hid hall
      clear hg hall
      by_cases hlt : k < len
      · obtain ⟨b, off, t0, t1, t2, t3, t4, t5, rfl, hbl, ez, c0, c1, c2, c3, c4, c5⟩ := rows6_at (HR.out.later HG.out) hlt
        have EZ := Lib.hid ez
        have hk1 : (0 : Int) ≤ (k : Int) := by omega
        clear ez
        go_wp2_with fail
        refine (inside_any W H t0 t1 t2 t3 t4 t5 (by omega) (by omega) _).mono ?_
        rintro e w1 ⟨rfl, hg1⟩
        have HG1 := Lib.hid (HG.out.trans hg1)
        clear c0 c1 c2 c3 c4 c5 hg1
        cases hb : badT W H [t0, t1, t2, t3, t4, t5]
        · rw [Bool.not_false]
          go_wp2_with fail
          go_roundw
          case rel =>
            refine ⟨k + 1, by omega, by go_num, fun j hj => ?_, HG1.out⟩
            by_cases e : j = k
            · rw [e, EZ.out]; exact hb
            · exact HA.out j (by omega)
          case measure => simp [intOf]; omega
        · rw [Bool.not_true]
          have EE := Lib.hid (owE_bad (W := W) (H := H) (zs := zs) (k := k) (by omega) (by rw [EZ.out]; exact hb))
          go_wp2_with fail
          go_ret2
          rw [EE.out.1, EE.out.2]
          first
            | exact ⟨none, 0, rfl, IsRow.nil _ _ _, HG1.out⟩
            | exact ⟨none, ⟨0, rfl⟩, IsRow.nil _ _ _, HG1.out⟩
      · have hkl : k = len := by omega
        subst hkl
        have EE := Lib.hid (owE_ok (zs := zs) hs (fun j hj => HA.out j (by omega)))
        obtain ⟨wn, rfl⟩ : ∃ wn : Nat, W = wn := ⟨W.toNat, by omega⟩
        obtain ⟨hn, rfl⟩ : ∃ hn : Nat, H = hn := ⟨H.toNat, by omega⟩
        have hsz := HG.out.size
        clear HA
        go_wp2_with fail
        go_loopw [9, 10] (fun v9 v10 wr => ∃ y : Nat, y ≤ hn ∧ v10 = .int .i64 y ∧ wr.ownsRow w.heap.size 3 1 v9 (y * wn) ((outP zs wn (y * wn) k).map (Value.int .i64)) ∧ Gr w wr) (fun _ v10 _ => hn - (intOf v10).toNat)
        case atStart => exact ⟨0, Nat.zero_le _, rfl, by rw [Nat.zero_mul]; exact World.ownsRow_nil _ _ _ _, HG.out⟩
        case round =>
          clear HG hsz
          obtain ⟨y, hy, rfl, hown, hg⟩ := hrel
          obtain ⟨a9, cap9, rfl⟩ := own_slice hown
          have HO := Lib.hid hown; have HG := Lib.hid hg
          clear hown hg
          by_cases hlty : y < hn
          · have hy1 : (y + 1) * wn ≤ 65536 := Nat.mul_le_mul (by omega : y + 1 ≤ 256) (by omega : wn ≤ 256)
            have hy2 : (y + 1) * wn = y * wn + wn := by rw [Nat.add_mul, Nat.one_mul]
            have HY := Lib.hid hy1; have HY2 := Lib.hid hy2
            clear hy1 hy2
            go_wp2_with fail
            go_loopw [9, 11] (fun v9 v11 wr => ∃ x : Nat, x ≤ wn ∧ v11 = .int .i64 x ∧ wr.ownsRow w.heap.size 3 1 v9 (y * wn + x) ((outP zs wn (y * wn + x) k).map (Value.int .i64)) ∧ Gr w wr) (fun _ v11 _ => wn - (intOf v11).toNat)
            case atStart => exact ⟨0, Nat.zero_le _, rfl, HO.out, HG.out⟩
            case round =>
              clear HO HG
              obtain ⟨x, hx, rfl, hown, hg⟩ := hrel
              obtain ⟨a9, cap9, rfl⟩ := own_slice hown
              have HO := Lib.hid hown; have HG := Lib.hid hg
              clear hown hg
              by_cases hltx : x < wn
              · go_wp2_with fail
                obtain ⟨m, hm⟩ : ∃ m, y * wn + x = m := ⟨_, rfl⟩
                have hout := outP_succ zs wn k x y hltx
                rw [hm] at hout HO ⊢
                have hm6 : m < 65536 := by have := HY.out; have := HY2.out; omega
                have HOUT := Lib.hid hout; have HM := Lib.hid hm
                clear hout hm
                go_loopw [12, 13] (fun v12 v13 wr => ∃ (i : Nat) (o : Int), i ≤ k ∧ v13 = .int .i64 i ∧ v12 = .int .i64 o ∧ o = owN zs x y i ∧ wr.ownsRow w.heap.size 3 1 (.slice a9 m cap9) m ((outP zs wn m k).map (Value.int .i64)) ∧ Gr w wr) (fun _ v13 _ => k - (intOf v13).toNat)
                case atStart => exact ⟨0, -1, Nat.zero_le _, rfl, rfl, rfl, HO.out, HG.out⟩
                case round =>
                  clear HO HG
                  obtain ⟨i, o, hik, rfl, rfl, ho, hown, hg⟩ := hrel
                  have HO := Lib.hid hown; have HG := Lib.hid hg; have HW := Lib.hid ho
                  have hob := owN_bd zs x y i
                  rw [← ho] at hob
                  clear hown hg ho
                  by_cases hgo : i < k ∧ o < 0
                  · obtain ⟨g1, g2⟩ := hgo
                    have d2 : decide (o < 0) = true := by simpa using g2
                    obtain ⟨b, off, t0, t1, t2, t3, t4, t5, rfl, hbl, ez, c0, c1, c2, c3, c4, c5⟩ := rows6_at (HR.out.later HG.out) g1
                    have EZ := Lib.hid ez
                    have hk1 : (0 : Int) ≤ (i : Int) := by omega
                    clear ez
                    go_wp2_with fail
                    refine (rcovers_raw x y t0 t1 t2 t3 t4 t5 _).mono ?_
                    rintro e w1 ⟨rfl, hg1⟩
                    have HG1 := Lib.hid (HG.out.trans hg1)
                    have HO1 := Lib.hid (own_gr HO.out hg1)
                    clear hg1 c0 c1 c2 c3 c4 c5
                    cases hc : cov [t0, t1, t2, t3, t4, t5] (x : Int) (y : Int)
                    · go_wp2_with fail
                      go_roundw
                      case rel => exact ⟨i + 1, o, by omega, by go_num, rfl, by simp only [owN]; rw [EZ.out, hc, if_neg (by simp)]; exact HW.out, HO1.out, HG1.out⟩
                      case measure => simp [intOf]; omega
                    · go_wp2_with fail
                      go_roundw
                      case rel => exact ⟨i + 1, i, by omega, by go_num, rfl, by simp only [owN]; rw [EZ.out, hc, if_pos ⟨by have := HW.out; omega, rfl⟩], HO1.out, HG1.out⟩
                      case measure => simp [intOf]; omega
                  · have hfin : o = owN zs x y k := by
                      by_cases e : i = k
                      · rw [← e]; exact HW.out
                      · have h2 : owN zs (x : Int) (y : Int) i ≠ -1 := by rw [← HW.out]; omega
                        rw [HW.out]; exact (owN_stay h2 k hik).symm
                    have HF := Lib.hid hfin
                    have hd : (decide ((i : Int) < (k : Int)) = false ∧ decide (i < k) = false ∧ True) ∨ (decide ((i : Int) < (k : Int)) = true ∧ decide (i < k) = true ∧ decide (o < 0) = false) := by
                      by_cases e : i < k
                      · right; refine ⟨by simpa using e, by simpa using e, by simp; omega⟩
                      · left; exact ⟨by simp; omega, by simp; omega, trivial⟩
                    have hoI : I o := ⟨by omega, by omega⟩
                    clear hfin hgo
                    have hss := HG.out.size
                    rcases hd with ⟨d1, d1', d2⟩ | ⟨d1, d1', d2⟩
                    all_goals
                      go_wp2_with (first
                        | (at_builtin; refine wpList_append_own _ rfl _ _ 25 rfl w.heap.size 3 i0 (.int .i64 0) 1 8 Try.underlying25 hi hz0 hz1 hz2 rfl (by decide) _ m _ rfl (HO.out.alloc _) ⟨wr.heap.size, 0, none⟩ 1 1 [_] rfl rfl (by exact one_new _ _ _) ?c3 ?c4 ?c5 ?c6 ?_))
                      case c3 => intro u hu; simp at hu; subst hu; rfl
                      case c4 => unfold maxLen; omega
                      case c5 => omega
                      case c6 => simp; omega
                      intro v' w1 hown1 hgrow _
                      have hg1 : Gr w w1 := Below.grown (HG.out.alloc _) hgrow (HG.out.alloc _).size (fun j hj => by have := (HO.out.lt j hj).1; omega)
                      have HO1 := Lib.hid hown1; have HG1 := Lib.hid hg1
                      clear hown1 hgrow hg1
                      go_wp2_with fail
                      go_roundw
                      case rel =>
                        refine ⟨x + 1, by omega, by go_num, ?_, HG1.out⟩
                        have := HO1.out
                        rw [show y * wn + (x + 1) = m + 1 by have := HM.out; omega, HOUT.out, List.map_append]
                        rw [HF.out] at this
                        exact this
                      case measure => simp [intOf]; omega
              · have hxe : x = wn := by omega
                subst hxe
                go_wp2_with fail
                go_roundw
                case rel => exact ⟨y + 1, by omega, by go_num, by rw [show (y + 1) * x = y * x + x from HY2.out]; exact HO.out, HG.out⟩
                case measure => simp [intOf]; omega
          · have hye : y = hn := by omega
            subst hye
            go_wp2_with fail
            go_ret2
            have e0 : owE wn y zs = 0 := EE.out.1
            have e1 : owL wn y zs = outP zs wn (y * wn) k := by rw [EE.out.2, hzl, Int.toNat_natCast, Int.toNat_natCast, Nat.mul_comm y wn]; rfl
            rw [e0, e1]
            obtain ⟨a', cap', e, hrw⟩ := row_owned (zs := outP zs wn (y * wn) k) (by simpa [outP_len] using HO.out) (by rw [outP_len]; have := Nat.mul_le_mul (show y ≤ 256 by omega) (show wn ≤ 256 by omega); omega) (outP_I _ _ _ _ (by omega))
            rw [outP_len] at e hrw ⊢
            cases e
            exact ⟨_, _, rfl, hrw, HG.out⟩
  · have hs2 : sizB W H = false := by simpa using hs
    have EE := Lib.hid (owE_siz (zs := zs) hs2)
    have hd : decide (W < 1) = true ∨ (decide (W < 1) = false ∧ decide (256 < W) = true) ∨ (decide (W < 1) = false ∧ decide (256 < W) = false ∧ decide (H < 1) = true) ∨ (decide (W < 1) = false ∧ decide (256 < W) = false ∧ decide (H < 1) = false ∧ decide (256 < H) = true) := by
      unfold sizB at hs2
      simp at hs2 ⊢; omega
    clear hs hs2
    rcases hd with d1 | ⟨d1, d2⟩ | ⟨d1, d2, d3⟩ | ⟨d1, d2, d3, d4⟩
    all_goals
      go_enter Try.func10, Try.ntmps10
      go_wp2_with fail
      go_ret2
      rw [EE.out.1, EE.out.2]
      first
        | exact ⟨none, 0, rfl, IsRow.nil _ _ _, Gr.refl _⟩
        | exact ⟨none, ⟨0, rfl⟩, IsRow.nil _ _ _, Gr.refl _⟩
end Mt
end Go.Proofs.Ytfkgjpdipdllhaa
