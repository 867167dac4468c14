/- Chapter 23: what a disc's points are sought by, walked: (*disc).take$1. -/
import Derived.Test.YtndnjjeildnhdaaOn
import Derived.Test.YtndnjjeildnhdaaDh
import Derived.Test.YtndnjjeildnhdaaH2
import Derived.Deep.RegionLaw
import Derived.Deep.RegionHeld3
import Derived.Deep.AppendLies
import Derived.Deep.DrawnRows
set_option linter.unusedVariables false
set_option linter.unusedSimpArgs false
namespace Go.Proofs.Ytndnjjeildnhdaa
open Go.RowKit
namespace Mt
open Ro
attribute [local go_sem ↓] Go.wp_at_zero Go.wp_at_succ
theorem infoV : (Try.prog.info? 23).map (fun i => (i.zero, i.size, i.bytes)) = some (some (.agg #[.int .i64 0, .int .i64 0]), 2, 16) := by kernel_rfl
theorem info_parts {P : Program} {t : TypeId} {z : Value} {s b : Nat} (h : (P.info? t).map (fun i => (i.zero, i.size, i.bytes)) = some (some z, s, b)) : ∃ i, P.info? t = some i ∧ i.zero = some z ∧ i.size = s ∧ i.bytes = b := by
  cases hi : P.info? t with
  | none => rw [hi] at h; cases h
  | some i => rw [hi] at h; simp at h; exact ⟨i, rfl, h.1, h.2.1, h.2.2⟩
theorem own_slice {w : World} {base : Nat} {e : TypeId} {size : Nat} {v : Value} {n : Nat} {xs : List Value} (h : w.ownsRow base e size v n xs) : ∃ a cap, v = .slice a n cap := by
  rcases h.2 with ⟨hv, h0⟩ | ⟨g, cap, cur, hv, hb, _, hc, _⟩
  · subst h0; exact ⟨none, 0, hv⟩
  · exact ⟨_, cap, hv⟩
theorem own_ks {w w' : World} {S : Nat → Prop} {base : Nat} {e : TypeId} {size : Nat} {v : Value} {n : Nat} {xs : List Value} (h : w.ownsRow base e size v n xs) (hk : Ks S w w') (hS : ∀ k, S k → k < base) : w'.ownsRow base e size v n xs := by
  obtain ⟨h1, h2⟩ := h
  refine ⟨h1, ?_⟩
  rcases h2 with h2 | ⟨g, cap, cur, hv, hb, hh, hr⟩
  · exact .inl h2
  · have hlt : g < w.heap.size := (Array.getElem?_eq_some_iff.1 hh).1
    exact .inr ⟨g, cap, cur, hv, hb, (hk.block g hlt (fun h => by have := hS g h; omega)).trans hh, hr⟩
theorem own_base {w : World} {base : Nat} {e : TypeId} {size : Nat} {v : Value} {n : Nat} {xs : List Value} (h : w.ownsRow base e size v n xs) : ∀ k, v.ownBlock = some k → base ≤ k := by
  rcases h.2 with ⟨hv, _⟩ | ⟨g, cap, cur, hv, hb, _⟩
  · intro k hk; subst hv; cases hk
  · intro k hk; subst hv; simp [Value.ownBlock] at hk; omega
theorem own_lt {w : World} {base : Nat} {e : TypeId} {size : Nat} {v : Value} {n : Nat} {xs : List Value} (h : w.ownsRow base e size v n xs) : ∀ k, v.ownBlock = some k → k < w.heap.size := by
  rcases h.2 with ⟨hv, _⟩ | ⟨g, cap, cur, hv, hb, hh, _⟩
  · intro k hk; subst hv; cases hk
  · intro k hk; subst hv; simp [Value.ownBlock] at hk; subst hk; exact (Array.getElem?_eq_some_iff.1 hh).1
theorem ks_grown {S : Nat → Prop} {a b c : World} {o : Option Nat} (h : Ks S a b) (g : b.grownBy c o) (ho : ∀ k, o = some k → a.heap.size ≤ k) : Ks S a c :=
  ⟨g.os.trans h.os, g.tape.trans h.tape, g.output.trans h.output, Nat.le_trans h.size g.size, fun k hk hs => (g.block k (by have := h.size; omega) (fun e => by have := ho k e.symm; omega)).trans (h.block k hk hs)⟩
/-- 'halton.floor' of a part of a point. -/
theorem floor_any (n : Int) (h0 : 0 ≤ n) (h1 : n ≤ 65536) (w : World) : Calls Try.prog 27 #[.int .i64 n] w fun e w' => e = .returned (.int .i64 (fl64 n)) ∧ w = w' := by
  have e : (2 * n - 65536 + 4194304).tdiv 64 - 65536 = fl64 n := by
    rw [Int.tdiv_eq_ediv_of_nonneg (by omega)]; unfold fl64; omega
  have b := fl64_bd h0 h1
  have e2 : (2 * n - 65536 + 4194304).tdiv 64 = fl64 n + 65536 := by omega
  have w1 : IntKind.i64.wrap (2 * n) = 2 * n := IntWalk.i64_in _ (by omega)
  have w2 : IntKind.i64.wrap (2 * n - 65536) = 2 * n - 65536 := IntWalk.i64_in _ (by omega)
  have w3 : IntKind.i64.wrap (2 * n - 65536 + 4194304) = 2 * n - 65536 + 4194304 := IntWalk.i64_in _ (by omega)
  have w4 : IntKind.i64.wrap (fl64 n + 65536) = fl64 n + 65536 := IntWalk.i64_in _ (by omega)
  have w5 : IntKind.i64.wrap (fl64 n + 65536 - 65536) = fl64 n + 65536 - 65536 := IntWalk.i64_in _ (by omega)
  have e3 : fl64 n + 65536 - 65536 = fl64 n := by omega
  generalize fl64 n = y at *
  go_enter Try.func27, Try.ntmps27
  go_wp2
  go_ret
  exact ⟨rfl, rfl⟩
theorem hpoint_raw (x : Int) (w : World) : Calls Try.prog 10 #[.int .i64 x] w fun e w' => e = .returned (.tuple #[.agg #[.int .i64 (Sx.fi 73 0 [x]), .int .i64 (Sx.fi 73 1 [x])], .int .i64 (Sx.fi 73 2 [x])]) ∧ Gr w w' :=
  Sx.flat_run (Sx.c_hpoint w) rfl [x] rfl trivial
theorem fi73 {x : Int} (h : Sx.pok x = true) : Sx.fi 73 0 [x] = Sx.hpt 2 x ∧ Sx.fi 73 1 [x] = Sx.hpt 3 x ∧ Sx.fi 73 2 [x] = 0 := by
  have e0 : Sx.fi 73 0 [x] = if Sx.pok x then Sx.hpt 2 x else 0 := rfl
  have e1 : Sx.fi 73 1 [x] = if Sx.pok x then Sx.hpt 3 x else 0 := rfl
  have e2 : Sx.fi 73 2 [x] = if Sx.pok x then 0 else 1 := rfl
  rw [e0, e1, e2, h]; exact ⟨rfl, rfl, rfl⟩
theorem hpoint_any (x : Int) (h0 : 0 ≤ x) (h1 : x ≤ 65535) (w : World) : Calls Try.prog 10 #[.int .i64 x] w fun e w' => e = .returned (.tuple #[.agg #[.int .i64 (Sx.hpt 2 x), .int .i64 (Sx.hpt 3 x)], .int .i64 0]) ∧ Gr w w' := by
  obtain ⟨e0, e1, e2⟩ := fi73 (x := x) (by simp [Sx.pok]; omega)
  have := hpoint_raw x w
  rw [e0, e1, e2] at this
  exact this
theorem hinside_any (x y : Int) (w : World) : Calls Try.prog 16 #[.agg #[.int .i64 x, .int .i64 y]] w fun e w' => e = .returned (.bool (Sx.hins x y)) ∧ Gr w w' :=
  Sx.flat_run (Sx.c_hins w) rfl [x, y] rfl trivial
set_option maxHeartbeats 8000000 in
set_option maxRecDepth 100000 in
theorem take1_any (n : Nat) (hn : n ≤ 64) (bd bn bv : Nat) (w : World) (hD : Bx w bd 59 [.int .u32 0, .int .i32 1, .int .u32 0, .slice none 0 0]) (hV : Bx w bv 66 [.pointer (some ⟨bd, 0, none⟩)]) (hN : Bx w bn 3 [.int .i64 n]) (h1 : bv ≠ bd) (h2 : bn ≠ bd) :
    Calls Try.prog 26 #[.pointer (some ⟨bv, 0, none⟩), .pointer (some ⟨bn, 0, none⟩)] w fun e w' => e = .returned (.tuple #[]) ∧
      ∃ v, Bx w' bd 59 [.int .u32 0, .int .i32 1, .int .u32 0, v] ∧ w'.ownsRow w.heap.size 23 2 v n (fl (pts n)) ∧ Ks (fun k => k = bd) w w' := by
  obtain ⟨i0, hi, hz0, hz1, hz2⟩ := info_parts infoV
  have HD := Lib.hid hD; have HV := Lib.hid hV; have HN := Lib.hid hN
  have ltD := hD.lt; have ltV := hV.lt; have ltN := hN.lt
  clear hD hV hN
  go_enter Try.func26, Try.ntmps26
  go_wp2_with fail
  go_loopw [2] (fun v2 wr => ∃ (k : Nat) (x : Int) (v : Value) (m : Nat), x = ((k + 1 : Nat) : Int) ∧ m = (dl k).length ∧ k ≤ 65535 ∧ v2 = .int .i64 x ∧ Bx wr bd 59 [.int .u32 0, .int .i32 1, .int .u32 0, v] ∧ wr.ownsRow w.heap.size 23 2 v m (fl (dl k)) ∧ m ≤ n ∧ Ks (fun k => k = bd) w wr) (fun v2 _ => 65537 - (intOf v2).toNat)
  case atStart => exact ⟨0, 1, _, 0, rfl, rfl, by omega, rfl, HD.out, World.ownsRow_nil _ _ _ _, by omega, Ks.refl _ _⟩
  case round =>
    obtain ⟨k, x, v, m, hx, hm, hk, rfl, hd, hown, hln, hks⟩ := hrel
    obtain ⟨a, cap, rfl⟩ := own_slice hown
    have cD := hd.blk.cell 3 rfl
    have cV := (HV.out.ks hks h1).blk.cell 0 rfl
    have cN := (HN.out.ks hks h2).blk.cell 0 rfl
    have HDD := Lib.hid hd; have HO := Lib.hid hown; have HK := Lib.hid hks; have HX := Lib.hid hx; have HM := Lib.hid hm
    clear hd hown hks hx hm
    have hx0 : 0 ≤ x := by have := HX.out; omega
    have hx2 : x ≤ 65536 := by have := HX.out; omega
    by_cases hg : x ≤ 65535 ∧ m < n
    · obtain ⟨hg1, hg2⟩ := hg
      have d1 : decide (x ≤ 65535) = true := by simp; omega
      have d2 : decide ((m : Int) < (n : Int)) = true := by simp; omega
      go_wp2_with fail
      refine wp_region_quiet_lit (by kernel_rfl) (by kernel_rfl) ?_
      repeat (go_big_quiet_step (fail))
      refine wpQuiet_nil ?_
      rintro _ ⟨n', rfl⟩
      go_wp2_with fail
      refine (hpoint_any x hx0 hg1 _).mono ?_
      rintro e w1 ⟨rfl, hgr⟩
      have G1 := Lib.hid (((Gr.refl wr).dn n').trans hgr)
      clear hgr cD cV cN
      have hH : Sx.hins (Sx.hpt 2 x) (Sx.hpt 3 x) = hin x := rfl
      have hZ : hpz x = [fl64 (Sx.hpt 2 x), fl64 (Sx.hpt 3 x)] := rfl
      have HZ := Lib.hid hZ
      clear hZ
      generalize Sx.hpt 2 x = px at *
      generalize Sx.hpt 3 x = py at *
      go_wp2_with fail
      refine (hinside_any _ _ _).mono ?_
      rintro e w2 ⟨rfl, hgr2⟩
      have bP : Bx w2 w1.heap.size 23 [.int .i64 px, .int .i64 py] := (Bx.new (vs := [.int .i64 px, .int .i64 py]) rfl).gr hgr2
      have g2 : Gr wr w2 := (G1.out.alloc _).trans hgr2
      have s1 := G1.out.size
      have s2 := g2.size
      have sw := HK.out.size
      have bD := HDD.out.gr g2
      have bV := (HV.out.ks HK.out h1).gr g2
      have BP := Lib.hid bP; have BD := Lib.hid bD; have BV := Lib.hid bV; have G2 := Lib.hid g2
      clear hgr2 bD bV g2 bP
      rw [hH]
      have hH0 := hH
      clear hH
      cases hi2 : hin x
      · have e1 := dl_out (k := k) (by rw [← HX.out]; exact hi2)
        have DO := Lib.hid e1
        clear e1
        go_wp2_with fail
        go_roundw
        case rel => exact ⟨k + 1, x + 1, _, m, by have := HX.out; omega, by rw [DO.out]; exact HM.out, by have := HX.out; omega, rfl, BD.out, by rw [DO.out]; exact own_ks HO.out (Ks.of_gr (S := fun _ => False) G2.out) (by intro k h; exact h.elim), hln, HK.out.trans (Ks.of_gr G2.out)⟩
        case measure => simp [intOf]; omega
      · have e1 := dl_in (k := k) (by rw [← HX.out]; exact hi2)
        rw [← HX.out] at e1
        have DI := Lib.hid e1
        rw [hi2] at hH0
        obtain ⟨⟨hb0, hb1, hb2, hb3⟩, _⟩ := hins_ok hH0
        clear e1
        go_wp2_with fail
        have hown2 : w2.drew.ownsRow w.heap.size 23 2 (.slice a m cap) m (fl (dl k)) := own_ks HO.out (Ks.of_gr (S := fun _ => False) G2.out.drew) (by intro k h; exact h.elim)
        have OB := Lib.hid (own_base hown2)
        have OL := Lib.hid (own_lt HO.out)
        have HO2 := Lib.hid hown2
        have HP2 := Lib.hid (bx_drew BP.out); have HD2 := Lib.hid (bx_drew BD.out); have HV2 := Lib.hid (bx_drew BV.out)
        have HK2 := Lib.hid (HK.out.trans (Ks.of_gr G2.out.drew))
        have ltV2 := HV2.out.lt; have ltP2 := HP2.out.lt; have ltD2 := HD2.out.lt
        have c3 := HD2.out.blk.cell 3 rfl
        clear hown2
        refine wp_region_held_drew (S := fun w' => w'.cell? ⟨bv, 0, none⟩ = some (.pointer (some ⟨bd, 0, none⟩)) ∧ w'.cell? ⟨w1.heap.size, 0, none⟩ = some (.int .i64 px) ∧ w'.cell? ⟨w1.heap.size, 1, none⟩ = some (.int .i64 py)) (by kernel_rfl) ?_ (fun hH => ?_)
        · exact ⟨HV2.out.blk.cell 0 rfl, HP2.out.blk.cell 0 rfl, HP2.out.blk.cell 1 rfl⟩
        generalize w2.drew = V at *
        -- BEGIN
        refine' wpAnyH_take (i := 0) (v := _) rfl (by kernel_rfl) (by kernel_rfl) (by kernel_rfl) (fun _ _ _ h => h) (Or.inl ⟨by rfl, ?y1⟩) (by assumption) ?_
        case y1 => (intro w hSw; (try dsimp only at hSw); go_simp; try with_reducible rfl)
        try simp only [Act.put, List.setIfInBounds_toArray, List.set_cons_zero, List.set_cons_succ, List.getElem_toArray, List.getElem_cons_succ, List.getElem_cons_zero]
        refine' wpAnyH_take (i := 1) (v := _) rfl (by kernel_rfl) (by kernel_rfl) (by kernel_rfl) (fun _ _ _ h => h) (Or.inl ⟨by rfl, ?y2⟩) (by assumption) ?_
        case y2 => (intro w hSw; (try dsimp only at hSw); go_simp; try with_reducible rfl)
        try simp only [Act.put, List.setIfInBounds_toArray, List.set_cons_zero, List.set_cons_succ, List.getElem_toArray, List.getElem_cons_succ, List.getElem_cons_zero]
        refine' wpAnyH_take (i := 2) (v := _) rfl (by kernel_rfl) (by kernel_rfl) (by kernel_rfl) (fun _ _ _ h => h) (Or.inl ⟨by rfl, ?y3⟩) (by assumption) ?_
        case y3 => (intro w hSw; (try dsimp only at hSw); go_simp; try with_reducible rfl)
        try simp only [Act.put, List.setIfInBounds_toArray, List.set_cons_zero, List.set_cons_succ, List.getElem_toArray, List.getElem_cons_succ, List.getElem_cons_zero]
        refine' wpAnyH_take (i := 3) (v := _) rfl (by kernel_rfl) (by kernel_rfl) (by kernel_rfl) (fun _ _ _ h => h) (Or.inl ⟨by rfl, ?y4⟩) (by assumption) ?_
        case y4 => (intro w hSw; (try dsimp only at hSw); go_simp; try with_reducible rfl)
        try simp only [Act.put, List.setIfInBounds_toArray, List.set_cons_zero, List.set_cons_succ, List.getElem_toArray, List.getElem_cons_succ, List.getElem_cons_zero]
        refine' wpAnyH_take (i := 5) (v := _) rfl (by kernel_rfl) (by kernel_rfl) (by kernel_rfl) (fun _ _ _ h => h) (Or.inl ⟨by rfl, ?y5⟩) (by assumption) ?_
        case y5 => (intro w hSw; (try dsimp only at hSw); go_simp; try with_reducible rfl)
        try simp only [Act.put, List.setIfInBounds_toArray, List.set_cons_zero, List.set_cons_succ, List.getElem_toArray, List.getElem_cons_succ, List.getElem_cons_zero]
        refine' wpAnyH_take (i := 6) (v := _) rfl (by kernel_rfl) (by kernel_rfl) (by kernel_rfl) (fun _ _ _ h => h) (Or.inl ⟨by rfl, ?y6⟩) (by assumption) ?_
        case y6 => (intro w hSw; (try dsimp only at hSw); go_simp; try with_reducible rfl)
        try simp only [Act.put, List.setIfInBounds_toArray, List.set_cons_zero, List.set_cons_succ, List.getElem_toArray, List.getElem_cons_succ, List.getElem_cons_zero]
        refine' wpAnyH_take (i := 8) (v := _) rfl (by kernel_rfl) (by kernel_rfl) (by kernel_rfl) (fun _ _ _ h => h) (Or.inl ⟨by rfl, ?y7⟩) (by assumption) ?_
        case y7 => (intro w hSw; (try dsimp only at hSw); go_simp; try with_reducible rfl)
        try simp only [Act.put, List.setIfInBounds_toArray, List.set_cons_zero, List.set_cons_succ, List.getElem_toArray, List.getElem_cons_succ, List.getElem_cons_zero]
        refine' wpAnyH_take (i := 9) (v := _) rfl (by kernel_rfl) (by kernel_rfl) (by kernel_rfl) (fun _ _ _ h => h) (Or.inl ⟨by rfl, ?y8⟩) (by assumption) ?_
        case y8 => (intro w hSw; (try dsimp only at hSw); go_simp; try with_reducible rfl)
        try simp only [Act.put, List.setIfInBounds_toArray, List.set_cons_zero, List.set_cons_succ, List.getElem_toArray, List.getElem_cons_succ, List.getElem_cons_zero]
        refine wpAnyH_ready (rs := [4, 7]) (by kernel_rfl) (by simp) ?_
        refine AllReadyH.cons rfl (fun K hK => ?_) (AllReadyH.cons rfl (fun K hK => ?_) AllReadyH.nil)
        · skip
          go_simp
          refine hK.out _ _ ?_ (fun hN => ?_)
          · exact hH
          clear hK K hH
          have hH := hN; clear hN
          try simp only [Act.put, List.setIfInBounds_toArray, List.set_cons_zero, List.set_cons_succ, List.getElem_toArray, List.getElem_cons_succ, List.getElem_cons_zero]
          refine wpAnyH_ready (rs := [7]) (by kernel_rfl) (by simp) ?_
          refine AllReadyH.cons rfl (fun K hK => ?_) AllReadyH.nil
          go_simp
          go_at_call 27
          refine (floor_any px hb0 hb1 _).mono ?_
          rintro e w' ⟨rfl, rfl⟩
          go_wp2_with fail
          refine hK.out _ _ ?_ (fun hN => ?_)
          · exact hH
          clear hK K hH
          have hH := hN; clear hN
          try simp only [Act.put, List.setIfInBounds_toArray, List.set_cons_zero, List.set_cons_succ, List.getElem_toArray, List.getElem_cons_succ, List.getElem_cons_zero]
          refine wpAnyH_ready (rs := [10]) (by kernel_rfl) (by simp) ?_
          refine AllReadyH.cons rfl (fun K hK => ?_) AllReadyH.nil
          go_simp
          go_at_call 27
          refine (floor_any py hb2 hb3 _).mono ?_
          rintro e w' ⟨rfl, rfl⟩
          go_wp2_with fail
          refine hK.out _ _ ?_ (fun hN => ?_)
          · exact hH
          clear hK K hH
          have hH := hN; clear hN
          try simp only [Act.put, List.setIfInBounds_toArray, List.set_cons_zero, List.set_cons_succ, List.getElem_toArray, List.getElem_cons_succ, List.getElem_cons_zero]
          refine' wpAnyH_take (i := 11) (v := _) rfl (by kernel_rfl) (by kernel_rfl) (by kernel_rfl) (fun _ _ _ h => h) (Or.inl ⟨by rfl, ?y9⟩) (by assumption) ?_
          case y9 => (intro w hSw; (try dsimp only at hSw); go_simp; try with_reducible rfl)
          try simp only [Act.put, List.setIfInBounds_toArray, List.set_cons_zero, List.set_cons_succ, List.getElem_toArray, List.getElem_cons_succ, List.getElem_cons_zero]
          refine wpAnyH_ready (rs := [12]) (by kernel_rfl) (by simp) ?_
          refine AllReadyH.cons rfl (fun K hK => ?_) AllReadyH.nil
          go_simp
          refine hK.out _ _ ?_ (fun hN => ?_)
          · exact ⟨(World.cell?_alloc_past _ _ _ ltV2).trans hH.1, (World.cell?_alloc_past _ _ _ ltP2).trans hH.2.1, (World.cell?_alloc_past _ _ _ ltP2).trans hH.2.2⟩
          clear hK K hH
          have hH := hN; clear hN
          try simp only [Act.put, List.setIfInBounds_toArray, List.set_cons_zero, List.set_cons_succ, List.getElem_toArray, List.getElem_cons_succ, List.getElem_cons_zero]
          refine wpAnyH_ready (rs := [13]) (by kernel_rfl) (by simp) ?_
          refine AllReadyH.cons rfl (fun K hK => ?_) AllReadyH.nil
          refine step_append_lies _ (by rfl) (.tmp 29) (.tmp 37) 31 (by rfl) w.heap.size 23 i0 (.agg #[.int .i64 0, .int .i64 0]) 2 16 Try.underlying31 hi hz0 hz1 hz2 rfl (by omega) (.slice a m cap) m (fl (dl k)) (by rfl) (HO2.out.alloc _) ⟨V.heap.size, 0, none⟩ 1 1 [.int .i64 (fl64 px), .int .i64 (fl64 py)] (by rfl) rfl (World.news_of_block (World.alloc_heap_new _ _)) (by intro z hz; simp at hz; rcases hz with rfl | rfl <;> rfl) (by omega) (by unfold maxLen; omega) (by omega) (by simp <;> omega) (V.heap.size + 1) (by simp) ?_
          intro g cap' w3 hown3 hgrow3 hat3 hlt3
          have sV : w3.cell? ⟨bv, 0, none⟩ = some (.pointer (some ⟨bd, 0, none⟩)) := (hgrow3.cell_far ⟨bv, 0, none⟩ (by simp; omega) (fun e => by have := OB.out _ e.symm; simp at this; omega)).trans hH.1
          have sX : w3.cell? ⟨w1.heap.size, 0, none⟩ = some (.int .i64 px) := (hgrow3.cell_far ⟨w1.heap.size, 0, none⟩ (by simp; omega) (fun e => by have := OL.out _ e.symm; simp at this; omega)).trans hH.2.1
          have sY : w3.cell? ⟨w1.heap.size, 1, none⟩ = some (.int .i64 py) := (hgrow3.cell_far ⟨w1.heap.size, 1, none⟩ (by simp; omega) (fun e => by have := OL.out _ e.symm; simp at this; omega)).trans hH.2.2
          have bD3 : Bx w3 bd 59 [.int .u32 0, .int .i32 1, .int .u32 0, .slice a m cap] := (hgrow3.block bd (by simp; omega) (fun e => by have := OB.out _ e.symm; omega)).trans (HD2.out.alloc _)
          have K3 := Lib.hid (ks_grown (HK2.out.trans (Ks.of_gr ((Gr.refl V).alloc _))) hgrow3 OB.out)
          have HD3 := Lib.hid bD3; have HO3 := Lib.hid hown3
          have k3 := bD3.blk.cell 3 rfl; have q3 := bD3.blk.free 3 rfl
          clear hgrow3 hown3 bD3
          refine hK.out _ _ ?_ (fun hN => ?_)
          · exact ⟨sV, sX, sY⟩
          clear hK K hH
          have hH := hN; clear hN
          try simp only [Act.put, List.setIfInBounds_toArray, List.set_cons_zero, List.set_cons_succ, List.getElem_toArray, List.getElem_cons_succ, List.getElem_cons_zero]
          refine' wpAnyH_take (i := 14) (v := _) rfl (by kernel_rfl) (by kernel_rfl) (by kernel_rfl) (fun _ _ _ h => h) (Or.inl ⟨by rfl, ?y10⟩) (by assumption) ?_
          case y10 => (intro w hSw; (try dsimp only at hSw); go_simp; try with_reducible rfl)
          try simp only [Act.put, List.setIfInBounds_toArray, List.set_cons_zero, List.set_cons_succ, List.getElem_toArray, List.getElem_cons_succ, List.getElem_cons_zero]
          refine' wpAnyH_take (i := 15) (v := _) rfl (by kernel_rfl) (by kernel_rfl) (by kernel_rfl) (fun _ _ _ h => h) (Or.inl ⟨by rfl, ?y11⟩) (by assumption) ?_
          case y11 => (intro w hSw; (try dsimp only at hSw); go_simp; try with_reducible rfl)
          try simp only [Act.put, List.setIfInBounds_toArray, List.set_cons_zero, List.set_cons_succ, List.getElem_toArray, List.getElem_cons_succ, List.getElem_cons_zero]
          refine wpAnyH_ready (rs := [16]) (by kernel_rfl) (by simp) ?_
          refine AllReadyH.cons rfl (fun K hK => ?_) AllReadyH.nil
          go_simp
          refine hK.out _ _ ?_ (fun hN => ?_)
          · exact ⟨(World.cell?_setCell_other _ _ _ _ (by intro h; injection h with h _; exact h1 h.symm)).trans hH.1, (World.cell?_setCell_other _ _ _ _ (by intro h; injection h with h _; omega)).trans hH.2.1, (World.cell?_setCell_other _ _ _ _ (by intro h; injection h with h _; omega)).trans hH.2.2⟩
          clear hK K hH
          have hH := hN; clear hN
          try simp only [Act.put, List.setIfInBounds_toArray, List.set_cons_zero, List.set_cons_succ, List.getElem_toArray, List.getElem_cons_succ, List.getElem_cons_zero]
          refine wpAnyH_done (by kernel_rfl) ?_ _
          go_wp2_with fail
          go_roundw
          case rel =>
            refine ⟨k + 1, x + 1, _, m + 1, by have := HX.out; omega, by rw [DI.out, List.length_append]; have := HM.out; simp; omega, by have := HX.out; omega, rfl, bx_seti HD3.out 3 _, own_ks (S := fun k => k = bd) ?_ (ks_at _ rfl) (by intro k hk; omega), by omega, K3.out.trans (ks_at _ rfl)⟩
            rw [DI.out, fl_append, HZ.out]; exact HO3.out
          case measure => simp [intOf]; omega
        · skip
          go_simp
          go_at_call 27
          refine (floor_any px hb0 hb1 _).mono ?_
          rintro e w' ⟨rfl, rfl⟩
          go_wp2_with fail
          refine hK.out _ _ ?_ (fun hN => ?_)
          · exact hH
          clear hK K hH
          have hH := hN; clear hN
          try simp only [Act.put, List.setIfInBounds_toArray, List.set_cons_zero, List.set_cons_succ, List.getElem_toArray, List.getElem_cons_succ, List.getElem_cons_zero]
          refine wpAnyH_ready (rs := [4, 10]) (by kernel_rfl) (by simp) ?_
          refine AllReadyH.cons rfl (fun K hK => ?_) (AllReadyH.cons rfl (fun K hK => ?_) AllReadyH.nil)
          · skip
            go_simp
            refine hK.out _ _ ?_ (fun hN => ?_)
            · exact hH
            clear hK K hH
            have hH := hN; clear hN
            try simp only [Act.put, List.setIfInBounds_toArray, List.set_cons_zero, List.set_cons_succ, List.getElem_toArray, List.getElem_cons_succ, List.getElem_cons_zero]
            refine wpAnyH_ready (rs := [10]) (by kernel_rfl) (by simp) ?_
            refine AllReadyH.cons rfl (fun K hK => ?_) AllReadyH.nil
            go_simp
            go_at_call 27
            refine (floor_any py hb2 hb3 _).mono ?_
            rintro e w' ⟨rfl, rfl⟩
            go_wp2_with fail
            refine hK.out _ _ ?_ (fun hN => ?_)
            · exact hH
            clear hK K hH
            have hH := hN; clear hN
            try simp only [Act.put, List.setIfInBounds_toArray, List.set_cons_zero, List.set_cons_succ, List.getElem_toArray, List.getElem_cons_succ, List.getElem_cons_zero]
            refine' wpAnyH_take (i := 11) (v := _) rfl (by kernel_rfl) (by kernel_rfl) (by kernel_rfl) (fun _ _ _ h => h) (Or.inl ⟨by rfl, ?y12⟩) (by assumption) ?_
            case y12 => (intro w hSw; (try dsimp only at hSw); go_simp; try with_reducible rfl)
            try simp only [Act.put, List.setIfInBounds_toArray, List.set_cons_zero, List.set_cons_succ, List.getElem_toArray, List.getElem_cons_succ, List.getElem_cons_zero]
            refine wpAnyH_ready (rs := [12]) (by kernel_rfl) (by simp) ?_
            refine AllReadyH.cons rfl (fun K hK => ?_) AllReadyH.nil
            go_simp
            refine hK.out _ _ ?_ (fun hN => ?_)
            · exact ⟨(World.cell?_alloc_past _ _ _ ltV2).trans hH.1, (World.cell?_alloc_past _ _ _ ltP2).trans hH.2.1, (World.cell?_alloc_past _ _ _ ltP2).trans hH.2.2⟩
            clear hK K hH
            have hH := hN; clear hN
            try simp only [Act.put, List.setIfInBounds_toArray, List.set_cons_zero, List.set_cons_succ, List.getElem_toArray, List.getElem_cons_succ, List.getElem_cons_zero]
            refine wpAnyH_ready (rs := [13]) (by kernel_rfl) (by simp) ?_
            refine AllReadyH.cons rfl (fun K hK => ?_) AllReadyH.nil
            refine step_append_lies _ (by rfl) (.tmp 29) (.tmp 37) 31 (by rfl) w.heap.size 23 i0 (.agg #[.int .i64 0, .int .i64 0]) 2 16 Try.underlying31 hi hz0 hz1 hz2 rfl (by omega) (.slice a m cap) m (fl (dl k)) (by rfl) (HO2.out.alloc _) ⟨V.heap.size, 0, none⟩ 1 1 [.int .i64 (fl64 px), .int .i64 (fl64 py)] (by rfl) rfl (World.news_of_block (World.alloc_heap_new _ _)) (by intro z hz; simp at hz; rcases hz with rfl | rfl <;> rfl) (by omega) (by unfold maxLen; omega) (by omega) (by simp <;> omega) (V.heap.size + 1) (by simp) ?_
            intro g cap' w3 hown3 hgrow3 hat3 hlt3
            have sV : w3.cell? ⟨bv, 0, none⟩ = some (.pointer (some ⟨bd, 0, none⟩)) := (hgrow3.cell_far ⟨bv, 0, none⟩ (by simp; omega) (fun e => by have := OB.out _ e.symm; simp at this; omega)).trans hH.1
            have sX : w3.cell? ⟨w1.heap.size, 0, none⟩ = some (.int .i64 px) := (hgrow3.cell_far ⟨w1.heap.size, 0, none⟩ (by simp; omega) (fun e => by have := OL.out _ e.symm; simp at this; omega)).trans hH.2.1
            have sY : w3.cell? ⟨w1.heap.size, 1, none⟩ = some (.int .i64 py) := (hgrow3.cell_far ⟨w1.heap.size, 1, none⟩ (by simp; omega) (fun e => by have := OL.out _ e.symm; simp at this; omega)).trans hH.2.2
            have bD3 : Bx w3 bd 59 [.int .u32 0, .int .i32 1, .int .u32 0, .slice a m cap] := (hgrow3.block bd (by simp; omega) (fun e => by have := OB.out _ e.symm; omega)).trans (HD2.out.alloc _)
            have K3 := Lib.hid (ks_grown (HK2.out.trans (Ks.of_gr ((Gr.refl V).alloc _))) hgrow3 OB.out)
            have HD3 := Lib.hid bD3; have HO3 := Lib.hid hown3
            have k3 := bD3.blk.cell 3 rfl; have q3 := bD3.blk.free 3 rfl
            clear hgrow3 hown3 bD3
            refine hK.out _ _ ?_ (fun hN => ?_)
            · exact ⟨sV, sX, sY⟩
            clear hK K hH
            have hH := hN; clear hN
            try simp only [Act.put, List.setIfInBounds_toArray, List.set_cons_zero, List.set_cons_succ, List.getElem_toArray, List.getElem_cons_succ, List.getElem_cons_zero]
            refine' wpAnyH_take (i := 14) (v := _) rfl (by kernel_rfl) (by kernel_rfl) (by kernel_rfl) (fun _ _ _ h => h) (Or.inl ⟨by rfl, ?y13⟩) (by assumption) ?_
            case y13 => (intro w hSw; (try dsimp only at hSw); go_simp; try with_reducible rfl)
            try simp only [Act.put, List.setIfInBounds_toArray, List.set_cons_zero, List.set_cons_succ, List.getElem_toArray, List.getElem_cons_succ, List.getElem_cons_zero]
            refine' wpAnyH_take (i := 15) (v := _) rfl (by kernel_rfl) (by kernel_rfl) (by kernel_rfl) (fun _ _ _ h => h) (Or.inl ⟨by rfl, ?y14⟩) (by assumption) ?_
            case y14 => (intro w hSw; (try dsimp only at hSw); go_simp; try with_reducible rfl)
            try simp only [Act.put, List.setIfInBounds_toArray, List.set_cons_zero, List.set_cons_succ, List.getElem_toArray, List.getElem_cons_succ, List.getElem_cons_zero]
            refine wpAnyH_ready (rs := [16]) (by kernel_rfl) (by simp) ?_
            refine AllReadyH.cons rfl (fun K hK => ?_) AllReadyH.nil
            go_simp
            refine hK.out _ _ ?_ (fun hN => ?_)
            · exact ⟨(World.cell?_setCell_other _ _ _ _ (by intro h; injection h with h _; exact h1 h.symm)).trans hH.1, (World.cell?_setCell_other _ _ _ _ (by intro h; injection h with h _; omega)).trans hH.2.1, (World.cell?_setCell_other _ _ _ _ (by intro h; injection h with h _; omega)).trans hH.2.2⟩
            clear hK K hH
            have hH := hN; clear hN
            try simp only [Act.put, List.setIfInBounds_toArray, List.set_cons_zero, List.set_cons_succ, List.getElem_toArray, List.getElem_cons_succ, List.getElem_cons_zero]
            refine wpAnyH_done (by kernel_rfl) ?_ _
            go_wp2_with fail
            go_roundw
            case rel =>
              refine ⟨k + 1, x + 1, _, m + 1, by have := HX.out; omega, by rw [DI.out, List.length_append]; have := HM.out; simp; omega, by have := HX.out; omega, rfl, bx_seti HD3.out 3 _, own_ks (S := fun k => k = bd) ?_ (ks_at _ rfl) (by intro k hk; omega), by omega, K3.out.trans (ks_at _ rfl)⟩
              rw [DI.out, fl_append, HZ.out]; exact HO3.out
            case measure => simp [intOf]; omega
          · skip
            go_simp
            go_at_call 27
            refine (floor_any py hb2 hb3 _).mono ?_
            rintro e w' ⟨rfl, rfl⟩
            go_wp2_with fail
            refine hK.out _ _ ?_ (fun hN => ?_)
            · exact hH
            clear hK K hH
            have hH := hN; clear hN
            try simp only [Act.put, List.setIfInBounds_toArray, List.set_cons_zero, List.set_cons_succ, List.getElem_toArray, List.getElem_cons_succ, List.getElem_cons_zero]
            refine' wpAnyH_take (i := 11) (v := _) rfl (by kernel_rfl) (by kernel_rfl) (by kernel_rfl) (fun _ _ _ h => h) (Or.inl ⟨by rfl, ?y15⟩) (by assumption) ?_
            case y15 => (intro w hSw; (try dsimp only at hSw); go_simp; try with_reducible rfl)
            try simp only [Act.put, List.setIfInBounds_toArray, List.set_cons_zero, List.set_cons_succ, List.getElem_toArray, List.getElem_cons_succ, List.getElem_cons_zero]
            refine wpAnyH_ready (rs := [4, 12]) (by kernel_rfl) (by simp) ?_
            refine AllReadyH.cons rfl (fun K hK => ?_) (AllReadyH.cons rfl (fun K hK => ?_) AllReadyH.nil)
            · skip
              go_simp
              refine hK.out _ _ ?_ (fun hN => ?_)
              · exact hH
              clear hK K hH
              have hH := hN; clear hN
              try simp only [Act.put, List.setIfInBounds_toArray, List.set_cons_zero, List.set_cons_succ, List.getElem_toArray, List.getElem_cons_succ, List.getElem_cons_zero]
              refine wpAnyH_ready (rs := [12]) (by kernel_rfl) (by simp) ?_
              refine AllReadyH.cons rfl (fun K hK => ?_) AllReadyH.nil
              go_simp
              refine hK.out _ _ ?_ (fun hN => ?_)
              · exact ⟨(World.cell?_alloc_past _ _ _ ltV2).trans hH.1, (World.cell?_alloc_past _ _ _ ltP2).trans hH.2.1, (World.cell?_alloc_past _ _ _ ltP2).trans hH.2.2⟩
              clear hK K hH
              have hH := hN; clear hN
              try simp only [Act.put, List.setIfInBounds_toArray, List.set_cons_zero, List.set_cons_succ, List.getElem_toArray, List.getElem_cons_succ, List.getElem_cons_zero]
              refine wpAnyH_ready (rs := [13]) (by kernel_rfl) (by simp) ?_
              refine AllReadyH.cons rfl (fun K hK => ?_) AllReadyH.nil
              refine step_append_lies _ (by rfl) (.tmp 29) (.tmp 37) 31 (by rfl) w.heap.size 23 i0 (.agg #[.int .i64 0, .int .i64 0]) 2 16 Try.underlying31 hi hz0 hz1 hz2 rfl (by omega) (.slice a m cap) m (fl (dl k)) (by rfl) (HO2.out.alloc _) ⟨V.heap.size, 0, none⟩ 1 1 [.int .i64 (fl64 px), .int .i64 (fl64 py)] (by rfl) rfl (World.news_of_block (World.alloc_heap_new _ _)) (by intro z hz; simp at hz; rcases hz with rfl | rfl <;> rfl) (by omega) (by unfold maxLen; omega) (by omega) (by simp <;> omega) (V.heap.size + 1) (by simp) ?_
              intro g cap' w3 hown3 hgrow3 hat3 hlt3
              have sV : w3.cell? ⟨bv, 0, none⟩ = some (.pointer (some ⟨bd, 0, none⟩)) := (hgrow3.cell_far ⟨bv, 0, none⟩ (by simp; omega) (fun e => by have := OB.out _ e.symm; simp at this; omega)).trans hH.1
              have sX : w3.cell? ⟨w1.heap.size, 0, none⟩ = some (.int .i64 px) := (hgrow3.cell_far ⟨w1.heap.size, 0, none⟩ (by simp; omega) (fun e => by have := OL.out _ e.symm; simp at this; omega)).trans hH.2.1
              have sY : w3.cell? ⟨w1.heap.size, 1, none⟩ = some (.int .i64 py) := (hgrow3.cell_far ⟨w1.heap.size, 1, none⟩ (by simp; omega) (fun e => by have := OL.out _ e.symm; simp at this; omega)).trans hH.2.2
              have bD3 : Bx w3 bd 59 [.int .u32 0, .int .i32 1, .int .u32 0, .slice a m cap] := (hgrow3.block bd (by simp; omega) (fun e => by have := OB.out _ e.symm; omega)).trans (HD2.out.alloc _)
              have K3 := Lib.hid (ks_grown (HK2.out.trans (Ks.of_gr ((Gr.refl V).alloc _))) hgrow3 OB.out)
              have HD3 := Lib.hid bD3; have HO3 := Lib.hid hown3
              have k3 := bD3.blk.cell 3 rfl; have q3 := bD3.blk.free 3 rfl
              clear hgrow3 hown3 bD3
              refine hK.out _ _ ?_ (fun hN => ?_)
              · exact ⟨sV, sX, sY⟩
              clear hK K hH
              have hH := hN; clear hN
              try simp only [Act.put, List.setIfInBounds_toArray, List.set_cons_zero, List.set_cons_succ, List.getElem_toArray, List.getElem_cons_succ, List.getElem_cons_zero]
              refine' wpAnyH_take (i := 14) (v := _) rfl (by kernel_rfl) (by kernel_rfl) (by kernel_rfl) (fun _ _ _ h => h) (Or.inl ⟨by rfl, ?y16⟩) (by assumption) ?_
              case y16 => (intro w hSw; (try dsimp only at hSw); go_simp; try with_reducible rfl)
              try simp only [Act.put, List.setIfInBounds_toArray, List.set_cons_zero, List.set_cons_succ, List.getElem_toArray, List.getElem_cons_succ, List.getElem_cons_zero]
              refine' wpAnyH_take (i := 15) (v := _) rfl (by kernel_rfl) (by kernel_rfl) (by kernel_rfl) (fun _ _ _ h => h) (Or.inl ⟨by rfl, ?y17⟩) (by assumption) ?_
              case y17 => (intro w hSw; (try dsimp only at hSw); go_simp; try with_reducible rfl)
              try simp only [Act.put, List.setIfInBounds_toArray, List.set_cons_zero, List.set_cons_succ, List.getElem_toArray, List.getElem_cons_succ, List.getElem_cons_zero]
              refine wpAnyH_ready (rs := [16]) (by kernel_rfl) (by simp) ?_
              refine AllReadyH.cons rfl (fun K hK => ?_) AllReadyH.nil
              go_simp
              refine hK.out _ _ ?_ (fun hN => ?_)
              · exact ⟨(World.cell?_setCell_other _ _ _ _ (by intro h; injection h with h _; exact h1 h.symm)).trans hH.1, (World.cell?_setCell_other _ _ _ _ (by intro h; injection h with h _; omega)).trans hH.2.1, (World.cell?_setCell_other _ _ _ _ (by intro h; injection h with h _; omega)).trans hH.2.2⟩
              clear hK K hH
              have hH := hN; clear hN
              try simp only [Act.put, List.setIfInBounds_toArray, List.set_cons_zero, List.set_cons_succ, List.getElem_toArray, List.getElem_cons_succ, List.getElem_cons_zero]
              refine wpAnyH_done (by kernel_rfl) ?_ _
              go_wp2_with fail
              go_roundw
              case rel =>
                refine ⟨k + 1, x + 1, _, m + 1, by have := HX.out; omega, by rw [DI.out, List.length_append]; have := HM.out; simp; omega, by have := HX.out; omega, rfl, bx_seti HD3.out 3 _, own_ks (S := fun k => k = bd) ?_ (ks_at _ rfl) (by intro k hk; omega), by omega, K3.out.trans (ks_at _ rfl)⟩
                rw [DI.out, fl_append, HZ.out]; exact HO3.out
              case measure => simp [intOf]; omega
            · skip
              go_simp
              refine hK.out _ _ ?_ (fun hN => ?_)
              · exact ⟨(World.cell?_alloc_past _ _ _ ltV2).trans hH.1, (World.cell?_alloc_past _ _ _ ltP2).trans hH.2.1, (World.cell?_alloc_past _ _ _ ltP2).trans hH.2.2⟩
              clear hK K hH
              have hH := hN; clear hN
              try simp only [Act.put, List.setIfInBounds_toArray, List.set_cons_zero, List.set_cons_succ, List.getElem_toArray, List.getElem_cons_succ, List.getElem_cons_zero]
              refine wpAnyH_ready (rs := [4]) (by kernel_rfl) (by simp) ?_
              refine AllReadyH.cons rfl (fun K hK => ?_) AllReadyH.nil
              go_simp
              refine hK.out _ _ ?_ (fun hN => ?_)
              · exact hH
              clear hK K hH
              have hH := hN; clear hN
              try simp only [Act.put, List.setIfInBounds_toArray, List.set_cons_zero, List.set_cons_succ, List.getElem_toArray, List.getElem_cons_succ, List.getElem_cons_zero]
              refine wpAnyH_ready (rs := [13]) (by kernel_rfl) (by simp) ?_
              refine AllReadyH.cons rfl (fun K hK => ?_) AllReadyH.nil
              refine step_append_lies _ (by rfl) (.tmp 29) (.tmp 37) 31 (by rfl) w.heap.size 23 i0 (.agg #[.int .i64 0, .int .i64 0]) 2 16 Try.underlying31 hi hz0 hz1 hz2 rfl (by omega) (.slice a m cap) m (fl (dl k)) (by rfl) (HO2.out.alloc _) ⟨V.heap.size, 0, none⟩ 1 1 [.int .i64 (fl64 px), .int .i64 (fl64 py)] (by rfl) rfl (World.news_of_block (World.alloc_heap_new _ _)) (by intro z hz; simp at hz; rcases hz with rfl | rfl <;> rfl) (by omega) (by unfold maxLen; omega) (by omega) (by simp <;> omega) (V.heap.size + 1) (by simp) ?_
              intro g cap' w3 hown3 hgrow3 hat3 hlt3
              have sV : w3.cell? ⟨bv, 0, none⟩ = some (.pointer (some ⟨bd, 0, none⟩)) := (hgrow3.cell_far ⟨bv, 0, none⟩ (by simp; omega) (fun e => by have := OB.out _ e.symm; simp at this; omega)).trans hH.1
              have sX : w3.cell? ⟨w1.heap.size, 0, none⟩ = some (.int .i64 px) := (hgrow3.cell_far ⟨w1.heap.size, 0, none⟩ (by simp; omega) (fun e => by have := OL.out _ e.symm; simp at this; omega)).trans hH.2.1
              have sY : w3.cell? ⟨w1.heap.size, 1, none⟩ = some (.int .i64 py) := (hgrow3.cell_far ⟨w1.heap.size, 1, none⟩ (by simp; omega) (fun e => by have := OL.out _ e.symm; simp at this; omega)).trans hH.2.2
              have bD3 : Bx w3 bd 59 [.int .u32 0, .int .i32 1, .int .u32 0, .slice a m cap] := (hgrow3.block bd (by simp; omega) (fun e => by have := OB.out _ e.symm; omega)).trans (HD2.out.alloc _)
              have K3 := Lib.hid (ks_grown (HK2.out.trans (Ks.of_gr ((Gr.refl V).alloc _))) hgrow3 OB.out)
              have HD3 := Lib.hid bD3; have HO3 := Lib.hid hown3
              have k3 := bD3.blk.cell 3 rfl; have q3 := bD3.blk.free 3 rfl
              clear hgrow3 hown3 bD3
              refine hK.out _ _ ?_ (fun hN => ?_)
              · exact ⟨sV, sX, sY⟩
              clear hK K hH
              have hH := hN; clear hN
              try simp only [Act.put, List.setIfInBounds_toArray, List.set_cons_zero, List.set_cons_succ, List.getElem_toArray, List.getElem_cons_succ, List.getElem_cons_zero]
              refine' wpAnyH_take (i := 14) (v := _) rfl (by kernel_rfl) (by kernel_rfl) (by kernel_rfl) (fun _ _ _ h => h) (Or.inl ⟨by rfl, ?y18⟩) (by assumption) ?_
              case y18 => (intro w hSw; (try dsimp only at hSw); go_simp; try with_reducible rfl)
              try simp only [Act.put, List.setIfInBounds_toArray, List.set_cons_zero, List.set_cons_succ, List.getElem_toArray, List.getElem_cons_succ, List.getElem_cons_zero]
              refine' wpAnyH_take (i := 15) (v := _) rfl (by kernel_rfl) (by kernel_rfl) (by kernel_rfl) (fun _ _ _ h => h) (Or.inl ⟨by rfl, ?y19⟩) (by assumption) ?_
              case y19 => (intro w hSw; (try dsimp only at hSw); go_simp; try with_reducible rfl)
              try simp only [Act.put, List.setIfInBounds_toArray, List.set_cons_zero, List.set_cons_succ, List.getElem_toArray, List.getElem_cons_succ, List.getElem_cons_zero]
              refine wpAnyH_ready (rs := [16]) (by kernel_rfl) (by simp) ?_
              refine AllReadyH.cons rfl (fun K hK => ?_) AllReadyH.nil
              go_simp
              refine hK.out _ _ ?_ (fun hN => ?_)
              · exact ⟨(World.cell?_setCell_other _ _ _ _ (by intro h; injection h with h _; exact h1 h.symm)).trans hH.1, (World.cell?_setCell_other _ _ _ _ (by intro h; injection h with h _; omega)).trans hH.2.1, (World.cell?_setCell_other _ _ _ _ (by intro h; injection h with h _; omega)).trans hH.2.2⟩
              clear hK K hH
              have hH := hN; clear hN
              try simp only [Act.put, List.setIfInBounds_toArray, List.set_cons_zero, List.set_cons_succ, List.getElem_toArray, List.getElem_cons_succ, List.getElem_cons_zero]
              refine wpAnyH_done (by kernel_rfl) ?_ _
              go_wp2_with fail
              go_roundw
              case rel =>
                refine ⟨k + 1, x + 1, _, m + 1, by have := HX.out; omega, by rw [DI.out, List.length_append]; have := HM.out; simp; omega, by have := HX.out; omega, rfl, bx_seti HD3.out 3 _, own_ks (S := fun k => k = bd) ?_ (ks_at _ rfl) (by intro k hk; omega), by omega, K3.out.trans (ks_at _ rfl)⟩
                rw [DI.out, fl_append, HZ.out]; exact HO3.out
              case measure => simp [intOf]; omega
        -- END
    · have hgn : ¬ (x ≤ 65535 ∧ m < n) := hg
      obtain ⟨hmn, hpt⟩ := dl_end (k := k) (n := n) hk (by have := HM.out; omega) (by have := HM.out; have := HX.out; omega) hn
      have hmn2 : m = n := by have := HM.out; omega
      subst hmn2
      have HPT := Lib.hid hpt
      clear hpt hmn hgn
      by_cases hx3 : x ≤ 65535
      · have d1 : decide (x ≤ 65535) = true := by simp; omega
        have d2 : decide ((m : Int) < (m : Int)) = false := by simp
        go_wp2_with fail
        refine wp_region_quiet_lit (by kernel_rfl) (by kernel_rfl) ?_
        repeat (go_big_quiet_step (fail))
        refine wpQuiet_nil ?_
        rintro _ ⟨n', rfl⟩
        go_wp2_with fail
        go_end0
        exact ⟨rfl, _, HDD.out, by rw [← HPT.out]; exact HO.out, HK.out.trans (Ks.of_gr ((Gr.refl _).dn n'))⟩
      · have d1 : decide (x ≤ 65535) = false := by simp; omega
        go_wp2_with fail
        refine wp_region_quiet_lit (by kernel_rfl) (by kernel_rfl) ?_
        repeat (go_big_quiet_step (fail))
        refine wpQuiet_nil ?_
        rintro _ ⟨n', rfl⟩
        go_wp2_with fail
        go_end0
        exact ⟨rfl, _, HDD.out, by rw [← HPT.out]; exact HO.out, HK.out.trans (Ks.of_gr ((Gr.refl _).dn n'))⟩
end Mt
end Go.Proofs.Ytndnjjeildnhdaa
