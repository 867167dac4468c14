/- Small points, in rows of any length: package sign's Small3, the reference's All3. -/
import Derived.Test.YtfpnkcmplmkghaaRw
import Derived.Test.YtfpnkcmplmkghaaOr
import Derived.Test.YtfpnkcmplmkghaaS1
import Derived.WalkKit
import Derived.WalkSpells
import Derived.Deep.QuietTactic
import Derived.BigQuiet
import Derived.Lib.Hide
set_option linter.unusedVariables false
set_option linter.unusedSimpArgs false
namespace Go.Proofs.Ytfpnkcmplmkghaa
open Go.RowKit
namespace Sy
def ss (n : Int) : Bool := decide (-16384 ≤ n) && decide (n ≤ 16384)
def ss3 (p : P3) : Bool := ss p.x && ss p.y && ss p.z
theorem all_take_succ {α : Type} (p : α → Bool) (zs : List α) (k : Nat) (h : k < zs.length) : (zs.take (k + 1)).all p = ((zs.take k).all p && p (zs[k])) := by
  rw [List.take_succ_eq_append_getElem h, List.all_append]; simp
theorem all_false_of_at {α : Type} (p : α → Bool) (zs : List α) (k : Nat) (h : k < zs.length) (hp : p zs[k] = false) : zs.all p = false := by
  rw [Bool.eq_false_iff]; intro hh; rw [List.all_eq_true] at hh
  have := hh _ (List.getElem_mem h); rw [hp] at this; exact absurd this (by simp)
theorem withinS (a : Option Addr) (len cap : Nat) (zs : List Int) (w : World) (hr : IsRow .i64 w a len zs) :
    Calls Try.prog 113 #[.int .i64 16384, .slice a len cap] w fun e w' => e = .returned (.bool (zs.all ss)) ∧ w = w' := by
  obtain ⟨hz, hm, hwz, hr⟩ := hr
  clear hwz
  by_cases h0 : len = 0
  · subst h0
    have : zs = [] := List.eq_nil_of_length_eq_zero hz
    subst this
    clear hr hz
    go_enter Try.func113, Try.ntmps113
    go_wp2
    go_loop [9] (fun i => i = .int .i64 0) (fun _ => 0)
    case atStart => exact rfl
    case round =>
      obtain rfl := hrel
      go_wp2
      go_ret
      exact ⟨rfl, rfl⟩
  · obtain ⟨b, off, rfl, hcell⟩ := hr (by omega)
    have HC := Lib.hid hcell; have HZ := Lib.hid hz
    clear hr h0 hcell hz
    go_enter Try.func113, Try.ntmps113
    go_wp2
    go_loop [9] (fun i => ∃ k : Nat, k ≤ len ∧ i = .int .i64 k ∧ (zs.take k).all ss = true) (fun i => len - (intOf i).toNat)
    case atStart => exact ⟨0, Nat.zero_le _, rfl, rfl⟩
    case round =>
      obtain ⟨k, hk, rfl, hall⟩ := hrel
      have HA := Lib.hid hall; clear hall
      by_cases hlt : k < len
      · have hkl : k < zs.length := by rw [HZ.out]; exact hlt
        have hc := HC.out k hlt
        have hg : zs.getD k 0 = zs[k] := by simp [List.getD, List.getElem?_eq_getElem hkl]
        have hs := all_take_succ ss zs k hkl
        have hf := all_false_of_at ss zs k hkl
        rw [hg] at hc
        generalize zs[k] = z at hc hs hf
        have HS := Lib.hid hs; have HF := Lib.hid hf; clear hs hf hg hkl
        by_cases h1 : z < -16384
        · go_wp2
          go_ret
          exact ⟨retb (HF.out (by unfold ss; simp; omega)).symm, rfl⟩
        · by_cases h2 : 16384 < z
          · go_wp2
            go_ret
            exact ⟨retb (HF.out (by unfold ss; simp; omega)).symm, rfl⟩
          · go_wp2
            go_round
            case rel => exact ⟨k + 1, by omega, by go_num, by rw [HS.out, HA.out]; unfold ss; simp; omega⟩
            case measure => simp [intOf]; omega
      · have hkl : k = len := by omega
        subst hkl
        have ha := HA.out
        rw [List.take_of_length_le (Nat.le_of_eq HZ.out)] at ha
        have HA2 := Lib.hid ha; clear ha
        go_wp2
        go_ret
        exact ⟨retb HA2.out.symm, rfl⟩

theorem small3_any (a : Option Addr) (len cap : Nat) (ps : List P3) (w : World) (hr : IsP3s w a len ps) (hI : ∀ p ∈ ps, I p.x ∧ I p.y ∧ I p.z) :
    Calls Try.prog 74 #[.slice a len cap] w fun e w' => e = .returned (.bool (ps.all ss3)) ∧ Gr w w' := by
  obtain ⟨hz, hm, hr⟩ := hr
  by_cases h0 : len = 0
  · subst h0
    have : ps = [] := List.eq_nil_of_length_eq_zero hz
    subst this
    clear hr hz hI
    go_enter Try.func74, Try.ntmps74
    go_wp2
    go_loop [7] (fun i => i = .int .i64 0) (fun _ => 0)
    case atStart => exact rfl
    case round =>
      obtain rfl := hrel
      go_wp2
      go_ret
      exact ⟨rfl, Gr.refl _⟩
  · obtain ⟨b, off, rfl, hb, hcell⟩ := hr (by omega)
    have HC := Lib.hid hcell; have HZ := Lib.hid hz; have HI := Lib.hid hI
    clear hr h0 hcell hz hI
    go_enter Try.func74, Try.ntmps74
    go_wp2
    go_loopw [7] (fun i wr => ∃ k : Nat, k ≤ len ∧ i = .int .i64 k ∧ (ps.take k).all ss3 = true ∧ Gr w wr) (fun i _ => len - (intOf i).toNat)
    case atStart => exact ⟨0, Nat.zero_le _, rfl, rfl, Gr.refl _⟩
    case round =>
      obtain ⟨k, hk, rfl, hall, hgr⟩ := hrel
      have HA := Lib.hid hall; clear hall
      by_cases hlt : k < len
      · have hkl : k < ps.length := by rw [HZ.out]; exact hlt
        obtain ⟨c0, c1, c2⟩ := HC.out k ps[k] (List.getElem?_eq_getElem hkl)
        rw [← hgr.cell (p := ⟨b, _, none⟩) hb] at c0 c1 c2
        have hs := all_take_succ ss3 ps k hkl
        have hf := all_false_of_at ss3 ps k hkl
        obtain ⟨i1, i2, i3⟩ := HI.out _ (List.getElem_mem hkl)
        generalize ps[k] = p at c0 c1 c2 hs hf i1 i2 i3
        obtain ⟨x, y, z⟩ := p
        dsimp only at c0 c1 c2 i1 i2 i3
        have HS := Lib.hid hs; have HF := Lib.hid hf; have I1 := Lib.hid i1; have I2 := Lib.hid i2; have I3 := Lib.hid i3; clear hs hf hkl i1 i2 i3
        by_cases hn : [x, y, z].all ss = true
        · have HN := Lib.hid hn; clear hn
          go_wp2_with (go_at_call 113; refine (withinS _ _ _ [x, y, z] _ (by exact IsRow.of_blk3 (Blk.new (by simp)) I1.out I2.out I3.out)).mono ?_; rintro e w' ⟨rfl, rfl⟩; rw [HN.out])
          go_roundw
          case rel => exact ⟨k + 1, by omega, by go_num, by rw [HS.out, HA.out]; have := HN.out; simpa [ss3, and_assoc] using this, (hgr.alloc _).alloc _⟩
          case measure => simp [intOf]; omega
        · rw [Bool.not_eq_true] at hn
          have HN := Lib.hid hn; clear hn
          go_wp2_with (go_at_call 113; refine (withinS _ _ _ [x, y, z] _ (by exact IsRow.of_blk3 (Blk.new (by simp)) I1.out I2.out I3.out)).mono ?_; rintro e w' ⟨rfl, rfl⟩; rw [HN.out])
          go_ret
          exact ⟨retb (HF.out (by have := HN.out; simpa [ss3, and_assoc] using this)).symm, (hgr.alloc _).alloc _⟩
      · have hkl : k = len := by omega
        subst hkl
        have ha := HA.out
        rw [List.take_of_length_le (Nat.le_of_eq HZ.out)] at ha
        have HA2 := Lib.hid ha; clear ha
        go_wp2
        go_ret
        exact ⟨retb HA2.out.symm, hgr⟩

/-- A point out of a row's element. -/
def p3 (z : List Int) : P3 := ⟨z.getD 0 0, z.getD 1 0, z.getD 2 0⟩
def smallL (zs : List (List Int)) : Bool := zs.all fun z => z.all Sx.ss
theorem rows_p3 {w : World} {a : Option Addr} {len : Nat} {zs : List (List Int)} (h : Oi.IsRows 3 w a len zs) : IsP3s w a len (zs.map p3) := by
  obtain ⟨h1, h2, h3, h4⟩ := h
  refine ⟨by rw [List.length_map, h1], h2, fun hl => ?_⟩
  obtain ⟨b, off, e, hc⟩ := h4 hl
  refine ⟨b, off, e, lt_of_cell (hc 0 0 hl (by omega)), fun i p hi => ?_⟩
  rw [List.getElem?_map, Option.map_eq_some_iff] at hi
  obtain ⟨z, hz, rfl⟩ := hi
  have hil : i < zs.length := (List.getElem?_eq_some_iff.1 hz).1
  have e2 : zs.getD i [] = z := by rw [List.getD_eq_getElem?_getD, hz]; rfl
  have c0 := hc i 0 (by omega) (by omega); have c1 := hc i 1 (by omega) (by omega); have c2 := hc i 2 (by omega) (by omega)
  rw [e2] at c0 c1 c2
  exact ⟨c0, c1, c2⟩
theorem all_p3 : ∀ {zs : List (List Int)}, (∀ z ∈ zs, z.length = 3 ∧ ∀ x ∈ z, I x) → (zs.map p3).all ss3 = smallL zs
  | [], _ => rfl
  | z :: zs, h => by
    have h1 := (h z (by simp)).1
    have ih := all_p3 (zs := zs) (fun y hy => h y (by simp [hy]))
    obtain ⟨x, l1, rfl, e1⟩ := Sx.cut1 h1
    obtain ⟨y, l2, rfl, e2⟩ := Sx.cut1 e1
    obtain ⟨u, l3, rfl, e3⟩ := Sx.cut1 e2
    obtain rfl := Sx.cut0 e3
    unfold smallL at *
    rw [List.map_cons, List.all_cons, ih, List.all_cons]
    congr 1
    simp [p3, ss3, ss, Sx.ss, Bool.and_assoc]
theorem small_any (a : Option Addr) (len cap : Nat) (zs : List (List Int)) (w : World) (hr : Oi.IsRows 3 w a len zs) :
    Calls Try.prog 74 #[.slice a len cap] w fun e w' => e = .returned (.bool (smallL zs)) ∧ Gr w w' := by
  rw [← all_p3 hr.2.2.1]
  refine small3_any a len cap _ w (rows_p3 hr) fun p hp => ?_
  rw [List.mem_map] at hp
  obtain ⟨z, hz, rfl⟩ := hp
  obtain ⟨h1, h2⟩ := hr.2.2.1 z hz
  obtain ⟨x, l1, rfl, e1⟩ := Sx.cut1 h1
  obtain ⟨y, l2, rfl, e2⟩ := Sx.cut1 e1
  obtain ⟨u, l3, rfl, e3⟩ := Sx.cut1 e2
  obtain rfl := Sx.cut0 e3
  exact ⟨h2 x (by simp), h2 y (by simp), h2 u (by simp)⟩
/-- An element of three numbers, opened. -/
theorem rows3_at {w : World} {a : Option Addr} {len i : Nat} {zs : List (List Int)} (h : Oi.IsRows 3 w a len zs) (hi : i < len) : ∃ b off x y z, a = some ⟨b, off, none⟩ ∧ b < w.heap.size ∧ zs.getD i [] = [x, y, z] ∧ w.cell? ⟨b, off + i * 3, none⟩ = some (.int .i64 x) ∧ w.cell? ⟨b, off + i * 3 + 1, none⟩ = some (.int .i64 y) ∧ w.cell? ⟨b, off + i * 3 + 2, none⟩ = some (.int .i64 z) ∧ I x ∧ I y ∧ I z := by
  obtain ⟨h1, h2, h3, h4⟩ := h
  obtain ⟨b, off, e, hc⟩ := h4 (by omega)
  have hm := h3 (zs.getD i []) (by rw [List.getD_eq_getElem?_getD, List.getElem?_eq_getElem (by omega)]; exact List.getElem_mem _)
  have c0 := hc i 0 hi (by omega)
  have c1 := hc i 1 hi (by omega)
  have c2 := hc i 2 hi (by omega)
  generalize zs.getD i [] = z at hm c0 c1 c2
  obtain ⟨x, l1, rfl, e1⟩ := Sx.cut1 hm.1
  obtain ⟨y, l2, rfl, e2⟩ := Sx.cut1 e1
  obtain ⟨u, l3, rfl, e3⟩ := Sx.cut1 e2
  obtain rfl := Sx.cut0 e3
  exact ⟨b, off, x, y, u, e, lt_of_cell c0, rfl, c0, c1, c2, hm.2 x (by simp), hm.2 y (by simp), hm.2 u (by simp)⟩
theorem rs3_any (x y z : Int) (w : World) : Calls Try.prog 103 #[.agg #[.int .i64 x, .int .i64 y, .int .i64 z]] w
      fun e w' => e = .returned (.bool ([x, y, z].all Sx.ss)) ∧ Gr w w' := Sx.flat_run (Sx.c_rs3 w) rfl [x, y, z] rfl trivial
set_option maxHeartbeats 2000000 in
theorem all3_any (a : Option Addr) (len cap : Nat) (zs : List (List Int)) (w : World) (hr : Oi.IsRows 3 w a len zs) :
    Calls Try.prog 101 #[.slice a len cap] w fun e w' => e = .returned (.bool (smallL zs)) ∧ Gr w w' := by
  have hm := hr.2.1
  have HR := Lib.hid hr
  clear hr
  go_enter Try.func101, Try.ntmps101
  go_wp2_with fail
  go_loopw [3] (fun i wr => ∃ k : Nat, k ≤ len ∧ i = .int .i64 k ∧ smallL (zs.take k) = true ∧ Gr w wr) (fun i _ => len - (intOf i).toNat)
  case atStart => exact ⟨0, Nat.zero_le _, rfl, rfl, Gr.refl _⟩
  case round =>
    obtain ⟨k, hk, rfl, hall, hg⟩ := hrel
    by_cases hlt : k < len
    · have hkl : k < zs.length := by rw [HR.out.1]; exact hlt
      have hs := all_take_succ (fun z => z.all Sx.ss) zs k hkl
      have hf := all_false_of_at (fun z => z.all Sx.ss) zs k hkl
      obtain ⟨b, off, x, y, z, rfl, hb, ez, c0, c1, c2, _, _, _⟩ := rows3_at (HR.out.later hg) hlt
      have e0 : zs[k] = [x, y, z] := by rw [← ez]; simp [List.getD, List.getElem?_eq_getElem hkl]
      rw [e0] at hs hf
      have HS := Lib.hid hs; have HF := Lib.hid hf; have HA := Lib.hid hall; have HG := Lib.hid hg
      clear hs hf hall hg ez e0 hkl
      go_wp2_with fail
      refine (rs3_any x y z _).mono ?_; rintro e w2 ⟨rfl, g2⟩
      have HG2 := Lib.hid (HG.out.trans g2); clear g2 c0 c1 c2
      cases hn : [x, y, z].all Sx.ss
      · have HN := Lib.hid hn; clear hn
        go_wp2
        go_ret
        exact ⟨by show Ending.returned (.bool false) = _; rw [show smallL zs = false from HF.out HN.out], HG2.out⟩
      · have HN := Lib.hid hn; clear hn
        go_wp2
        go_roundw
        case rel => exact ⟨k + 1, by omega, by go_num, (by show List.all _ _ = true; rw [HS.out]; have h1 := HA.out; have h2 := HN.out; show (smallL (zs.take k) && [x, y, z].all Sx.ss) = true; rw [h1, h2]; rfl), HG2.out⟩
        case measure => simp [intOf]; omega
    · have hkl : k = len := by omega
      subst hkl
      rw [List.take_of_length_le (Nat.le_of_eq HR.out.1)] at hall
      have HA := Lib.hid hall; have HG := Lib.hid hg; clear hall hg
      go_wp2
      go_ret
      exact ⟨by show Ending.returned (.bool true) = _; rw [HA.out], HG.out⟩
end Sy
end Go.Proofs.Ytfpnkcmplmkghaa
