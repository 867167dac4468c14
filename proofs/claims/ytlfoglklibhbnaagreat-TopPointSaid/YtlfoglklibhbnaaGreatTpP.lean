/- Parts of the proof of TopPoint. No condition of their own. -/
import Derived.Test.YtlfoglklibhbnaaGreatRows
import Derived.Test.YtlfoglklibhbnaaGreatTpA
set_option linter.unusedVariables false
set_option linter.unusedSimpArgs false
namespace Go.Proofs.YtlfoglklibhbnaaGreat
open Go.RowKit
namespace Vc
def nr (n : Int) : Bool := decide (-1048576 ≤ n) && decide (n ≤ 1048576)
theorem all_take_succ {α : Type} (p : α → Bool) (zs : List α) (k : Nat) (h : k < zs.length) : (zs.take (k + 1)).all p = ((zs.take k).all p && p (zs[k])) := by
 rw [List.take_succ_eq_append_getElem h, List.all_append]; simp
theorem all_false_of_at {α : Type} (p : α → Bool) (zs : List α) (k : Nat) (h : k < zs.length) (hp : p zs[k] = false) : zs.all p = false := by
 rw [Bool.eq_false_iff]; intro hh; rw [List.all_eq_true] at hh
 have := hh _ (List.getElem_mem h); rw [hp] at this; exact absurd this (by simp)
theorem near_any (a : Option Addr) (len cap : Nat) (zs : List Int) (w : World) (hr : IsRow .i64 w a len zs) :
  Calls Tryz.prog 112 #[.slice a len cap] w fun e w' => e = .returned (.bool (zs.all nr)) ∧ w = w' := by
 obtain ⟨hz, hm, hwz, hr⟩ := hr
 clear hwz
 by_cases h0 : len = 0
 ·subst h0
  have : zs = [] := List.eq_nil_of_length_eq_zero hz
  subst this
  clear hr hz
  go_enter Tryz.func112, Tryz.ntmps112
  go_wp2
  go_loop [7] (fun i => i = .int .i64 0) (fun _ => 0)
  case atStart => exact rfl
  case round =>
   obtain rfl := hrel
   go_wp2
   go_ret
   exact ⟨rfl, rfl⟩
 ·obtain ⟨b, off, rfl, hcell⟩ := hr (by omega)
  have HC := Lib.hid hcell; have HZ := Lib.hid hz
  clear hr h0 hcell hz
  go_enter Tryz.func112, Tryz.ntmps112
  go_wp2
  go_loop [7] (fun i => ∃ k : Nat, k ≤ len ∧ i = .int .i64 k ∧ (zs.take k).all nr = true) (fun i => len - (intOf i).toNat)
  case atStart => exact ⟨0, Nat.zero_le _, rfl, rfl⟩
  case round =>
   obtain ⟨k, hk, rfl, hall⟩ := hrel
   have HA := Lib.hid hall; clear hall
   by_cases hlt : k < len
   ·have hkl : k < zs.length := by rw [HZ.out]; exact hlt
    have hc := HC.out k hlt
    have hg : zs.getD k 0 = zs[k] := by simp [List.getD, List.getElem?_eq_getElem hkl]
    have hs := all_take_succ nr zs k hkl
    have hf := all_false_of_at nr zs k hkl
    rw [hg] at hc
    generalize zs[k] = z at hc hs hf
    have HS := Lib.hid hs; have HF := Lib.hid hf; clear hs hf hg hkl
    by_cases h1 : z < -1048576
    ·go_wp2
     go_ret
     exact ⟨retb (HF.out (by unfold nr; simp; omega)).symm, rfl⟩
    ·by_cases h2 : 1048576 < z
     ·go_wp2
      go_ret
      exact ⟨retb (HF.out (by unfold nr; simp; omega)).symm, rfl⟩
     ·go_wp2
      go_round
      case rel => exact ⟨k + 1, by omega, by go_num, by rw [HS.out, HA.out]; unfold nr; simp; omega⟩
      case measure => simp [intOf]; omega
   ·have hkl : k = len := by omega
    subst hkl
    have ha := HA.out
    rw [List.take_of_length_le (Nat.le_of_eq HZ.out)] at ha
    have HA2 := Lib.hid ha; clear ha
    go_wp2
    go_ret
    exact ⟨retb HA2.out.symm, rfl⟩
theorem parts_any (x y z : Int) (w : World) :
  Calls Tryz.prog 86 #[.agg #[.int .i64 x, .int .i64 y, .int .i64 z]] w fun e w' => e = .returned (.agg #[.int .i64 x, .int .i64 y, .int .i64 z]) ∧
   (w.alloc (.cells #[.int .i64 x, .int .i64 y, .int .i64 z] 63)).alloc (.cells #[.int .i64 x, .int .i64 y, .int .i64 z] 162) = w' := by
 go_enter Tryz.func86, Tryz.ntmps86
 go_wp2
 exact bodyPost_ret (v := .agg #[.int .i64 x, .int .i64 y, .int .i64 z]) (by simp [results, Tryz.results86, go_sem]) rfl ⟨rfl, rfl⟩
def nr3 (p : P3) : Bool := nr p.x && nr p.y && nr p.z
def nr2 (p : P2) : Bool := nr p.x && nr p.y
theorem is3_any (a : Option Addr) (len cap : Nat) (ps : List P3) (w : World) (hr : IsP3s w a len ps) (hI : ∀ p ∈ ps, I p.x ∧ I p.y ∧ I p.z) :
  Calls Tryz.prog 106 #[.slice a len cap] w fun e w' => e = .returned (.bool (ps.all nr3)) ∧ Gr w w' := by
 obtain ⟨hz, hm, hr⟩ := hr
 by_cases h0 : len = 0
 ·subst h0
  have : ps = [] := List.eq_nil_of_length_eq_zero hz
  subst this
  clear hr hz hI
  go_enter Tryz.func106, Tryz.ntmps106
  go_wp2
  go_loop [7] (fun i => i = .int .i64 0) (fun _ => 0)
  case atStart => exact rfl
  case round =>
   obtain rfl := hrel
   go_wp2
   go_ret
   exact ⟨rfl, Gr.refl _⟩
 ·obtain ⟨b, off, rfl, hb, hcell⟩ := hr (by omega)
  have HC := Lib.hid hcell; have HZ := Lib.hid hz; have HI := Lib.hid hI
  clear hr h0 hcell hz hI
  go_enter Tryz.func106, Tryz.ntmps106
  go_wp2
  go_loopw [7] (fun i wr => ∃ k : Nat, k ≤ len ∧ i = .int .i64 k ∧ (ps.take k).all nr3 = true ∧ Gr w wr) (fun i _ => len - (intOf i).toNat)
  case atStart => exact ⟨0, Nat.zero_le _, rfl, rfl, Gr.refl _⟩
  case round =>
   obtain ⟨k, hk, rfl, hall, hgr⟩ := hrel
   have HA := Lib.hid hall; clear hall
   by_cases hlt : k < len
   ·have hkl : k < ps.length := by rw [HZ.out]; exact hlt
    obtain ⟨c0, c1, c2⟩ := HC.out k ps[k] (List.getElem?_eq_getElem hkl)
    rw [← hgr.cell (p := ⟨b, _, none⟩) hb] at c0 c1 c2
    have hs := all_take_succ nr3 ps k hkl
    have hf := all_false_of_at nr3 ps k hkl
    obtain ⟨i1, i2, i3⟩ := HI.out _ (List.getElem_mem hkl)
    generalize ps[k] = p at c0 c1 c2 hs hf i1 i2 i3
    obtain ⟨x, y, z⟩ := p
    dsimp only at c0 c1 c2 i1 i2 i3
    have HS := Lib.hid hs; have HF := Lib.hid hf; have I1 := Lib.hid i1; have I2 := Lib.hid i2; have I3 := Lib.hid i3; clear hs hf hkl i1 i2 i3
    by_cases hn : [x, y, z].all nr = true
    ·have HN := Lib.hid hn; clear hn
     go_wp2_with (go_at_call 112; refine (near_any _ _ _ [x, y, z] _ (by exact IsRow.of_blk3 (Blk.new (by simp)) I1.out I2.out I3.out)).mono ?_; rintro e w' ⟨rfl, rfl⟩; rw [HN.out])
     go_roundw
     case rel => exact ⟨k + 1, by omega, by go_num, by rw [HS.out, HA.out]; have := HN.out; simpa [nr3, and_assoc] using this, (hgr.alloc _).alloc _⟩
     case measure => simp [intOf]; omega
    ·rw [Bool.not_eq_true] at hn
     have HN := Lib.hid hn; clear hn
     go_wp2_with (go_at_call 112; refine (near_any _ _ _ [x, y, z] _ (by exact IsRow.of_blk3 (Blk.new (by simp)) I1.out I2.out I3.out)).mono ?_; rintro e w' ⟨rfl, rfl⟩; rw [HN.out])
     go_ret
     exact ⟨retb (HF.out (by have := HN.out; simpa [nr3, and_assoc] using this)).symm, (hgr.alloc _).alloc _⟩
   ·have hkl : k = len := by omega
    subst hkl
    have ha := HA.out
    rw [List.take_of_length_le (Nat.le_of_eq HZ.out)] at ha
    have HA2 := Lib.hid ha; clear ha
    go_wp2
    go_ret
    exact ⟨retb HA2.out.symm, hgr⟩
theorem is2_any (a : Option Addr) (len cap : Nat) (ps : List P2) (w : World) (hr : IsP2s w a len ps) (hI : ∀ p ∈ ps, I p.x ∧ I p.y) :
  Calls Tryz.prog 88 #[.slice a len cap] w fun e w' => e = .returned (.bool (ps.all nr2)) ∧ Gr w w' := by
 obtain ⟨hz, hm, hr⟩ := hr
 by_cases h0 : len = 0
 ·subst h0
  have : ps = [] := List.eq_nil_of_length_eq_zero hz
  subst this
  clear hr hz hI
  go_enter Tryz.func88, Tryz.ntmps88
  go_wp2
  go_loop [7] (fun i => i = .int .i64 0) (fun _ => 0)
  case atStart => exact rfl
  case round =>
   obtain rfl := hrel
   go_wp2
   go_ret
   exact ⟨rfl, Gr.refl _⟩
 ·obtain ⟨b, off, rfl, hb, hcell⟩ := hr (by omega)
  have HC := Lib.hid hcell; have HZ := Lib.hid hz; have HI := Lib.hid hI
  clear hr h0 hcell hz hI
  go_enter Tryz.func88, Tryz.ntmps88
  go_wp2
  go_loopw [7] (fun i wr => ∃ k : Nat, k ≤ len ∧ i = .int .i64 k ∧ (ps.take k).all nr2 = true ∧ Gr w wr) (fun i _ => len - (intOf i).toNat)
  case atStart => exact ⟨0, Nat.zero_le _, rfl, rfl, Gr.refl _⟩
  case round =>
   obtain ⟨k, hk, rfl, hall, hgr⟩ := hrel
   have HA := Lib.hid hall; clear hall
   by_cases hlt : k < len
   ·have hkl : k < ps.length := by rw [HZ.out]; exact hlt
    obtain ⟨c0, c1⟩ := HC.out k ps[k] (List.getElem?_eq_getElem hkl)
    rw [← hgr.cell (p := ⟨b, _, none⟩) hb] at c0 c1
    have hs := all_take_succ nr2 ps k hkl
    have hf := all_false_of_at nr2 ps k hkl
    obtain ⟨i1, i2⟩ := HI.out _ (List.getElem_mem hkl)
    generalize ps[k] = p at c0 c1 hs hf i1 i2
    obtain ⟨x, y⟩ := p
    dsimp only at c0 c1 i1 i2
    have HS := Lib.hid hs; have HF := Lib.hid hf; have I1 := Lib.hid i1; have I2 := Lib.hid i2; clear hs hf hkl i1 i2
    by_cases hn : [x, y].all nr = true
    ·have HN := Lib.hid hn; clear hn
     go_wp2_with (go_at_call 112; refine (near_any _ _ _ [x, y] _ (by exact IsRow.of_blk2 (Blk.new (by simp)) I1.out I2.out)).mono ?_; rintro e w' ⟨rfl, rfl⟩; rw [HN.out])
     go_roundw
     case rel => exact ⟨k + 1, by omega, by go_num, by rw [HS.out, HA.out]; have := HN.out; simpa [nr2, and_assoc] using this, (hgr.alloc _).alloc _⟩
     case measure => simp [intOf]; omega
    ·rw [Bool.not_eq_true] at hn
     have HN := Lib.hid hn; clear hn
     go_wp2_with (go_at_call 112; refine (near_any _ _ _ [x, y] _ (by exact IsRow.of_blk2 (Blk.new (by simp)) I1.out I2.out)).mono ?_; rintro e w' ⟨rfl, rfl⟩; rw [HN.out])
     go_ret
     exact ⟨retb (HF.out (by have := HN.out; simpa [nr2, and_assoc] using this)).symm, (hgr.alloc _).alloc _⟩
   ·have hkl : k = len := by omega
    subst hkl
    have ha := HA.out
    rw [List.take_of_length_le (Nat.le_of_eq HZ.out)] at ha
    have HA2 := Lib.hid ha; clear ha
    go_wp2
    go_ret
    exact ⟨retb HA2.out.symm, hgr⟩
end Vc
end Go.Proofs.YtlfoglklibhbnaaGreat
