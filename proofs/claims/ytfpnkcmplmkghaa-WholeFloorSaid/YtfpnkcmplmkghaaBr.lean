/- Numbers in digits: Other, Sum, Less, walked. -/
import Derived.Test.YtfpnkcmplmkghaaBp
import Derived.Deep.RegionHeld3
set_option linter.unusedVariables false
set_option linter.unusedSimpArgs false
namespace Go.Proofs.Ytfpnkcmplmkghaa
open Go.RowKit
namespace Bg
theorem len_40 {w : World} {p : Option Addr} {len : Nat} {zs : List Int} {m : Int} (hr : IsRow .i64 w p len zs) (hc : Canon zs) (hv : val zs = (m.natAbs : Int)) (h40 : (m.natAbs : Int) < p10 40) : len ≤ 60 := by
  have := hc.len_le (n := 40) (by rw [hv]; exact h40)
  rw [← hr.1]; omega
/-- The cell for the answer, whatever lies in it. -/
def Res (w : World) (b : Nat) : Prop := ∃ u v, Blk w b [u, v]
theorem Res.gr {w w' : World} {b : Nat} (h : Res w b) (g : Gr w w') : Res w' b := by obtain ⟨u, v, h⟩ := h; exact ⟨u, v, h.gr g⟩
theorem Res.set {w : World} {b : Nat} (h : Res w b) (x y : Value) : Res ((w.setCell ⟨b, 0, none⟩ x).setCell ⟨b, 1, none⟩ y) b := by obtain ⟨u, v, h⟩ := h; exact ⟨x, y, h.set2 x y⟩
theorem Res.lt {w : World} {b : Nat} (h : Res w b) : b < w.heap.size := by obtain ⟨u, v, h⟩ := h; exact h.1
/-- What holds throughout a region of Sum. -/
abbrev SS (w : World) (ba : Bool) (pa : Option Addr) (la ca : Nat) (bb : Bool) (pb : Option Addr) (lb cb : Nat) (x : World) : Prop :=
  (Gr w x ∧ Res x (w.heap.size + 2)) ∧ x.cell? ⟨w.heap.size, 0, none⟩ = some (.bool ba) ∧ x.cell? ⟨w.heap.size, 1, none⟩ = some (.slice pa la ca) ∧ x.cell? ⟨w.heap.size + 1, 0, none⟩ = some (.bool bb) ∧ x.cell? ⟨w.heap.size + 1, 1, none⟩ = some (.slice pb lb cb)
theorem SS.gr {w : World} {ba : Bool} {pa : Option Addr} {la ca : Nat} {bb : Bool} {pb : Option Addr} {lb cb : Nat} {x y : World} (h : SS w ba pa la ca bb pb lb cb x) (g : Gr x y) : SS w ba pa la ca bb pb lb cb y := by
  obtain ⟨⟨h1, h2⟩, h3, h4, h5, h6⟩ := h
  exact ⟨⟨h1.trans g, h2.gr g⟩, by rw [g.cell (lt_of_cell h3)]; exact h3, by rw [g.cell (lt_of_cell h4)]; exact h4, by rw [g.cell (lt_of_cell h5)]; exact h5, by rw [g.cell (lt_of_cell h6)]; exact h6⟩
theorem SS.set {w : World} {ba : Bool} {pa : Option Addr} {la ca : Nat} {bb : Bool} {pb : Option Addr} {lb cb : Nat} {x : World} (h : SS w ba pa la ca bb pb lb cb x) (u v : Value) : SS w ba pa la ca bb pb lb cb ((x.setCell ⟨w.heap.size + 2, 0, none⟩ u).setCell ⟨w.heap.size + 2, 1, none⟩ v) := by
  obtain ⟨⟨h1, h2⟩, h3, h4, h5, h6⟩ := h
  have ne : ∀ (z : World) (p q : Addr) (t : Value), p.block ≠ q.block → (z.setCell p t).cell? q = z.cell? q := fun z p q t hn => by
    have hpq : p ≠ q := fun e => hn (by rw [e])
    exact World.cell?_setCell_other z p q t hpq
  refine ⟨⟨(h1.setCell (p := ⟨w.heap.size + 2, 0, none⟩) (by simp) u).setCell (p := ⟨w.heap.size + 2, 1, none⟩) (by simp) v, h2.set u v⟩, ?_, ?_, ?_, ?_⟩
  · rw [ne _ _ _ _ (by simp), ne _ _ _ _ (by simp)]; exact h3
  · rw [ne _ _ _ _ (by simp), ne _ _ _ _ (by simp)]; exact h4
  · rw [ne _ _ _ _ (by simp), ne _ _ _ _ (by simp)]; exact h5
  · rw [ne _ _ _ _ (by simp), ne _ _ _ _ (by simp)]; exact h6
theorem parts {w : World} {v : Value} {m : Int} (h : IsNum w v m) : ∃ a len cap zs, v = NumV (decide (m < 0)) a len cap ∧ IsRow .i64 w a len zs ∧ Canon zs ∧ val zs = (m.natAbs : Int) ∧ len ≤ cap ∧ (a = none → cap = 0) := h
set_option maxHeartbeats 4000000 in
set_option maxRecDepth 100000 in
theorem other_any (v : Value) (m : Int) (w : World) (h : IsNum w v m) : Calls Try.prog 130 #[v] w fun e w' => (∃ u, e = .returned u ∧ IsNum w' u (-m)) ∧ Gr w w' := by
  obtain ⟨a, len, cap, zs, rfl, hr, hc, hv, hcap, hnone⟩ := parts h
  have HR := Lib.hid hr; have HC := Lib.hid hc; have HV := Lib.hid hv
  clear h hr hc hv
  unfold NumV
  go_enter Try.func130, Try.ntmps130
  go_wp2_with fail
  have g0 : Gr w ((w.alloc (.cells #[.bool (decide (m < 0)), .slice a len cap] 88)).alloc (.cells #[.bool false, .slice none 0 0] 88)) := ((Gr.refl w).alloc _).alloc _
  have hB : Blk ((w.alloc (.cells #[.bool (decide (m < 0)), .slice a len cap] 88)).alloc (.cells #[.bool false, .slice none 0 0] 88)) (w.heap.size + 1) [.bool false, .slice none 0 0] := Blk.new (vs := [.bool false, .slice none 0 0]) (by simp)
  have hbl : ∀ ad, a = some ad → 0 < len → ad.block < w.heap.size := fun ad e hl => by
    obtain ⟨b, off, e2, hcell⟩ := HR.out.2.2.2 hl
    have := lt_of_cell (hcell 0 hl)
    rw [e] at e2; cases e2; exact this
  refine (trim_any _ _ _ _ zs _ (HR.out.later g0) HC.out.1 hcap hnone).mono ?_; rintro e w2 ⟨k, hk, rfl, hc, hvk, hg2⟩
  have hN : IsNum w2 (NumV (!decide (m < 0) && decide (0 < k)) a k cap) (-m) := num_of ((HR.out.later g0).later hg2) hk hc (by rw [hvk, HV.out]; omega) (fun hn => by by_cases hm : m < 0 <;> simp [hm] <;> omega) hcap hnone
  have hB2 := hB.gr hg2
  have hG := g0.trans hg2
  have c0 := hB2.cell 0 rfl; have c1 := hB2.cell 1 rfl; have f0 := hB2.free 0 rfl; have f1 := hB2.free 1 rfl
  have HB := Lib.hid hB2; have HN := Lib.hid hN; have HGG := Lib.hid hG; have HBL := Lib.hid hbl; have HK := Lib.hid hk
  clear hB hB2 hN hG hc hvk hg2 HV HR hbl g0 hk
  unfold NumV at *
  generalize (!decide (m < 0) && decide (0 < k)) = bb at *
  go_wp2_with fail
  refine ⟨rfl, _, results_blk rfl Sx.ty88 rfl rfl (HB.out.set2 _ _) rfl, ⟨_, rfl, ?_⟩, ?_⟩
  · exact IsNum.set (IsNum.set HN.out (fun ad h h0 => by have := HBL.out ad h (by have := HK.out; omega); simp; omega) _) (fun ad h h0 => by have := HBL.out ad h (by have := HK.out; omega); simp; omega) _
  · exact (HGG.out.setCell (p := ⟨w.heap.size + 1, 0, none⟩) (by simp) _).setCell (p := ⟨w.heap.size + 1, 1, none⟩) (by simp) _
set_option maxHeartbeats 8000000 in
set_option maxRecDepth 100000 in
theorem sum_any (va vb : Value) (m n : Int) (w : World) (ha : IsNum w va m) (hb : IsNum w vb n) (m40 : (m.natAbs : Int) < p10 40) (n40 : (n.natAbs : Int) < p10 40) :
    Calls Try.prog 70 #[va, vb] w fun e w' => (∃ u, e = .returned u ∧ IsNum w' u (m + n)) ∧ Gr w w' := by
  obtain ⟨pa, la, ca, za, rfl, hra, hca, hva, hcapa, hnonea⟩ := parts ha
  obtain ⟨pb, lb, cb, zb, rfl, hrb, hcb, hvb, hcapb, hnoneb⟩ := parts hb
  have l60 := len_40 hra hca hva m40
  have k60 := len_40 hrb hcb hvb n40
  have HA := Lib.hid hra; have HB := Lib.hid hrb; have CA := Lib.hid hca; have CB := Lib.hid hcb; have VA := Lib.hid hva; have VB := Lib.hid hvb
  clear ha hb hra hrb hca hcb hva hvb m40 n40
  unfold NumV
  generalize hbm : decide (m < 0) = bm
  generalize hbn : decide (n < 0) = bn
  have gs : ∀ x, SS w bm pa la ca bn pb lb cb x → Gr w x := fun x h => h.1.1
  have rs : ∀ x, SS w bm pa la ca bn pb lb cb x → Res x (w.heap.size + 2) := fun x h => h.1.2
  have hS0 : SS w bm pa la ca bn pb lb cb (((w.alloc (.cells #[.bool bm, .slice pa la ca] 88)).alloc (.cells #[.bool bn, .slice pb lb cb] 88)).alloc (.cells #[.bool false, .slice none 0 0] 88)) := by
    have b1 := ((Blk.new (w := w) (T := 88) (vs := [.bool bm, .slice pa la ca]) rfl).alloc (o := .cells #[.bool bn, .slice pb lb cb] 88)).alloc (o := .cells #[.bool false, .slice none 0 0] 88)
    have b2 := (Blk.new (w := w.alloc (.cells #[.bool bm, .slice pa la ca] 88)) (b := w.heap.size + 1) (T := 88) (vs := [.bool bn, .slice pb lb cb]) (by simp)).alloc (o := .cells #[.bool false, .slice none 0 0] 88)
    exact ⟨⟨(((Gr.refl w).alloc _).alloc _).alloc _, _, _, Blk.new (vs := [.bool false, .slice none 0 0]) (by simp)⟩, b1.cell 0 rfl, b1.cell 1 rfl, b2.cell 0 rfl, b2.cell 1 rfl⟩
  have HM := Lib.hid hbm; have HN := Lib.hid hbn
  clear hbm hbn
  go_enter Try.func70, Try.ntmps70
  cases bm <;> cases bn
  · go_wp2_with fail
    go_region_held3 (fun x => (Gr w x ∧ Res x (w.heap.size + 2)) ∧ x.cell? ⟨w.heap.size, 0, none⟩ = some (.bool false) ∧ x.cell? ⟨w.heap.size, 1, none⟩ = some (.slice pa la ca) ∧ x.cell? ⟨w.heap.size + 1, 0, none⟩ = some (.bool false) ∧ x.cell? ⟨w.heap.size + 1, 1, none⟩ = some (.slice pb lb cb))
            (first | exact SS.gr hS0 (Gr.refl _).drew | exact SS.gr (by assumption) hg | exact SS.set (by assumption) _ _)
            (first
              | (go_at_call 110; refine (plus_any false pa la ca za false pb lb cb zb _ (HA.out.later (gs _ (by assumption))) (HB.out.later (gs _ (by assumption))) CA.out.1 CB.out.1 l60 k60).mono ?_; rintro e x1 ⟨p, len, cap, zs, rfl, hr, hd, hv, hcap, hnone, hbl, hg⟩; have hL1 := (rs _ (by assumption)).lt)
              | (go_at_call 109; refine (trim_any _ _ _ _ zs _ hr hd hcap hnone).mono ?_; rintro e x2 ⟨k, hk, rfl, hc, hvk, hg⟩; obtain ⟨r0, r1, hB⟩ := (rs _ (by assumption)).gr hg; have hG2 := (gs _ (by assumption)).trans hg; have q0 := hB.cell 0 rfl; have q1 := hB.cell 1 rfl; have f0 := hB.free 0 rfl; have f1 := hB.free 1 rfl; have hrk := hr.later hg; unfold NumV))
    have hNum := num_of (b := false) (n := m + n) hrk hk hc (by rw [hvk, hv, VA.out, VB.out]; have := HM.out; have := HN.out; simp only [decide_eq_true_eq, decide_eq_false_iff_not] at *; omega) (fun _ => Eq.symm (by have := HM.out; have := HN.out; simp only [decide_eq_true_eq, decide_eq_false_iff_not] at *; omega)) hcap hnone
    have hrb : ∀ ad, p = some ad → 0 < k → ad.block ≠ w.heap.size + 2 := fun ad h _ => by have := hbl ad h; omega
    clear hr hd hv hcap hnone hbl hc hvk hk hrk
    go_wp2_with fail
    refine ⟨rfl, _, results_blk rfl Sx.ty88 rfl rfl (hB.set2 _ _) rfl, ⟨_, rfl, ?_⟩, ?_⟩
    · exact IsNum.set (IsNum.set hNum hrb _) hrb _
    · exact (hG2.setCell (p := ⟨w.heap.size + 2, 0, none⟩) (by simp) _).setCell (p := ⟨w.heap.size + 2, 1, none⟩) (by simp) _
  · by_cases hle : val zb ≤ val za
    · have hsz : 0 ≤ sz (val za) (val zb) := by unfold sz; rw [if_neg (by omega)]; split <;> decide
      have HLE := Lib.hid hle; clear hle
      go_wp2_with fail
      refine (size_any _ _ _ _ za _ _ _ _ zb _ (HA.out.later (gs _ hS0)) (HB.out.later (gs _ hS0)) CA.out.1 CB.out.1 l60 k60).mono ?_; rintro e x0 ⟨rfl, hg0⟩
      replace hS0 := SS.gr hS0 hg0
      generalize sz (val za) (val zb) = sv at *
      obtain ⟨⟨hy0, hy5⟩, hy1, hy2, hy3, hy4⟩ := id hS0
      clear hg0 hy0 hy5
      go_wp2_with fail
      go_region_held3 (fun x => (Gr w x ∧ Res x (w.heap.size + 2)) ∧ x.cell? ⟨w.heap.size, 0, none⟩ = some (.bool false) ∧ x.cell? ⟨w.heap.size, 1, none⟩ = some (.slice pa la ca) ∧ x.cell? ⟨w.heap.size + 1, 0, none⟩ = some (.bool true) ∧ x.cell? ⟨w.heap.size + 1, 1, none⟩ = some (.slice pb lb cb))
              (first | exact SS.gr hS0 (Gr.refl _).drew | exact SS.gr (by assumption) hg | exact SS.set (by assumption) _ _)
              (first
                | (go_at_call 112; refine (minus_any false pa la ca za true pb lb cb zb _ (HA.out.later (gs _ (by assumption))) (HB.out.later (gs _ (by assumption))) CA.out.1 CB.out l60 HLE.out).mono ?_; rintro e x1 ⟨p, len, cap, zs, rfl, hr, hd, hv, hcap, hnone, hbl, hg⟩; have hL1 := (rs _ (by assumption)).lt)
                | (go_at_call 109; refine (trim_any _ _ _ _ zs _ hr hd hcap hnone).mono ?_; rintro e x2 ⟨k, hk, rfl, hc, hvk, hg⟩; obtain ⟨r0, r1, hB⟩ := (rs _ (by assumption)).gr hg; have hG2 := (gs _ (by assumption)).trans hg; have q0 := hB.cell 0 rfl; have q1 := hB.cell 1 rfl; have f0 := hB.free 0 rfl; have f1 := hB.free 1 rfl; have hrk := hr.later hg; unfold NumV))
      have hNum := num_of (b := false) (n := m + n) hrk hk hc (by rw [hvk, hv, VA.out, VB.out]; have := HM.out; have := HN.out; have := HLE.out; rw [VA.out, VB.out] at this; simp only [decide_eq_true_eq, decide_eq_false_iff_not] at *; omega) (fun _ => Eq.symm (by have := HM.out; have := HN.out; have := HLE.out; rw [VA.out, VB.out] at this; simp only [decide_eq_true_eq, decide_eq_false_iff_not] at *; omega)) hcap hnone
      have hrb : ∀ ad, p = some ad → 0 < k → ad.block ≠ w.heap.size + 2 := fun ad h _ => by have := hbl ad h; omega
      clear hr hd hv hcap hnone hbl hc hvk hk hrk
      go_wp2_with fail
      refine ⟨rfl, _, results_blk rfl Sx.ty88 rfl rfl (hB.set2 _ _) rfl, ⟨_, rfl, ?_⟩, ?_⟩
      · exact IsNum.set (IsNum.set hNum hrb _) hrb _
      · exact (hG2.setCell (p := ⟨w.heap.size + 2, 0, none⟩) (by simp) _).setCell (p := ⟨w.heap.size + 2, 1, none⟩) (by simp) _
    · have hsz : sz (val za) (val zb) < 0 := by unfold sz; rw [if_pos (by omega)]; decide
      have hle2 : val za ≤ val zb := by omega
      have HLE := Lib.hid hle2; clear hle hle2
      go_wp2_with fail
      refine (size_any _ _ _ _ za _ _ _ _ zb _ (HA.out.later (gs _ hS0)) (HB.out.later (gs _ hS0)) CA.out.1 CB.out.1 l60 k60).mono ?_; rintro e x0 ⟨rfl, hg0⟩
      replace hS0 := SS.gr hS0 hg0
      generalize sz (val za) (val zb) = sv at *
      obtain ⟨⟨hy0, hy5⟩, hy1, hy2, hy3, hy4⟩ := id hS0
      clear hg0 hy0 hy5
      go_wp2_with fail
      go_region_held3 (fun x => (Gr w x ∧ Res x (w.heap.size + 2)) ∧ x.cell? ⟨w.heap.size, 0, none⟩ = some (.bool false) ∧ x.cell? ⟨w.heap.size, 1, none⟩ = some (.slice pa la ca) ∧ x.cell? ⟨w.heap.size + 1, 0, none⟩ = some (.bool true) ∧ x.cell? ⟨w.heap.size + 1, 1, none⟩ = some (.slice pb lb cb))
              (first | exact SS.gr hS0 (Gr.refl _).drew | exact SS.gr (by assumption) hg | exact SS.set (by assumption) _ _)
              (first
                | (go_at_call 112; refine (minus_any true pb lb cb zb false pa la ca za _ (HB.out.later (gs _ (by assumption))) (HA.out.later (gs _ (by assumption))) CB.out.1 CA.out k60 HLE.out).mono ?_; rintro e x1 ⟨p, len, cap, zs, rfl, hr, hd, hv, hcap, hnone, hbl, hg⟩; have hL1 := (rs _ (by assumption)).lt)
                | (go_at_call 109; refine (trim_any _ _ _ _ zs _ hr hd hcap hnone).mono ?_; rintro e x2 ⟨k, hk, rfl, hc, hvk, hg⟩; obtain ⟨r0, r1, hB⟩ := (rs _ (by assumption)).gr hg; have hG2 := (gs _ (by assumption)).trans hg; have q0 := hB.cell 0 rfl; have q1 := hB.cell 1 rfl; have f0 := hB.free 0 rfl; have f1 := hB.free 1 rfl; have hrk := hr.later hg; unfold NumV))
      have hNum := num_of (b := true) (n := m + n) hrk hk hc (by rw [hvk, hv, VA.out, VB.out]; have := HM.out; have := HN.out; have := HLE.out; rw [VA.out, VB.out] at this; simp only [decide_eq_true_eq, decide_eq_false_iff_not] at *; omega) (fun _ => Eq.symm (by have := HM.out; have := HN.out; have := HLE.out; rw [VA.out, VB.out] at this; simp only [decide_eq_true_eq, decide_eq_false_iff_not] at *; omega)) hcap hnone
      have hrb : ∀ ad, p = some ad → 0 < k → ad.block ≠ w.heap.size + 2 := fun ad h _ => by have := hbl ad h; omega
      clear hr hd hv hcap hnone hbl hc hvk hk hrk
      go_wp2_with fail
      refine ⟨rfl, _, results_blk rfl Sx.ty88 rfl rfl (hB.set2 _ _) rfl, ⟨_, rfl, ?_⟩, ?_⟩
      · exact IsNum.set (IsNum.set hNum hrb _) hrb _
      · exact (hG2.setCell (p := ⟨w.heap.size + 2, 0, none⟩) (by simp) _).setCell (p := ⟨w.heap.size + 2, 1, none⟩) (by simp) _
  · by_cases hle : val zb ≤ val za
    · have hsz : 0 ≤ sz (val za) (val zb) := by unfold sz; rw [if_neg (by omega)]; split <;> decide
      have HLE := Lib.hid hle; clear hle
      go_wp2_with fail
      refine (size_any _ _ _ _ za _ _ _ _ zb _ (HA.out.later (gs _ hS0)) (HB.out.later (gs _ hS0)) CA.out.1 CB.out.1 l60 k60).mono ?_; rintro e x0 ⟨rfl, hg0⟩
      replace hS0 := SS.gr hS0 hg0
      generalize sz (val za) (val zb) = sv at *
      obtain ⟨⟨hy0, hy5⟩, hy1, hy2, hy3, hy4⟩ := id hS0
      clear hg0 hy0 hy5
      go_wp2_with fail
      go_region_held3 (fun x => (Gr w x ∧ Res x (w.heap.size + 2)) ∧ x.cell? ⟨w.heap.size, 0, none⟩ = some (.bool true) ∧ x.cell? ⟨w.heap.size, 1, none⟩ = some (.slice pa la ca) ∧ x.cell? ⟨w.heap.size + 1, 0, none⟩ = some (.bool false) ∧ x.cell? ⟨w.heap.size + 1, 1, none⟩ = some (.slice pb lb cb))
              (first | exact SS.gr hS0 (Gr.refl _).drew | exact SS.gr (by assumption) hg | exact SS.set (by assumption) _ _)
              (first
                | (go_at_call 112; refine (minus_any true pa la ca za false pb lb cb zb _ (HA.out.later (gs _ (by assumption))) (HB.out.later (gs _ (by assumption))) CA.out.1 CB.out l60 HLE.out).mono ?_; rintro e x1 ⟨p, len, cap, zs, rfl, hr, hd, hv, hcap, hnone, hbl, hg⟩; have hL1 := (rs _ (by assumption)).lt)
                | (go_at_call 109; refine (trim_any _ _ _ _ zs _ hr hd hcap hnone).mono ?_; rintro e x2 ⟨k, hk, rfl, hc, hvk, hg⟩; obtain ⟨r0, r1, hB⟩ := (rs _ (by assumption)).gr hg; have hG2 := (gs _ (by assumption)).trans hg; have q0 := hB.cell 0 rfl; have q1 := hB.cell 1 rfl; have f0 := hB.free 0 rfl; have f1 := hB.free 1 rfl; have hrk := hr.later hg; unfold NumV))
      have hNum := num_of (b := true) (n := m + n) hrk hk hc (by rw [hvk, hv, VA.out, VB.out]; have := HM.out; have := HN.out; have := HLE.out; rw [VA.out, VB.out] at this; simp only [decide_eq_true_eq, decide_eq_false_iff_not] at *; omega) (fun _ => Eq.symm (by have := HM.out; have := HN.out; have := HLE.out; rw [VA.out, VB.out] at this; simp only [decide_eq_true_eq, decide_eq_false_iff_not] at *; omega)) hcap hnone
      have hrb : ∀ ad, p = some ad → 0 < k → ad.block ≠ w.heap.size + 2 := fun ad h _ => by have := hbl ad h; omega
      clear hr hd hv hcap hnone hbl hc hvk hk hrk
      go_wp2_with fail
      refine ⟨rfl, _, results_blk rfl Sx.ty88 rfl rfl (hB.set2 _ _) rfl, ⟨_, rfl, ?_⟩, ?_⟩
      · exact IsNum.set (IsNum.set hNum hrb _) hrb _
      · exact (hG2.setCell (p := ⟨w.heap.size + 2, 0, none⟩) (by simp) _).setCell (p := ⟨w.heap.size + 2, 1, none⟩) (by simp) _
    · have hsz : sz (val za) (val zb) < 0 := by unfold sz; rw [if_pos (by omega)]; decide
      have hle2 : val za ≤ val zb := by omega
      have HLE := Lib.hid hle2; clear hle hle2
      go_wp2_with fail
      refine (size_any _ _ _ _ za _ _ _ _ zb _ (HA.out.later (gs _ hS0)) (HB.out.later (gs _ hS0)) CA.out.1 CB.out.1 l60 k60).mono ?_; rintro e x0 ⟨rfl, hg0⟩
      replace hS0 := SS.gr hS0 hg0
      generalize sz (val za) (val zb) = sv at *
      obtain ⟨⟨hy0, hy5⟩, hy1, hy2, hy3, hy4⟩ := id hS0
      clear hg0 hy0 hy5
      go_wp2_with fail
      go_region_held3 (fun x => (Gr w x ∧ Res x (w.heap.size + 2)) ∧ x.cell? ⟨w.heap.size, 0, none⟩ = some (.bool true) ∧ x.cell? ⟨w.heap.size, 1, none⟩ = some (.slice pa la ca) ∧ x.cell? ⟨w.heap.size + 1, 0, none⟩ = some (.bool false) ∧ x.cell? ⟨w.heap.size + 1, 1, none⟩ = some (.slice pb lb cb))
              (first | exact SS.gr hS0 (Gr.refl _).drew | exact SS.gr (by assumption) hg | exact SS.set (by assumption) _ _)
              (first
                | (go_at_call 112; refine (minus_any false pb lb cb zb true pa la ca za _ (HB.out.later (gs _ (by assumption))) (HA.out.later (gs _ (by assumption))) CB.out.1 CA.out k60 HLE.out).mono ?_; rintro e x1 ⟨p, len, cap, zs, rfl, hr, hd, hv, hcap, hnone, hbl, hg⟩; have hL1 := (rs _ (by assumption)).lt)
                | (go_at_call 109; refine (trim_any _ _ _ _ zs _ hr hd hcap hnone).mono ?_; rintro e x2 ⟨k, hk, rfl, hc, hvk, hg⟩; obtain ⟨r0, r1, hB⟩ := (rs _ (by assumption)).gr hg; have hG2 := (gs _ (by assumption)).trans hg; have q0 := hB.cell 0 rfl; have q1 := hB.cell 1 rfl; have f0 := hB.free 0 rfl; have f1 := hB.free 1 rfl; have hrk := hr.later hg; unfold NumV))
      have hNum := num_of (b := false) (n := m + n) hrk hk hc (by rw [hvk, hv, VA.out, VB.out]; have := HM.out; have := HN.out; have := HLE.out; rw [VA.out, VB.out] at this; simp only [decide_eq_true_eq, decide_eq_false_iff_not] at *; omega) (fun _ => Eq.symm (by have := HM.out; have := HN.out; have := HLE.out; rw [VA.out, VB.out] at this; simp only [decide_eq_true_eq, decide_eq_false_iff_not] at *; omega)) hcap hnone
      have hrb : ∀ ad, p = some ad → 0 < k → ad.block ≠ w.heap.size + 2 := fun ad h _ => by have := hbl ad h; omega
      clear hr hd hv hcap hnone hbl hc hvk hk hrk
      go_wp2_with fail
      refine ⟨rfl, _, results_blk rfl Sx.ty88 rfl rfl (hB.set2 _ _) rfl, ⟨_, rfl, ?_⟩, ?_⟩
      · exact IsNum.set (IsNum.set hNum hrb _) hrb _
      · exact (hG2.setCell (p := ⟨w.heap.size + 2, 0, none⟩) (by simp) _).setCell (p := ⟨w.heap.size + 2, 1, none⟩) (by simp) _
  · go_wp2_with fail
    go_region_held3 (fun x => (Gr w x ∧ Res x (w.heap.size + 2)) ∧ x.cell? ⟨w.heap.size, 0, none⟩ = some (.bool true) ∧ x.cell? ⟨w.heap.size, 1, none⟩ = some (.slice pa la ca) ∧ x.cell? ⟨w.heap.size + 1, 0, none⟩ = some (.bool true) ∧ x.cell? ⟨w.heap.size + 1, 1, none⟩ = some (.slice pb lb cb))
            (first | exact SS.gr hS0 (Gr.refl _).drew | exact SS.gr (by assumption) hg | exact SS.set (by assumption) _ _)
            (first
              | (go_at_call 110; refine (plus_any true pa la ca za true pb lb cb zb _ (HA.out.later (gs _ (by assumption))) (HB.out.later (gs _ (by assumption))) CA.out.1 CB.out.1 l60 k60).mono ?_; rintro e x1 ⟨p, len, cap, zs, rfl, hr, hd, hv, hcap, hnone, hbl, hg⟩; have hL1 := (rs _ (by assumption)).lt)
              | (go_at_call 109; refine (trim_any _ _ _ _ zs _ hr hd hcap hnone).mono ?_; rintro e x2 ⟨k, hk, rfl, hc, hvk, hg⟩; obtain ⟨r0, r1, hB⟩ := (rs _ (by assumption)).gr hg; have hG2 := (gs _ (by assumption)).trans hg; have q0 := hB.cell 0 rfl; have q1 := hB.cell 1 rfl; have f0 := hB.free 0 rfl; have f1 := hB.free 1 rfl; have hrk := hr.later hg; unfold NumV))
    have hNum := num_of (b := true) (n := m + n) hrk hk hc (by rw [hvk, hv, VA.out, VB.out]; have := HM.out; have := HN.out; simp only [decide_eq_true_eq, decide_eq_false_iff_not] at *; omega) (fun _ => Eq.symm (by have := HM.out; have := HN.out; simp only [decide_eq_true_eq, decide_eq_false_iff_not] at *; omega)) hcap hnone
    have hrb : ∀ ad, p = some ad → 0 < k → ad.block ≠ w.heap.size + 2 := fun ad h _ => by have := hbl ad h; omega
    clear hr hd hv hcap hnone hbl hc hvk hk hrk
    go_wp2_with fail
    refine ⟨rfl, _, results_blk rfl Sx.ty88 rfl rfl (hB.set2 _ _) rfl, ⟨_, rfl, ?_⟩, ?_⟩
    · exact IsNum.set (IsNum.set hNum hrb _) hrb _
    · exact (hG2.setCell (p := ⟨w.heap.size + 2, 0, none⟩) (by simp) _).setCell (p := ⟨w.heap.size + 2, 1, none⟩) (by simp) _
end Bg
end Go.Proofs.Ytfpnkcmplmkghaa
