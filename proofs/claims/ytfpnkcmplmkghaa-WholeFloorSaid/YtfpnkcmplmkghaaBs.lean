/- Numbers in digits: Less, walked. -/
import Derived.Test.YtfpnkcmplmkghaaBr
set_option linter.unusedVariables false
set_option linter.unusedSimpArgs false
namespace Go.Proofs.Ytfpnkcmplmkghaa
open Go.RowKit
namespace Bg
set_option maxHeartbeats 8000000 in
set_option maxRecDepth 100000 in
theorem less_any (va vb : Value) (m n : Int) (w : World) (ha : IsNum w va m) (hb : IsNum w vb n) (m40 : (m.natAbs : Int) < p10 40) (n40 : (n.natAbs : Int) < p10 40) :
    Calls Try.prog 97 #[va, vb] w fun e w' => e = .returned (.bool (decide (m < n))) ∧ Gr w w' := by
  obtain ⟨pa, la, ca, za, rfl, hra, hca, hva, hcapa, hnonea⟩ := parts ha
  obtain ⟨pb, lb, cb, zb, rfl, hrb, hcb, hvb, hcapb, hnoneb⟩ := parts hb
  have HA := Lib.hid ha; have HB := Lib.hid hb
  clear ha hb hra hrb hca hcb hva hvb
  unfold NumV at *
  generalize hbm : decide (m < 0) = bm at *
  generalize hbn : decide (n < 0) = bn at *
  clear hbm hbn
  go_enter Try.func97, Try.ntmps97
  go_wp2_with fail
  have hdec : decide (m + -n < 0) = decide (m < n) := by
    by_cases h : m < n
    · rw [decide_eq_true h, decide_eq_true (by omega)]
    · rw [decide_eq_false h, decide_eq_false (by omega)]
  have HDEC := Lib.hid hdec; clear hdec
  have N40 := Lib.hid (show ((-n).natAbs : Int) < p10 40 by rw [Int.natAbs_neg]; exact n40)
  have M40 := Lib.hid m40; clear m40 n40
  have g0 : Gr w ((w.alloc (.cells #[.bool bm, .slice pa la ca] 88)).alloc (.cells #[.bool bn, .slice pb lb cb] 88)) := ((Gr.refl w).alloc _).alloc _
  have b1 := (Blk.new (w := w) (T := 88) (vs := [.bool bm, .slice pa la ca]) rfl).alloc (o := .cells #[.bool bn, .slice pb lb cb] 88)
  have b2 := Blk.new (w := w.alloc (.cells #[.bool bm, .slice pa la ca] 88)) (b := w.heap.size + 1) (T := 88) (vs := [.bool bn, .slice pb lb cb]) (by simp)
  have hsz : ((w.alloc (.cells #[.bool bm, .slice pa la ca] 88)).alloc (.cells #[.bool bn, .slice pb lb cb] 88)).heap.size = w.heap.size + 2 := by simp
  simp only [List.toArray] at b1 b2
  generalize ((w.alloc (.cells #[.bool bm, .slice pa la ca] 88)).alloc (.cells #[.bool bn, .slice pb lb cb] 88)) = W at *
  have mk : ∀ x, Gr W x → (Gr W x ∧ x.cell? ⟨w.heap.size, 0, none⟩ = some (.bool bm) ∧ x.cell? ⟨w.heap.size, 1, none⟩ = some (.slice pa la ca) ∧ x.cell? ⟨w.heap.size + 1, 0, none⟩ = some (.bool bn) ∧ x.cell? ⟨w.heap.size + 1, 1, none⟩ = some (.slice pb lb cb)) :=
    fun x h => ⟨h, (b1.gr h).cell 0 rfl, (b1.gr h).cell 1 rfl, (b2.gr h).cell 0 rfl, (b2.gr h).cell 1 rfl⟩
  have gs : ∀ x, (Gr W x ∧ x.cell? ⟨w.heap.size, 0, none⟩ = some (.bool bm) ∧ x.cell? ⟨w.heap.size, 1, none⟩ = some (.slice pa la ca) ∧ x.cell? ⟨w.heap.size + 1, 0, none⟩ = some (.bool bn) ∧ x.cell? ⟨w.heap.size + 1, 1, none⟩ = some (.slice pb lb cb)) → Gr W x := fun x h => h.1
  clear b1 b2
  have HSZ := Lib.hid hsz; clear hsz; have MK := Lib.hid mk; have GS := Lib.hid gs; clear mk gs
  go_region_held3 (fun x => Gr W x ∧ x.cell? ⟨w.heap.size, 0, none⟩ = some (.bool bm) ∧ x.cell? ⟨w.heap.size, 1, none⟩ = some (.slice pa la ca) ∧ x.cell? ⟨w.heap.size + 1, 0, none⟩ = some (.bool bn) ∧ x.cell? ⟨w.heap.size + 1, 1, none⟩ = some (.slice pb lb cb))
    (first | exact MK.out _ (Gr.refl _).drew | exact MK.out _ ((Gr.refl _).alloc _).drew | exact MK.out _ ((GS.out _ (by assumption)).trans hg) | exact MK.out _ (Gr.alloc (by assumption) _) | exact MK.out _ (((GS.out _ (by assumption)).setCell (by first | exact Nat.le_refl _ | assumption | omega) _).setCell (by first | exact Nat.le_refl _ | assumption | omega) _))
    (first
      | (go_at_call 130; refine (other_any _ n _ (HB.out.gr (g0.trans (GS.out _ (by assumption))))).mono ?_; rintro e x1 ⟨⟨u, rfl, hn1⟩, hg⟩; have hG1 := (GS.out _ (by assumption)).trans hg; have hsz1 := hG1.size; have hcs := hg.cells; have hfs := hg.frozens; have hss := hg.size; simp at hss; try (have hst : W.heap.size < x1.heap.size := Nat.lt_of_succ_le hss))
      | (go_at_call 70; refine (sum_any _ _ m (-n) _ (HA.out.gr (g0.trans (GS.out _ (by assumption)))) (hn1.gr (by first | exact Gr.refl _ | exact (Gr.refl _).alloc _)) M40.out N40.out).mono ?_; rintro e x2 ⟨⟨u2, rfl, hn2⟩, hg⟩; have hG2 := (GS.out _ (by assumption)).trans hg; have hsz2 := hG2.size; have hcs2 := hg.cells; have hfs2 := hg.frozens; obtain ⟨a2, len2, cap2, zs2, rfl, -⟩ := parts hn2; rw [HDEC.out] at *; unfold NumV))
  all_goals
    have hGE := GS.out _ (by assumption)
    have HGE := Lib.hid hGE
    clear hGE
    go_wp2
    go_ret
    exact ⟨rfl, g0.trans HGE.out⟩
end Bg
end Go.Proofs.Ytfpnkcmplmkghaa
