/- The walk of WholeGcd. -/
import Derived.Test.YtgfcbpofbckncaaPt
import Derived.Test.YtgfcbpofbckncaaGp
import Derived.Test.YtgfcbpofbckncaaAp
import Derived.Test.YtgfcbpofbckncaaOw
set_option linter.unusedVariables false
namespace Go.Proofs.Ytgfcbpofbckncaa
open Go.RowKit
open Wh

/-- The parts, if there are any. -/
def Pl (g : Int) (l : List Int) : List Int := if 0 < g then l.map (fun x => x.tdiv g) else []

/-- What holds at the head of a round of WholeGcd's loop. -/
structure GcdRel (w : World) (zs : List Int) (g d : Int) (j : Nat) (v7 v8 : Value) (al : Bool) (wr : World) : Prop where
  rows : TwoRows w.heap.size 3 v7 ((D zs j).map (Value.int .i64)) v8 ((Pl g (D zs j)).map (Value.int .i64)) wr
  all : al = A d (D zs j)
  gr : Gr w wr

set_option maxHeartbeats 4000000 in
set_option maxRecDepth 100000 in
theorem walk_WholeGcd (w : World) (p : Option Addr) (len cap : Nat) (zs : List Int) (hr : IsRow .i64 w p len zs) (hn : p = none → cap = 0) (d : Int) (_ : I d) :
    Calls Try.prog 6 #[.slice p len cap, .int .i64 d] w fun e w' => e = .returned (.bool true) ∧ Gr w w' := by
  rename_i hd
  have hm := hr.2.1
  by_cases hl : 30 < len
  · clear hr hn hd
    go_enter Try.func6, Try.ntmps6
    go_wp2
    go_ret
    exact ⟨rfl, Gr.refl _⟩
  · clear hn
    have hz : zs.length = len := hr.1
    have HR := Lib.hid hr; clear hr
    subst hz
    have hl2 : zs.length ≤ 30 := by omega
    clear hl hm
    by_cases hov : 9223372036854775807 < gl zs
    · have e1 : ge zs = 4 := by unfold ge; rw [if_pos hov]
      have e2 : gv zs = 0 := by unfold gv; rw [if_pos hov]
      clear hov
      go_enter Try.func6, Try.ntmps6
      go_wp2_with fail
      refine (gcd_any _ _ _ zs _ HR.out).mono ?_; rintro e w2 ⟨rfl, n1, rfl⟩; rw [e1, e2]
      go_wp2_with fail
      refine (parted_any _).mono ?_; rintro e w4 ⟨rfl, hg⟩
      have HG4 := Lib.hid hg; clear hg
      go_wp2_with fail
      go_ret
      exact ⟨rfl, (Gr.dn (Gr.refl _) _).trans HG4.out⟩
    · have e1 : ge zs = 0 := by unfold ge; rw [if_neg hov]
      obtain ⟨g, hg⟩ : ∃ g, gv zs = g := ⟨_, rfl⟩
      have hgl : g = (gl zs : Int) := by rw [← hg]; unfold gv; rw [if_neg hov]
      have hg0 : 0 ≤ g := by omega
      have hg1 : g ≤ 9223372036854775807 := by omega
      have HG := Lib.hid hg; have HGL := Lib.hid hgl; clear hg hgl hov
      obtain ⟨i0, hi, hz0', hz1, hz2⟩ := info_parts Ow.infoInt
      go_enter Try.func6, Try.ntmps6
      go_wp2_with fail
      refine (gcd_any _ _ _ zs _ HR.out).mono ?_; rintro e w2 ⟨rfl, n1, rfl⟩; rw [e1, HG.out]
      clear e1
      go_wp2_with fail
      go_loopw [7, 8, 9, 10] (fun v7 v8 v9 v10 wr => ∃ (m : Nat) (al : Bool), m ≤ zs.length ∧ v10 = .int .i64 ((m : Int) - 1) ∧ v9 = .bool al ∧ GcdRel w zs g d m v7 v8 al wr) (fun _ _ _ i _ => (intOf i + 1).toNat)
      case atStart =>
        refine ⟨zs.length, decide (0 < d), Nat.le_refl _, rfl, rfl, ?_⟩
        constructor
        · rw [D_none]
          have e : Pl g [] = [] := by unfold Pl; simp
          rw [e]; exact ⟨World.ownsRow_nil _ _ _ _, World.ownsRow_nil _ _ _ _, .inl rfl⟩
        · rw [D_none]; simp [A]
        · exact (Gr.refl _).dn _
      case round =>
        obtain ⟨m, al, hm, rfl, rfl, hrel⟩ := hrel
        cases m with
        | zero =>
          obtain ⟨a7, cap7, rfl, row7⟩ := row_owned (zs := D zs 0) (by simpa using hrel.rows.one) (by rw [D_length]; omega) (fun n hn => HR.out.2.2.1 n (D_mem hn))
          obtain ⟨a8, cap8, rfl, row8⟩ := row_owned (zs := Pl g (D zs 0)) (by simpa using hrel.rows.two) (by unfold Pl; split <;> simp [D_length]; omega) (by
            intro n hn
            unfold Pl at hn; split at hn
            · rw [List.mem_map] at hn
              obtain ⟨y, hy, rfl⟩ := hn
              have hyI := I_of_wf (HR.out.2.2.1 y (D_mem hy))
              exact wf_of_I (tdiv_I hyI (by omega) (by omega))
            · simp at hn)
          have f1 : gv (D zs 0) = g := by rw [D_all]; unfold gv; rw [gl_reverse]; have := HG.out; unfold gv at this; exact this
          have f2 : ge (D zs 0) = 0 := by
            rw [D_all]; unfold ge; rw [gl_reverse, if_neg]
            have h := HGL.out; omega
          have hall : al = true → 0 < d ∧ g % d = 0 := by
            intro h
            have h2 := hrel.all; rw [h, D_all] at h2
            have := A_gcd h2.symm
            rw [HGL.out]; exact this
          have hpl : 0 < g → gv (Pl g (D zs 0)) = 1 ∧ ge (Pl g (D zs 0)) = 0 := by
            intro h
            have hgn : 0 < gl zs := by have := HGL.out; omega
            have e : gl (Pl g (D zs 0)) = 1 := by
              unfold Pl; rw [if_pos h, D_all, List.map_reverse, gl_reverse, HGL.out]; exact gl_parts hgn
            unfold gv ge; rw [e]; exact ⟨rfl, rfl⟩
          have hgr := hrel.gr
          have F1 := Lib.hid f1; have F2 := Lib.hid f2; have H7 := Lib.hid row7; have H8 := Lib.hid row8; have HP := Lib.hid hpl; have HL := Lib.hid hall; have HGR := Lib.hid hgr
          clear f1 f2 row7 row8 hpl hall hgr hrel hm
          go_wp2_with fail
          refine (gcd_any _ _ _ (D zs 0) _ (by exact H7.out)).mono ?_; rintro e w2 ⟨rfl, n2, rfl⟩; rw [F1.out, F2.out]
          go_wp2_with fail
          refine (gcd_any _ _ _ (Pl g (D zs 0)) _ (by exact H8.out.later ((Gr.refl _).dn _))).mono ?_; rintro e w2 ⟨rfl, n3, rfl⟩
          by_cases hgz : g = 0
          · have hgb : (g == 0) = true := by simpa using hgz
            cases al with
            | false =>
              have hgle : g ≤ 0 := by omega
              clear hgz
              go_wp2_with fail
              refine (parted_any _).mono ?_; rintro e w4 ⟨rfl, hg⟩
              have HG4 := Lib.hid hg; clear hg
              go_wp2_with fail
              go_ret
              exact ⟨rfl, (HGR.out.dn _).trans HG4.out⟩
            | true =>
              obtain ⟨hd0, hdd⟩ := HL.out rfl
              have hdb : (g % d == 0) = true := by simpa using hdd
              have hdn : ¬ d = 0 := by omega
              clear hgz hdd
              go_wp2_with fail
              refine (parted_any _).mono ?_; rintro e w4 ⟨rfl, hg⟩
              have HG4 := Lib.hid hg; clear hg
              go_wp2_with fail
              go_ret
              exact ⟨rfl, (HGR.out.dn _).trans HG4.out⟩
          · have hgb : (g == 0) = false := by simpa using hgz
            obtain ⟨p1, p2⟩ := HP.out (by omega)
            rw [p1, p2]
            cases al with
            | false =>
              clear hgz p1 p2
              go_wp2_with fail
              refine (parted_any _).mono ?_; rintro e w4 ⟨rfl, hg⟩
              have HG4 := Lib.hid hg; clear hg
              go_wp2_with fail
              go_ret
              exact ⟨rfl, (HGR.out.dn _).trans HG4.out⟩
            | true =>
              obtain ⟨hd0, hdd⟩ := HL.out rfl
              have hdb : (g % d == 0) = true := by simpa using hdd
              have hdn : ¬ d = 0 := by omega
              clear hgz hdd p1 p2
              go_wp2_with fail
              refine (parted_any _).mono ?_; rintro e w4 ⟨rfl, hg⟩
              have HG4 := Lib.hid hg; clear hg
              go_wp2_with fail
              go_ret
              exact ⟨rfl, (HGR.out.dn _).trans HG4.out⟩
        | succ k =>
          have ek : (((k + 1 : Nat) : Int) - 1) = (k : Int) := by omega
          rw [ek]; clear ek
          obtain ⟨_, _, hwz, hcells⟩ := HR.out
          obtain ⟨b, off, rfl, hcell⟩ := hcells (by omega)
          have hc0 := hcell k (by omega)
          have hck : wr.cell? ⟨b, off + k, none⟩ = some (.int .i64 (zs.getD k 0)) := by rw [hrel.gr.cell (lt_of_cell hc0)]; exact hc0
          have hds := D_step zs k (by omega)
          have hmem : zs.getD k 0 ∈ zs := by rw [List.getD_eq_getElem?_getD, List.getElem?_eq_getElem (by omega)]; exact List.getElem_mem _
          have hzI : I (zs.getD k 0) := I_of_wf (hwz _ hmem)
          have hdiv : gl zs ∣ (zs.getD k 0).natAbs := (dvd_gl _ _).1 (Nat.dvd_refl _) _ hmem
          clear hcells hcell hwz hmem
          generalize zs.getD k 0 = z at hck hds hzI hdiv hc0
          have HC0 := Lib.hid hc0; clear hc0
          have hdl := D_length zs (k + 1)
          have HR' := Lib.hid hrel; have HDS := Lib.hid hds; have HZI := Lib.hid hzI; have HDV := Lib.hid hdiv; have HDL := Lib.hid hdl
          clear hrel hds hdiv hdl
          by_cases hgz : g = 0
          · have hz0 : z = 0 := by
              have h1 := HDV.out; have h2 := HGL.out
              have : gl zs = 0 := by omega
              rw [this] at h1
              have := Nat.eq_zero_of_zero_dvd h1
              omega
            have hgb : (g == 0) = true := by simpa using hgz
            have hzb : (z != 0) = false := by simpa using hz0
            have hgle : g ≤ 0 := by omega
            have HGZ := Lib.hid hgz; have HZ0 := Lib.hid hz0
            clear hgz hz0 hzI
            go_wp2_with (first
              | (at_builtin; refine append_two rfl (.tmp 39) (.tmp 44) 22 rfl w.heap.size 3 i0 (.int .i64 0) 1 8 Try.underlying22 hi hz0' hz1 hz2 rfl (by decide) _ _ _ rfl (HR'.out.rows.one.alloc _) ⟨wr.heap.size, 0, none⟩ 1 1 [.int .i64 z] rfl rfl (by exact one_new _ _ _) (by intro u hu; simp at hu; subst hu; rfl) (by decide) ?c4 ?c5 ?c6 ?_))
            case c4 => have := HDL.out; unfold maxLen; simp; omega
            case c5 => have := HDL.out; simp; omega
            case c6 => have := HR'.out.gr.size; simp; omega
            intro v' w1 hown hgrow hmoved
            have hr1 := HR'.out.rows.step (x := .int .i64 z) (by simpa using hown) hgrow hmoved
            have hg1 := HR'.out.rows.gr HR'.out.gr hgrow
            have hck1 : w1.cell? ⟨b, off + k, none⟩ = some (.int .i64 z) := by rw [hg1.cell (lt_of_cell HC0.out)]; exact HC0.out
            have HR1 := Lib.hid hr1; have HG1 := Lib.hid hg1
            clear hown hgrow hmoved hr1 hg1
            have hak : A d (D zs k) = (A d (D zs (k + 1)) && (z.tmod d == 0)) := by rw [HDS.out, A_snoc]
            rw [← HR'.out.all] at hak
            have HAK := Lib.hid hak; clear hak
            have hfin : ∀ al', al' = A d (D zs k) → GcdRel w zs g d k v' u8 al' w1 := by
              intro al' h
              refine ⟨?_, h, HG1.out⟩
              have e : Pl g (D zs k) = Pl g (D zs (k + 1)) := by unfold Pl; rw [if_neg (by have := HGZ.out; omega), if_neg (by have := HGZ.out; omega)]
              rw [e, HDS.out]; simpa using HR1.out
            have HF := Lib.hid hfin; clear hfin
            cases al with
            | false =>
              go_wp2
              go_roundw
              case rel => exact ⟨k, false, by omega, rfl, rfl, HF.out _ (by rw [HAK.out]; rfl)⟩
              case measure => simp [intOf]
            | true =>
              have hdp : ¬ d = 0 := by
                have h := HR'.out.all; unfold A at h
                intro h0; subst h0; simp at h
              go_wp2
              go_roundw
              case rel => exact ⟨k, _, by omega, rfl, rfl, HF.out _ (by rw [HAK.out]; rfl)⟩
              case measure => simp [intOf]
          · have hgb : (g == 0) = false := by simpa using hgz
            have hgp : 0 < g := by omega
            have htm : (z.tmod g != 0) = false := by
              have h1 := HDV.out; have h2 := HGL.out
              have h3 : g ∣ z := by rw [h2]; exact Int.natAbs_dvd_natAbs.1 (by simpa using h1)
              simp [Int.tmod_eq_zero_of_dvd h3]
            obtain ⟨t1, t2⟩ := tdiv_I hzI (b := g) (by omega) (by omega)
            obtain ⟨z1, z2⟩ := hzI
            have HD := Lib.hid hd
            go_wp2_with (first
              | (at_builtin; refine append_two rfl (.tmp 39) (.tmp 44) 22 rfl w.heap.size 3 i0 (.int .i64 0) 1 8 Try.underlying22 hi hz0' hz1 hz2 rfl (by decide) _ _ _ rfl (HR'.out.rows.one.alloc _) ⟨wr.heap.size, 0, none⟩ 1 1 [.int .i64 z] rfl rfl (by exact one_new _ _ _) (by intro u hu; simp at hu; subst hu; rfl) (by decide) ?c4 ?c5 ?c6 ?_))
            case c4 => have := HDL.out; unfold maxLen; simp; omega
            case c5 => have := HDL.out; simp; omega
            case c6 => have := HR'.out.gr.size; simp; omega
            intro v' w1 hown hgrow hmoved
            have hr1 := HR'.out.rows.step (x := .int .i64 z) (by simpa using hown) hgrow hmoved
            have hg1 := HR'.out.rows.gr HR'.out.gr hgrow
            have hck1 : w1.cell? ⟨b, off + k, none⟩ = some (.int .i64 z) := by rw [hg1.cell (lt_of_cell HC0.out)]; exact HC0.out
            have HR1 := Lib.hid hr1; have HG1 := Lib.hid hg1
            clear hown hgrow hmoved hr1 hg1
            have hpl : (Pl g (D zs (k + 1))).length ≤ 30 := by unfold Pl; rw [if_pos hgp, List.length_map]; have := HDL.out; omega
            have HPL := Lib.hid hpl; clear hpl
            have hpk : Pl g (D zs k) = Pl g (D zs (k + 1)) ++ [z.tdiv g] := by unfold Pl; rw [if_pos hgp, if_pos hgp, HDS.out]; simp
            have HPK := Lib.hid hpk; clear hpk
            have hak : A d (D zs k) = (A d (D zs (k + 1)) && (z.tmod d == 0)) := by rw [HDS.out, A_snoc]
            rw [← HR'.out.all] at hak
            have HAK := Lib.hid hak; clear hak
            go_wp2_with (first
              | (at_builtin; refine append_two rfl (.tmp 74) (.tmp 81) 22 rfl w.heap.size 3 i0 (.int .i64 0) 1 8 Try.underlying22 hi hz0' hz1 hz2 rfl (by decide) _ _ _ rfl (HR1.out.two.alloc _) ⟨w1.heap.size, 0, none⟩ 1 1 [.int .i64 (z.tdiv g)] rfl rfl (by exact one_new _ _ _) (by intro u hu; simp at hu; subst hu; rfl) (by decide) ?c4 ?c5 ?c6 ?_))
            case c4 => have := HPL.out; unfold maxLen; simp; omega
            case c5 => have := HPL.out; simp; omega
            case c6 => have := HG1.out.size; simp; omega
            intro v'' w2 hown hgrow hmoved
            have hr2 := (HR1.out.swap.step (x := .int .i64 (z.tdiv g)) (by simpa using hown) hgrow hmoved).swap
            have hg2 := HR1.out.swap.gr HG1.out hgrow
            have hck2 : w2.cell? ⟨b, off + k, none⟩ = some (.int .i64 z) := by rw [hg2.cell (lt_of_cell HC0.out)]; exact HC0.out
            have HR2 := Lib.hid hr2; have HG2 := Lib.hid hg2
            clear hown hgrow hmoved hr2 hg2
            have hfin : ∀ al', al' = A d (D zs k) → GcdRel w zs g d k v' v'' al' w2 := by
              intro al' h
              refine ⟨?_, h, HG2.out⟩
              rw [HPK.out, HDS.out]; simpa using HR2.out
            have HF := Lib.hid hfin; clear hfin
            cases al with
            | false =>
              go_wp2
              go_roundw
              case rel => exact ⟨k, false, by omega, rfl, rfl, HF.out _ (by rw [HAK.out]; rfl)⟩
              case measure => simp [intOf]
            | true =>
              have hdp : ¬ d = 0 := by
                have h := HR'.out.all; unfold A at h
                intro h0; subst h0; simp at h
              go_wp2
              go_roundw
              case rel => exact ⟨k, _, by omega, rfl, rfl, HF.out _ (by rw [HAK.out]; rfl)⟩
              case measure => simp [intOf]
end Go.Proofs.Ytgfcbpofbckncaa
