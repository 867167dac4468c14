/- The walk of RasterMore. -/
import Derived.Test.YtfkgjpdipdllhaaWm0
import Derived.Deep.CutRange
import Derived.Deep.CutBlock
set_option linter.unusedVariables false
set_option linter.unusedSimpArgs false
namespace Go.Proofs.Ytfkgjpdipdllhaa
open Go.RowKit
open Mt Ro
theorem infoT6 : (Try.prog.info? 36).map (fun i => (i.zero, i.size, i.bytes)) = some (some (.agg #[.int .i64 0, .int .i64 0, .int .i64 0, .int .i64 0, .int .i64 0, .int .i64 0]), 6, 48) := by kernel_rfl
theorem blk_cells {w : World} {b : Nat} {vs : List Value} (h : Blk w b vs) : ∀ j u, vs[j]? = some u → w.cell? ((⟨b, 0, none⟩ : Addr).add j) = some u := fun j u hj => by rw [add_none, Nat.zero_add]; exact h.cell j hj
set_option maxHeartbeats 16000000 in
set_option maxRecDepth 100000 in
theorem walk_RasterMore (w : World) (W : Int) (_ : I W) (H : Int) (_ : I H) (a : Option Addr) (len cap : Nat) (zs : List (List Int)) (hr : Oi.IsRows 6 w a len zs) (hn : len ≤ cap ∧ (a = none → cap = 0)) (t0 t1 t2 t3 t4 t5 : Int) (i0' : I t0) (i1' : I t1) (i2' : I t2) (i3' : I t3) (i4' : I t4) (i5' : I t5) :
    Calls Try.prog 6 #[.int .i64 W, .int .i64 H, .slice a len cap, .agg #[.int .i64 t0, .int .i64 t1, .int .i64 t2, .int .i64 t3, .int .i64 t4, .int .i64 t5]] w fun e w' => e = .returned (.bool true) ∧ Gr w w' := by
  obtain ⟨i0, hi, hz0, hz1, hz2⟩ := info_parts infoT6
  by_cases hg : len ≤ 6 ∧ 1 ≤ W ∧ W ≤ 8 ∧ 1 ≤ H ∧ H ≤ 8
  · obtain ⟨hl8, hW1, hW8, hH1, hH8⟩ := hg
    obtain ⟨wn, rfl⟩ : ∃ wn : Nat, W = wn := ⟨W.toNat, by omega⟩
    obtain ⟨hn', rfl⟩ : ∃ hn : Nat, H = hn := ⟨H.toNat, by omega⟩
    have hzl := hr.1
    have HR := Lib.hid hr; have HO := Lib.hid owned_any
    have hrw : ∀ z ∈ zs ++ [[t0, t1, t2, t3, t4, t5]], z.length = 6 ∧ ∀ x ∈ z, I x := by
      intro z hz
      rw [List.mem_append] at hz
      rcases hz with hz | hz
      · exact hr.2.2.1 z hz
      · simp only [List.mem_cons, List.not_mem_nil, or_false] at hz
        subst hz
        exact ⟨rfl, fun x hx => mem6 (p := I) i0' i1' i2' i3' i4' i5' hx⟩
    have HRW := Lib.hid hrw
    have hB0 : Bx (w.alloc (.cells #[.int .i64 t0, .int .i64 t1, .int .i64 t2, .int .i64 t3, .int .i64 t4, .int .i64 t5] 36)) w.heap.size 36 [.int .i64 t0, .int .i64 t1, .int .i64 t2, .int .i64 t3, .int .i64 t4, .int .i64 t5] := Bx.new (vs := [.int .i64 t0, .int .i64 t1, .int .i64 t2, .int .i64 t3, .int .i64 t4, .int .i64 t5]) rfl
    have HB0 := Lib.hid hB0
    have HG0 := Lib.hid ((Gr.refl w).alloc (.cells #[.int .i64 t0, .int .i64 t1, .int .i64 t2, .int .i64 t3, .int .i64 t4, .int .i64 t5] 36))
    have HOW := Lib.hid (fun (a : Option Addr) len cap zs w h hl => owners_any (wn : Int) (hn' : Int) a len cap zs w h hl)
    clear hr hB0 hrw i0' i1' i2' i3' i4' i5'
    have d1 : decide ((6 : Int) < (len : Int)) = false := by simp; omega
    have d1' : decide (6 < len) = false := by simp; omega
    have d2 : decide ((wn : Int) < 1) = false := by simp; omega
    have d3 : decide ((8 : Int) < (wn : Int)) = false := by simp; omega
    have d3' : decide (8 < wn) = false := by simp; omega
    have d4 : decide ((hn' : Int) < 1) = false := by simp; omega
    have d5 : decide ((8 : Int) < (hn' : Int)) = false := by simp; omega
    have d5' : decide (8 < hn') = false := by simp; omega
    obtain ⟨hcap, hnone⟩ := hn
    cases a with
    | none =>
      have hcap0 := hnone rfl
      have hl0 : len = 0 := by omega
      subst hcap0 hl0
      have hz0' : zs = [] := List.eq_nil_of_length_eq_zero hzl
      subst hz0'
      clear hcap hnone hzl
      go_enter Try.func6, Try.ntmps6
      obtain ⟨w1, hw1⟩ : ∃ w1, w.alloc (.cells #[.int .i64 t0, .int .i64 t1, .int .i64 t2, .int .i64 t3, .int .i64 t4, .int .i64 t5] 36) = w1 := ⟨_, rfl⟩
      go_upto_region 5 with fail
      rw [hw1] at HB0 HG0
      try rw [hw1]
      have hown : w1.ownsRow (w.heap.size + 1) 36 6 (.slice none 0 0) 0 (fl []) := World.ownsRow_nil _ _ _ _
      have HOWN := Lib.hid hown; have HG1 := Lib.hid HG0.out; have HB1 := Lib.hid HB0.out
      have hs1 := HB0.out.lt
      clear hown hw1 d1 d1' d2 d3 d3' d4 d5 d5'
      have c0 := HB1.out.blk.cell 0 rfl; have c1 := HB1.out.blk.cell 1 rfl; have c2 := HB1.out.blk.cell 2 rfl; have c3 := HB1.out.blk.cell 3 rfl; have c4 := HB1.out.blk.cell 4 rfl; have c5 := HB1.out.blk.cell 5 rfl
      have hzl : ([] : List (List Int)).length = 0 := rfl
      have HZL := Lib.hid hzl
      go_wp2_with (first
        | (at_builtin; refine wpList_append_own _ rfl _ _ 22 rfl (w.heap.size + 1) 36 i0 (.agg #[.int .i64 0, .int .i64 0, .int .i64 0, .int .i64 0, .int .i64 0, .int .i64 0]) 6 48 Try.underlying22 hi hz0 hz1 hz2 rfl (by decide) _ 0 _ rfl (HOWN.out.alloc _) ⟨w1.heap.size, 0, none⟩ 1 1 [.int .i64 t0, .int .i64 t1, .int .i64 t2, .int .i64 t3, .int .i64 t4, .int .i64 t5] rfl rfl ?b2 ?b3 ?b4 ?b5 ?b6 ?_))
      case b2 => exact blk_cells (Blk.new rfl)
      case b3 => intro u hu; simp at hu; rcases hu with rfl | rfl | rfl | rfl | rfl | rfl <;> rfl
      case b4 => unfold maxLen; omega
      case b5 => omega
      case b6 => simp; omega
      intro v2 w2 hown2 hgrow2 _
      have hgx : Gr w w2 := Below.grown (HG1.out.alloc _) hgrow2 (HG1.out.alloc _).size (fun j hj => by have := (HOWN.out.lt j hj).1; omega)
      obtain ⟨a9', cap9', hv9', hrows, -, -⟩ := rows_owned (m := 6) (zs := [] ++ [[t0, t1, t2, t3, t4, t5]]) (v := v2) (w := w2) (base := w.heap.size + 1) (e := 36) (by rw [fl_append, fl_one1, List.length_append, HZL.out]; exact hown2) (by rw [List.length_append, HZL.out]; simp <;> omega) HRW.out
      subst hv9'
      have HROWS := Lib.hid hrows; have HG2 := Lib.hid hgx
      clear hown2 hgrow2 hgx hrows c0 c1 c2 c3 c4 c5 hs1
      have hl1 : ([] ++ [[t0, t1, t2, t3, t4, t5]]).length = 0 + 1 := by rw [List.length_append, HZL.out]; rfl
      rw [hl1] at HROWS ⊢
      go_wp2_with fail
      refine (HOW.out _ 0 0 [] _ (HR.out.later HG2.out) (by omega)).mono ?_
      rintro e w3 ⟨aa, capa, rfl, hra, hg3⟩
      have RA := Lib.hid hra; have HROWS := Lib.hid (HROWS.out.later hg3); have HG3 := Lib.hid (HG2.out.trans hg3)
      clear hra hg3
      have HL1 := Lib.hid hl1
      clear hl1
      go_wp2_with fail
      refine (HOW.out _ (0 + 1) _ ([] ++ [[t0, t1, t2, t3, t4, t5]]) _ HROWS.out (by omega)).mono ?_
      rintro e w4 ⟨ab, capb, rfl, hrb, hg4⟩
      have RA := Lib.hid (RA.out.later hg4); have HG4 := Lib.hid (HG3.out.trans hg4)
      rcases owE_01 (wn : Int) (hn' : Int) [] with h0 | ⟨h1, h1'⟩
      · rcases owE_01 (wn : Int) (hn' : Int) ([] ++ [[t0, t1, t2, t3, t4, t5]]) with k0 | ⟨k1, k1'⟩
        · have EL := owL_at h0
          have KL := owL_at k0
          rw [HZL.out] at EL
          rw [HL1.out] at KL
          have le : (owL (wn : Int) (hn' : Int) []).length = wn * hn' := by rw [EL, outL_len]
          have lk : (owL (wn : Int) (hn' : Int) ([] ++ [[t0, t1, t2, t3, t4, t5]])).length = wn * hn' := by rw [KL, outL_len]
          have ra := RA.out
          rw [le, EL] at ra
          rw [lk, KL] at hrb
          rw [h0, k0, le, lk]
          have hM : wn * hn' ≤ 64 := Nat.mul_le_mul (show wn ≤ 8 by omega) (show hn' ≤ 8 by omega)
          have hla : ∀ j, j < wn * hn' → (outL [] wn hn' 0).getD j 0 = owN [] (j % wn : Nat) (j / wn : Nat) 0 := fun j hj => by rw [List.getD_eq_getElem?_getD, outL_get hj]; rfl
          have hlb : ∀ j, j < wn * hn' → (outL ([] ++ [[t0, t1, t2, t3, t4, t5]]) wn hn' (0 + 1)).getD j 0 = owN ([] ++ [[t0, t1, t2, t3, t4, t5]]) (j % wn : Nat) (j / wn : Nat) (0 + 1) := fun j hj => by rw [List.getD_eq_getElem?_getD, outL_get hj]; rfl
          have hrel : ∀ j, j < wn * hn' → -1 ≤ (outL [] wn hn' 0).getD j 0 ∧ (outL [] wn hn' 0).getD j 0 < 0 ∧ ((outL ([] ++ [[t0, t1, t2, t3, t4, t5]]) wn hn' (0 + 1)).getD j 0 = (outL [] wn hn' 0).getD j 0 ∨ ((outL [] wn hn' 0).getD j 0 = -1 ∧ (outL ([] ++ [[t0, t1, t2, t3, t4, t5]]) wn hn' (0 + 1)).getD j 0 = 0)) := by
            intro j hj
            rw [hla j hj, hlb j hj]
            have h1 := owN_bd [] (j % wn : Nat) (j / wn : Nat) 0
            have h2 := owN_more [] [t0, t1, t2, t3, t4, t5] (j % wn : Nat) (j / wn : Nat)
            rw [HZL.out] at h2
            rw [h2]
            refine ⟨h1.1, h1.2, ?_⟩
            split
            · rename_i hc; exact .inr ⟨hc.1, rfl⟩
            · exact .inl rfl
          have hlenb : (outL ([] ++ [[t0, t1, t2, t3, t4, t5]]) wn hn' (0 + 1)).length = wn * hn' := outL_len _ _ _ _
          clear hla hlb EL KL le lk h0 k0 hg4
          generalize outL ([] ++ [[t0, t1, t2, t3, t4, t5]]) wn hn' (0 + 1) = LB at *
          generalize outL [] wn hn' 0 = LA at *
          generalize wn * hn' = M at *
          have RA := Lib.hid ra; have RB := Lib.hid hrb; have HREL := Lib.hid hrel; have HLB := Lib.hid hlenb
          clear ra hrb hrel hlenb
          go_wp2_with fail
          go_loopw [14, 15] (fun v14 v15 wr => ∃ k : Nat, k ≤ M ∧ v15 = .int .i64 k ∧ v14 = .int .i64 (cntK LB (0 : Int) k) ∧ Gr w4 wr) (fun _ v15 _ => M - (intOf v15).toNat)
          case atStart => exact ⟨0, Nat.zero_le _, rfl, rfl, Gr.refl _⟩
          case round =>
            obtain ⟨k, hk, rfl, rfl, hg⟩ := hrel
            have HK := Lib.hid hg
            clear hg
            have hck := cntK_le LB (0 : Int) k
            by_cases hlt : k < M
            · obtain ⟨ba, offa, rfl, hba, hca, hIa⟩ := row_at (RA.out.later HK.out) hlt
              obtain ⟨bb, offb, rfl, hbb, hcb, hIb⟩ := row_at (RB.out.later HK.out) hlt
              obtain ⟨r1, r2, r3⟩ := HREL.out k hlt
              have hsucc : cntK LB (0 : Int) (k + 1) = cntK LB (0 : Int) k + if LB.getD k 0 = (0 : Int) then 1 else 0 := rfl
              have HS := Lib.hid hsucc
              clear hsucc hIa hIb
              generalize cntK LB (0 : Int) k = c at *
              generalize LA.getD k 0 = oa at *
              generalize LB.getD k 0 = ob at *
              have hk0 : (0 : Int) ≤ (k : Int) := by omega
              have u1 : IntKind.i64.wrap ((c : Int) + 1) = (c : Int) + 1 := IntWalk.i64_in _ (by omega)
              have hcase : (decide (0 ≤ oa) = true ∧ decide (oa < 0) = false ∧ (ob != oa) = false ∧ (ob == (0 : Int)) = false ∧ cntK LB (0 : Int) (k + 1) = c) ∨ (decide (0 ≤ oa) = false ∧ decide (oa < 0) = true ∧ (ob != -1) = false ∧ (ob == (0 : Int)) = false ∧ cntK LB (0 : Int) (k + 1) = c) ∨ (decide (0 ≤ oa) = false ∧ decide (oa < 0) = true ∧ ((ob != -1) = true ∧ (ob != (0 : Int)) = false) ∧ (ob == (0 : Int)) = true ∧ cntK LB (0 : Int) (k + 1) = c + 1) := by
                have hs := HS.out
                by_cases h1 : 0 ≤ oa
                · left
                  have : ob = oa := by omega
                  have hne : ¬ ob = (0 : Int) := by omega
                  rw [if_neg hne] at hs
                  exact ⟨by simpa using h1, by simp; omega, by simp [this], by simpa using hne, by omega⟩
                · right
                  by_cases h2 : ob = (0 : Int)
                  · right
                    rw [if_pos h2] at hs
                    exact ⟨by simp; omega, by simp; omega, ⟨by simp; omega, by simpa using h2⟩, by simpa using h2, by omega⟩
                  · left
                    rw [if_neg h2] at hs
                    have : ob = -1 := by omega
                    exact ⟨by simp; omega, by simp; omega, by simp [this], by simpa using h2, by omega⟩
              clear r1 r2 r3
              go_upto_region 16 with fail
              go_cut [118] from 80 to 117 (fun s118 wx => s118 = .bool false ∧ Gr wr wx)
              case first =>
                rcases hcase with ⟨e1, e2, e3, e4, e5⟩ | ⟨e1, e2, e3, e4, e5⟩ | ⟨e1, e2, ⟨e3, e3'⟩, e4, e5⟩
                all_goals
                  refine wp_region_quiet_lit (by kernel_rfl) (by kernel_rfl) ?_
                  repeat (go_big_quiet_step (fail))
                  refine wpQuiet_nil ?_
                  rintro _ ⟨n', rfl⟩
                  go_wp2_with fail
                  go_meet
                  case rel => exact ⟨rfl, (Gr.refl _).dn _⟩
              case rest =>
                obtain ⟨rfl, hgc⟩ := hcut
                have hcb2 := (hgc.cell (lt_of_cell hcb)).trans hcb
                have hbb2 : bb < wc.heap.size := lt_of_cell hcb2
                have HC := Lib.hid hgc
                clear hca hcb hgc
                rcases hcase with ⟨e1, e2, e3, e4, e5⟩ | ⟨e1, e2, e3, e4, e5⟩ | ⟨e1, e2, ⟨e3, e3'⟩, e4, e5⟩
                all_goals
                  have E5 := Lib.hid e5
                  clear e5
                  go_wp2_with fail
                  go_roundw
                  case rel => exact ⟨k + 1, by omega, by go_num, by rw [E5.out]; try rfl, HK.out.trans HC.out⟩
                  case measure => simp [intOf]; omega
            · have hkM : k = M := by omega
              subst hkM
              clear hlt
              go_wp2_with fail
              refine (count_any _ k _ LB _ (RB.out.later HK.out) (by omega)).mono ?_
              rintro e w5 ⟨ac, capc, rfl, hrc, hg5⟩
              have RC := Lib.hid hrc; have HG5 := Lib.hid ((HG4.out.trans HK.out).trans hg5)
              clear hrc hg5
              go_wp2_with fail
              refine (HO.out _).mono ?_
              rintro e w6 ⟨rfl, hg6⟩
              have RC := Lib.hid (RC.out.later hg6); have HG6 := Lib.hid (HG5.out.trans hg6)
              clear hg6
              by_cases hz : cntK LB (0 : Int) k = 0
              · rw [hz]
                go_wp2_with fail
                go_ret
                exact ⟨rfl, HG6.out⟩
              · obtain ⟨m1, m2⟩ := cntL_more (L := LB) (len := 0) (M := k) HLB.out (by omega) (fun j hj => by have := HREL.out j hj; omega) (show 0 < cntK LB (0 : Int) k by omega)
                (try simp only [Int.natCast_zero, Int.ofNat_zero, Nat.zero_add] at m1 m2)
                have hrc := RC.out
                rw [m1] at hrc ⊢
                obtain ⟨bc, offc, rfl, hbc, hcc, hIc⟩ := row_at (i := 0) hrc (by omega)
                rw [m2] at hcc
                (try simp only [Nat.add_zero] at hcc)
                have z1 : ((cntK LB (0 : Int) k : Int) == 0) = false := by simp; omega
                generalize cntK LB (0 : Int) k = c at *
                have z2 : IntKind.i64.wrap ((0 : Int) + 1) = ((0 + 1 : Nat) : Int) := IntWalk.i64_in _ (by omega)
                have z3 : ((c : Int) == (c : Int)) = true := beq_self_eq_true _
                have z4 : (0 : Int) ≤ (0 : Int) := by omega
                clear m1 m2 hrc hIc hz
                go_wp2_with fail
                go_ret
                exact ⟨rfl, HG6.out⟩
        · rw [h0, k1, k1']
          have HG5 := Lib.hid HG4.out
          clear hrb hg4
          go_wp2_with fail
          refine (HO.out _).mono ?_
          rintro e w5 ⟨rfl, hg⟩
          have HG6 := Lib.hid (HG5.out.trans hg)
          clear hg
          go_wp2_with fail
          go_ret
          exact ⟨rfl, HG6.out⟩
      · obtain ⟨k1, k1'⟩ := owE_more [t0, t1, t2, t3, t4, t5] h1
        rw [h1, k1, k1']
        clear hrb hg4
        go_wp2_with fail
        refine (HO.out _).mono ?_
        rintro e w5 ⟨rfl, hg⟩
        have HG6 := Lib.hid (HG4.out.trans hg)
        clear hg
        go_wp2_with fail
        go_ret
        exact ⟨rfl, HG6.out⟩
    | some x0 =>
      clear hnone
      go_enter Try.func6, Try.ntmps6
      go_wp2_with (first
        | (at_builtin; refine wpList_append_own _ rfl _ _ 22 rfl (w.heap.size + 1) 36 i0 (.agg #[.int .i64 0, .int .i64 0, .int .i64 0, .int .i64 0, .int .i64 0, .int .i64 0]) 6 48 Try.underlying22 hi hz0 hz1 hz2 rfl (by decide) _ 0 [] rfl (World.ownsRow_nil _ _ _ _) x0 len cap (fl zs) rfl ?c1 ?c2 ?c3 ?c4 ?c5 ?c6 ?_))
      case c1 => exact rows_len HR.out
      case c2 => exact rows_cells (by omega) (HR.out.later HG0.out) x0 rfl
      case c3 => exact fl_one
      case c4 => unfold maxLen; omega
      case c5 => omega
      case c6 => simp
      intro v' w1 hown hgrow _
      have hg1 : Gr w w1 := Below.grown HG0.out hgrow HG0.out.size (fun j hj => by simp [Value.ownBlock] at hj)
      have hg1' : Gr (w.alloc (.cells #[.int .i64 t0, .int .i64 t1, .int .i64 t2, .int .i64 t3, .int .i64 t4, .int .i64 t5] 36)) w1 := Below.grown (Gr.refl _) hgrow (Nat.le_refl _) (fun j hj => by simp [Value.ownBlock] at hj)
      have hB1 := HB0.out.gr hg1'
      have hs1 := hB1.lt
      have hown2 : w1.ownsRow (w.heap.size + 1) 36 6 v' len (fl zs) := by simpa using hown
      obtain ⟨a9, cap9, hv9⟩ := own_slice hown2
      subst hv9
      have HOWN := Lib.hid hown2; have HG1 := Lib.hid hg1; have HB1 := Lib.hid hB1
      clear hown hgrow hg1 hg1' hB1 hown2 d1 d1' d2 d3 d3' d4 d5 d5' HG0 HB0
      have c0 := HB1.out.blk.cell 0 rfl; have c1 := HB1.out.blk.cell 1 rfl; have c2 := HB1.out.blk.cell 2 rfl; have c3 := HB1.out.blk.cell 3 rfl; have c4 := HB1.out.blk.cell 4 rfl; have c5 := HB1.out.blk.cell 5 rfl
      have HZL := Lib.hid hzl
      go_wp2_with (first
        | (at_builtin; refine wpList_append_own _ rfl _ _ 22 rfl (w.heap.size + 1) 36 i0 (.agg #[.int .i64 0, .int .i64 0, .int .i64 0, .int .i64 0, .int .i64 0, .int .i64 0]) 6 48 Try.underlying22 hi hz0 hz1 hz2 rfl (by decide) _ len _ rfl (HOWN.out.alloc _) ⟨w1.heap.size, 0, none⟩ 1 1 [.int .i64 t0, .int .i64 t1, .int .i64 t2, .int .i64 t3, .int .i64 t4, .int .i64 t5] rfl rfl ?b2 ?b3 ?b4 ?b5 ?b6 ?_))
      case b2 => exact blk_cells (Blk.new rfl)
      case b3 => intro u hu; simp at hu; rcases hu with rfl | rfl | rfl | rfl | rfl | rfl <;> rfl
      case b4 => unfold maxLen; omega
      case b5 => omega
      case b6 => simp; omega
      intro v2 w2 hown2 hgrow2 _
      have hgx : Gr w w2 := Below.grown (HG1.out.alloc _) hgrow2 (HG1.out.alloc _).size (fun j hj => by have := (HOWN.out.lt j hj).1; omega)
      obtain ⟨a9', cap9', hv9', hrows, -, -⟩ := rows_owned (m := 6) (zs := zs ++ [[t0, t1, t2, t3, t4, t5]]) (v := v2) (w := w2) (base := w.heap.size + 1) (e := 36) (by rw [fl_append, fl_one1, List.length_append, HZL.out]; exact hown2) (by rw [List.length_append, HZL.out]; simp <;> omega) HRW.out
      subst hv9'
      have HROWS := Lib.hid hrows; have HG2 := Lib.hid hgx
      clear hown2 hgrow2 hgx hrows c0 c1 c2 c3 c4 c5 hs1
      have hl1 : (zs ++ [[t0, t1, t2, t3, t4, t5]]).length = len + 1 := by rw [List.length_append, HZL.out]; rfl
      rw [hl1] at HROWS ⊢
      go_wp2_with fail
      refine (HOW.out _ len cap zs _ (HR.out.later HG2.out) (by omega)).mono ?_
      rintro e w3 ⟨aa, capa, rfl, hra, hg3⟩
      have RA := Lib.hid hra; have HROWS := Lib.hid (HROWS.out.later hg3); have HG3 := Lib.hid (HG2.out.trans hg3)
      clear hra hg3
      have HL1 := Lib.hid hl1
      clear hl1
      go_wp2_with fail
      refine (HOW.out _ (len + 1) _ (zs ++ [[t0, t1, t2, t3, t4, t5]]) _ HROWS.out (by omega)).mono ?_
      rintro e w4 ⟨ab, capb, rfl, hrb, hg4⟩
      have RA := Lib.hid (RA.out.later hg4); have HG4 := Lib.hid (HG3.out.trans hg4)
      rcases owE_01 (wn : Int) (hn' : Int) zs with h0 | ⟨h1, h1'⟩
      · rcases owE_01 (wn : Int) (hn' : Int) (zs ++ [[t0, t1, t2, t3, t4, t5]]) with k0 | ⟨k1, k1'⟩
        · have EL := owL_at h0
          have KL := owL_at k0
          rw [HZL.out] at EL
          rw [HL1.out] at KL
          have le : (owL (wn : Int) (hn' : Int) zs).length = wn * hn' := by rw [EL, outL_len]
          have lk : (owL (wn : Int) (hn' : Int) (zs ++ [[t0, t1, t2, t3, t4, t5]])).length = wn * hn' := by rw [KL, outL_len]
          have ra := RA.out
          rw [le, EL] at ra
          rw [lk, KL] at hrb
          rw [h0, k0, le, lk]
          have hM : wn * hn' ≤ 64 := Nat.mul_le_mul (show wn ≤ 8 by omega) (show hn' ≤ 8 by omega)
          have hla : ∀ j, j < wn * hn' → (outL zs wn hn' len).getD j 0 = owN zs (j % wn : Nat) (j / wn : Nat) len := fun j hj => by rw [List.getD_eq_getElem?_getD, outL_get hj]; rfl
          have hlb : ∀ j, j < wn * hn' → (outL (zs ++ [[t0, t1, t2, t3, t4, t5]]) wn hn' (len + 1)).getD j 0 = owN (zs ++ [[t0, t1, t2, t3, t4, t5]]) (j % wn : Nat) (j / wn : Nat) (len + 1) := fun j hj => by rw [List.getD_eq_getElem?_getD, outL_get hj]; rfl
          have hrel : ∀ j, j < wn * hn' → -1 ≤ (outL zs wn hn' len).getD j 0 ∧ (outL zs wn hn' len).getD j 0 < len ∧ ((outL (zs ++ [[t0, t1, t2, t3, t4, t5]]) wn hn' (len + 1)).getD j 0 = (outL zs wn hn' len).getD j 0 ∨ ((outL zs wn hn' len).getD j 0 = -1 ∧ (outL (zs ++ [[t0, t1, t2, t3, t4, t5]]) wn hn' (len + 1)).getD j 0 = len)) := by
            intro j hj
            rw [hla j hj, hlb j hj]
            have h1 := owN_bd zs (j % wn : Nat) (j / wn : Nat) len
            have h2 := owN_more zs [t0, t1, t2, t3, t4, t5] (j % wn : Nat) (j / wn : Nat)
            rw [HZL.out] at h2
            rw [h2]
            refine ⟨h1.1, h1.2, ?_⟩
            split
            · rename_i hc; exact .inr ⟨hc.1, rfl⟩
            · exact .inl rfl
          have hlenb : (outL (zs ++ [[t0, t1, t2, t3, t4, t5]]) wn hn' (len + 1)).length = wn * hn' := outL_len _ _ _ _
          clear hla hlb EL KL le lk h0 k0 hg4
          generalize outL (zs ++ [[t0, t1, t2, t3, t4, t5]]) wn hn' (len + 1) = LB at *
          generalize outL zs wn hn' len = LA at *
          generalize wn * hn' = M at *
          have RA := Lib.hid ra; have RB := Lib.hid hrb; have HREL := Lib.hid hrel; have HLB := Lib.hid hlenb
          clear ra hrb hrel hlenb
          go_wp2_with fail
          go_loopw [14, 15] (fun v14 v15 wr => ∃ k : Nat, k ≤ M ∧ v15 = .int .i64 k ∧ v14 = .int .i64 (cntK LB len k) ∧ Gr w4 wr) (fun _ v15 _ => M - (intOf v15).toNat)
          case atStart => exact ⟨0, Nat.zero_le _, rfl, rfl, Gr.refl _⟩
          case round =>
            obtain ⟨k, hk, rfl, rfl, hg⟩ := hrel
            have HK := Lib.hid hg
            clear hg
            have hck := cntK_le LB len k
            by_cases hlt : k < M
            · obtain ⟨ba, offa, rfl, hba, hca, hIa⟩ := row_at (RA.out.later HK.out) hlt
              obtain ⟨bb, offb, rfl, hbb, hcb, hIb⟩ := row_at (RB.out.later HK.out) hlt
              obtain ⟨r1, r2, r3⟩ := HREL.out k hlt
              have hsucc : cntK LB len (k + 1) = cntK LB len k + if LB.getD k 0 = (len : Int) then 1 else 0 := rfl
              have HS := Lib.hid hsucc
              clear hsucc hIa hIb
              generalize cntK LB len k = c at *
              generalize LA.getD k 0 = oa at *
              generalize LB.getD k 0 = ob at *
              have hk0 : (0 : Int) ≤ (k : Int) := by omega
              have u1 : IntKind.i64.wrap ((c : Int) + 1) = (c : Int) + 1 := IntWalk.i64_in _ (by omega)
              have hcase : (decide (0 ≤ oa) = true ∧ decide (oa < 0) = false ∧ (ob != oa) = false ∧ (ob == (len : Int)) = false ∧ cntK LB len (k + 1) = c) ∨ (decide (0 ≤ oa) = false ∧ decide (oa < 0) = true ∧ (ob != -1) = false ∧ (ob == (len : Int)) = false ∧ cntK LB len (k + 1) = c) ∨ (decide (0 ≤ oa) = false ∧ decide (oa < 0) = true ∧ ((ob != -1) = true ∧ (ob != (len : Int)) = false) ∧ (ob == (len : Int)) = true ∧ cntK LB len (k + 1) = c + 1) := by
                have hs := HS.out
                by_cases h1 : 0 ≤ oa
                · left
                  have : ob = oa := by omega
                  have hne : ¬ ob = (len : Int) := by omega
                  rw [if_neg hne] at hs
                  exact ⟨by simpa using h1, by simp; omega, by simp [this], by simpa using hne, by omega⟩
                · right
                  by_cases h2 : ob = (len : Int)
                  · right
                    rw [if_pos h2] at hs
                    exact ⟨by simp; omega, by simp; omega, ⟨by simp; omega, by simpa using h2⟩, by simpa using h2, by omega⟩
                  · left
                    rw [if_neg h2] at hs
                    have : ob = -1 := by omega
                    exact ⟨by simp; omega, by simp; omega, by simp [this], by simpa using h2, by omega⟩
              clear r1 r2 r3
              go_upto_region 16 with fail
              go_cut [118] from 80 to 117 (fun s118 wx => s118 = .bool false ∧ Gr wr wx)
              case first =>
                rcases hcase with ⟨e1, e2, e3, e4, e5⟩ | ⟨e1, e2, e3, e4, e5⟩ | ⟨e1, e2, ⟨e3, e3'⟩, e4, e5⟩
                all_goals
                  refine wp_region_quiet_lit (by kernel_rfl) (by kernel_rfl) ?_
                  repeat (go_big_quiet_step (fail))
                  refine wpQuiet_nil ?_
                  rintro _ ⟨n', rfl⟩
                  go_wp2_with fail
                  go_meet
                  case rel => exact ⟨rfl, (Gr.refl _).dn _⟩
              case rest =>
                obtain ⟨rfl, hgc⟩ := hcut
                have hcb2 := (hgc.cell (lt_of_cell hcb)).trans hcb
                have hbb2 : bb < wc.heap.size := lt_of_cell hcb2
                have HC := Lib.hid hgc
                clear hca hcb hgc
                rcases hcase with ⟨e1, e2, e3, e4, e5⟩ | ⟨e1, e2, e3, e4, e5⟩ | ⟨e1, e2, ⟨e3, e3'⟩, e4, e5⟩
                all_goals
                  have E5 := Lib.hid e5
                  clear e5
                  go_wp2_with fail
                  go_roundw
                  case rel => exact ⟨k + 1, by omega, by go_num, by rw [E5.out]; try rfl, HK.out.trans HC.out⟩
                  case measure => simp [intOf]; omega
            · have hkM : k = M := by omega
              subst hkM
              clear hlt
              go_wp2_with fail
              refine (count_any _ k _ LB _ (RB.out.later HK.out) (by omega)).mono ?_
              rintro e w5 ⟨ac, capc, rfl, hrc, hg5⟩
              have RC := Lib.hid hrc; have HG5 := Lib.hid ((HG4.out.trans HK.out).trans hg5)
              clear hrc hg5
              go_wp2_with fail
              refine (HO.out _).mono ?_
              rintro e w6 ⟨rfl, hg6⟩
              have RC := Lib.hid (RC.out.later hg6); have HG6 := Lib.hid (HG5.out.trans hg6)
              clear hg6
              by_cases hz : cntK LB len k = 0
              · rw [hz]
                go_wp2_with fail
                go_ret
                exact ⟨rfl, HG6.out⟩
              · obtain ⟨m1, m2⟩ := cntL_more (L := LB) (len := len) (M := k) HLB.out (by omega) (fun j hj => by have := HREL.out j hj; omega) (show 0 < cntK LB len k by omega)
                (try simp only [Int.natCast_zero, Int.ofNat_zero, Nat.zero_add] at m1 m2)
                have hrc := RC.out
                rw [m1] at hrc ⊢
                obtain ⟨bc, offc, rfl, hbc, hcc, hIc⟩ := row_at (i := len) hrc (by omega)
                rw [m2] at hcc
                (try simp only [Nat.add_zero] at hcc)
                have z1 : ((cntK LB len k : Int) == 0) = false := by simp; omega
                generalize cntK LB len k = c at *
                have z2 : IntKind.i64.wrap ((len : Int) + 1) = ((len + 1 : Nat) : Int) := IntWalk.i64_in _ (by omega)
                have z3 : ((c : Int) == (c : Int)) = true := beq_self_eq_true _
                have z4 : (0 : Int) ≤ (len : Int) := by omega
                clear m1 m2 hrc hIc hz
                go_wp2_with fail
                go_ret
                exact ⟨rfl, HG6.out⟩
        · rw [h0, k1, k1']
          have HG5 := Lib.hid HG4.out
          clear hrb hg4
          go_wp2_with fail
          refine (HO.out _).mono ?_
          rintro e w5 ⟨rfl, hg⟩
          have HG6 := Lib.hid (HG5.out.trans hg)
          clear hg
          go_wp2_with fail
          go_ret
          exact ⟨rfl, HG6.out⟩
      · obtain ⟨k1, k1'⟩ := owE_more [t0, t1, t2, t3, t4, t5] h1
        rw [h1, k1, k1']
        clear hrb hg4
        go_wp2_with fail
        refine (HO.out _).mono ?_
        rintro e w5 ⟨rfl, hg⟩
        have HG6 := Lib.hid (HG4.out.trans hg)
        clear hg
        go_wp2_with fail
        go_ret
        exact ⟨rfl, HG6.out⟩
  · exact more_early W H t0 t1 t2 t3 t4 t5 a len cap w hg
end Go.Proofs.Ytfkgjpdipdllhaa
