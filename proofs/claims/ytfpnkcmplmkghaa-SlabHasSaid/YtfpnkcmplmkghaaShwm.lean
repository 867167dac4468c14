/- The law SlabHas, walked. -/
import Derived.Test.YtfpnkcmplmkghaaShqm
import Derived.Test.YtfpnkcmplmkghaaTz
import Derived.Deep.CutBlock
set_option linter.unusedVariables false
set_option linter.unusedSimpArgs false
namespace Go.Proofs.Ytfpnkcmplmkghaa
open Go.RowKit
namespace Sx
theorem wp_tail5 {P : Program} {A B C D F R : Code} {Q : Exit → Act → World → Prop} {a : Act} {w : World} (K : Act → World → Prop)
    (h1 : ∀ R', (∀ a w, K a w → R'.wp P Q a w) → (A.seq (B.seq (C.seq (D.seq (F.seq R'))))).wp P Q a w) (h2 : ∀ a w, K a w → R.wp P Q a w) : (A.seq (B.seq (C.seq (D.seq (F.seq R))))).wp P Q a w := h1 R h2
/-- The rest of a body that returns a truth in a temporary, by ways. -/
theorem rest_runT {P : Program} {σ : Env} {cx : Cx} {w w1 : World} (hx : CxOk P σ w1 cx) {code : Code} {st : St} {k : Nat} {fn : Func} {T : Tree (Bool × Option AV)} {a : Act} {ρ : Nat → Option Nat} (hres : fn.results.toList = [.tmp k])
    (hk : (aexec cx (acall cx 18) 100000 code [] st).map (lookT k) = T) (he : ∃ e, T.sel σ = some (true, some (.bool e)) ∧ σ.b e = true) (hS : SRel σ ρ st a w1 w1) (hg : Gr w w1) (hd : a.defers = []) :
    code.wp P (bodyPost P fn fun e w' => e = .returned (.bool true) ∧ Gr w w') a w1 := by
  obtain ⟨e, hT, he⟩ := he
  have hk2 : ((aexec cx (acall cx 18) 100000 code [] st).map (lookT k)).sel σ = some (true, some (.bool e)) := by rw [hk]; exact hT
  obtain ⟨r, h1, h2⟩ := sel_map hk2
  refine (aexec_sound hx (acall_sound hx 18) 100000 code (pcOk.nil _) h1 hS (Gr.refl _) (Nat.le_refl _) (Nat.le_refl _) ?_).1
  intro a' w' ρ' k1 k2 k3 k4
  obtain ⟨ex, s'⟩ := r
  simp only [lookT, Prod.mk.injEq] at h2
  obtain ⟨h3, h4⟩ := h2
  cases ex with
  | normal => cases h3
  | exit id => cases h3
  | ret =>
    have ha : aresult cx s' fn.results.toList = some [.bool e] := by
      rw [hres]; simp [aresult, h4]
    obtain ⟨u, u1, u2⟩ := results_ok hx k2 ha
    have u3 : u = .bool (σ.b e) := u2
    rw [he] at u3
    subst u3
    exact ⟨by rw [k4, hd], _, u1, rfl, hg.trans k3⟩
def objs_Sh (b0 b1 b2 b3 b4 b5 d0 d1 d2 d3 d4 d5 : Int) : List Obj := [.cells #[.int .i64 b0, .int .i64 b1, .int .i64 b2, .int .i64 b3, .int .i64 b4, .int .i64 b5] 69, .cells #[.int .i64 d0, .int .i64 d1, .int .i64 d2, .int .i64 d3, .int .i64 d4, .int .i64 d5] 69]
def K_Sh (w : World) (b0 b1 b2 b3 b4 b5 d0 d1 d2 d3 d4 d5 : Int) (a : Act) (w1 : World) : Prop :=
  a.defers = [] ∧ Gr (allocL w (objs_Sh b0 b1 b2 b3 b4 b5 d0 d1 d2 d3 d4 d5)) w1 ∧
    ∃ x0 x1 x2 x3 x6 rest, a.tmps.toList = [x0, x1, x2, x3, .pointer (some ⟨w.heap.size, 0, none⟩), .pointer (some ⟨w.heap.size + 1, 0, none⟩), x6] ++ rest ∧ rest.length = 154
set_option maxRecDepth 100000 in
theorem rest_Sh {w : World} {b0 b1 b2 b3 b4 b5 d0 d1 d2 d3 d4 d5 : Int} {a : Act} {w1 : World} (h : K_Sh w b0 b1 b2 b3 b4 b5 d0 d1 d2 d3 d4 d5 a w1) :
    code_Sh.wp Try.prog (bodyPost Try.prog Try.f13 fun e w' => e = .returned (.bool true) ∧ Gr w w') a w1 := by
  obtain ⟨hd, hg, x0, x1, x2, x3, x6, rest, ht, hl⟩ := h
  have hw1 : Gr w w1 := (allocL_gr _ w).trans hg
  have hx := cs9x_ok w1 [b0, b1, b2, b3, b4, b5, d0, d1, d2, d3, d4, d5] trivial
  have hB : boxesRel (E.at [b0, b1, b2, b3, b4, b5, d0, d1, d2, d3, d4, d5]) (seqRho w.heap.size bx_Sh.length) bx_Sh (objs_Sh b0 b1 b2 b3 b4 b5 d0 d1 d2 d3 d4 d5) :=
    ⟨⟨_, rfl, ⟨_, _, rfl, rfl, ⟨_, _, rfl, rfl, ⟨_, _, rfl, rfl, ⟨_, _, rfl, rfl, ⟨_, _, rfl, rfl, ⟨_, _, rfl, rfl, rfl⟩⟩⟩⟩⟩⟩⟩, ⟨_, rfl, ⟨_, _, rfl, rfl, ⟨_, _, rfl, rfl, ⟨_, _, rfl, rfl, ⟨_, _, rfl, rfl, ⟨_, _, rfl, rfl, ⟨_, _, rfl, rfl, rfl⟩⟩⟩⟩⟩⟩⟩, trivial⟩
  have hS : SRel (E.at [b0, b1, b2, b3, b4, b5, d0, d1, d2, d3, d4, d5]) (seqRho w.heap.size bx_Sh.length) ⟨tm_Sh, boxesHp bx_Sh⟩ a w1 w1 := by
    refine ⟨?_, boxes_hrel hB hg, fun n hn => ?_⟩
    · rw [ht]
      refine relL_append (xs := [.any, .any, .any, .any, .ptr (some (0, 0)), .ptr (some (1, 0)), .any]) ?_ (relL_any 154 rest hl)
      exact ⟨_, _, rfl, trivial, _, _, rfl, trivial, _, _, rfl, trivial, _, _, rfl, trivial, _, _, rfl, ⟨_, rfl, rfl⟩, _, _, rfl, ⟨_, rfl, rfl⟩, _, _, rfl, trivial, rfl⟩
    · have : ¬ n < 2 := by simp [boxesHp, bx_Sh] at hn; omega
      simp [seqRho, bx_Sh, this]
  refine rest_runT hx rfl k_Sh ?_ hS hw1 hd
  cases hgb : ((E).at [b0, b1, b2, b3, b4, b5, d0, d1, d2, d3, d4, d5]).b g_Sh
  · exact ⟨e2_Sh, by unfold Tree.sel; rw [hgb]; rfl, t2_Sh _ _ _ _ _ _ _ _ _ _ _ _ hgb⟩
  · exact ⟨e1_Sh, by unfold Tree.sel; rw [hgb]; rfl, t1_Sh _ _ _ _ _ _ _ _ _ _ _ _ hgb⟩
end Sx
open Sx
namespace Sz
open Sy
theorem mnk_le (zs : List (List Int)) (j : Nat) : ∀ k, k ≤ zs.length → ∀ i, i < k → mnk zs j k ≤ (zs.getD i []).getD j 0
  | 0, _, i, hi => absurd hi (by omega)
  | k + 1, hk, i, hi => by
    rw [mnk_succ zs j k (by omega)]
    by_cases h : i = k
    · subst h; omega
    · have := mnk_le zs j k (by omega) i (by omega); omega
theorem mxk_ge (zs : List (List Int)) (j : Nat) : ∀ k, k ≤ zs.length → ∀ i, i < k → (zs.getD i []).getD j 0 ≤ mxk zs j k
  | 0, _, i, hi => absurd hi (by omega)
  | k + 1, hk, i, hi => by
    rw [mxk_succ zs j k (by omega)]
    by_cases h : i = k
    · subst h; omega
    · have := mxk_ge zs j k (by omega) i (by omega); omega
theorem mnk_att (zs : List (List Int)) (j : Nat) : ∀ k, 0 < k → k ≤ zs.length → ∃ i, i < k ∧ mnk zs j k = (zs.getD i []).getD j 0
  | 0, h, _ => absurd h (by omega)
  | k + 1, _, hk => by
    rw [mnk_succ zs j k (by omega)]
    by_cases h0 : k = 0
    · subst h0; exact ⟨0, by omega, by rw [mnk_zero]; omega⟩
    · obtain ⟨i, hi, e⟩ := mnk_att zs j k (by omega) (by omega)
      by_cases h : mnk zs j k ≤ (zs.getD k []).getD j 0
      · exact ⟨i, by omega, by rw [← e]; omega⟩
      · exact ⟨k, by omega, by omega⟩
theorem mxk_att (zs : List (List Int)) (j : Nat) : ∀ k, 0 < k → k ≤ zs.length → ∃ i, i < k ∧ mxk zs j k = (zs.getD i []).getD j 0
  | 0, h, _ => absurd h (by omega)
  | k + 1, _, hk => by
    rw [mxk_succ zs j k (by omega)]
    by_cases h0 : k = 0
    · subst h0; exact ⟨0, by omega, by rw [mxk_zero]; omega⟩
    · obtain ⟨i, hi, e⟩ := mxk_att zs j k (by omega) (by omega)
      by_cases h : (zs.getD k []).getD j 0 ≤ mxk zs j k
      · exact ⟨i, by omega, by rw [← e]; omega⟩
      · exact ⟨k, by omega, by omega⟩
/-- Each element of a small row is small. -/
theorem small_at {zs : List (List Int)} (h : smallL zs = true) (h3 : ∀ z ∈ zs, z.length = 3 ∧ ∀ x ∈ z, I x) {i j : Nat} (hi : i < zs.length) (hj : j < 3) : Sm ((zs.getD i []).getD j 0) := by
  unfold smallL at h
  rw [List.all_eq_true] at h
  have hm : zs.getD i [] ∈ zs := by rw [List.getD_eq_getElem?_getD, List.getElem?_eq_getElem hi]; exact List.getElem_mem _
  have h1 := h _ hm
  rw [List.all_eq_true] at h1
  have hl := (h3 _ hm).1
  generalize zs.getD i [] = z at *
  refine sm_iff.1 (h1 _ ?_)
  rw [List.getD_eq_getElem?_getD, List.getElem?_eq_getElem (by omega)]
  exact List.getElem_mem _
theorem has_box {zs : List (List Int)} (h : smallL zs = true) (h3 : ∀ z ∈ zs, z.length = 3 ∧ ∀ x ∈ z, I x) {i : Nat} (hi : i < zs.length) {u v t : Int} (ez : zs.getD i [] = [u, v, t]) :
    hasB [mnk zs 0 zs.length, mnk zs 1 zs.length, mnk zs 2 zs.length, mxk zs 0 zs.length, mxk zs 1 zs.length, mxk zs 2 zs.length, u, v, t] = true := by
  have key : ∀ j, j < 3 → Sm (mnk zs j zs.length) ∧ Sm (mxk zs j zs.length) ∧ mnk zs j zs.length ≤ (zs.getD i []).getD j 0 ∧ (zs.getD i []).getD j 0 ≤ mxk zs j zs.length := by
    intro j hj
    obtain ⟨a, ha, ea⟩ := mnk_att zs j zs.length (by omega) (Nat.le_refl _)
    obtain ⟨b, hb, eb⟩ := mxk_att zs j zs.length (by omega) (Nat.le_refl _)
    exact ⟨by rw [ea]; exact small_at h h3 ha hj, by rw [eb]; exact small_at h h3 hb hj, mnk_le zs j _ (Nat.le_refl _) i hi, mxk_ge zs j _ (Nat.le_refl _) i hi⟩
  obtain ⟨a1, a2, a3, a4⟩ := key 0 (by omega)
  obtain ⟨b1, b2, b3, b4⟩ := key 1 (by omega)
  obtain ⟨c1, c2, c3, c4⟩ := key 2 (by omega)
  rw [ez] at a3 a4 b3 b4 c3 c4
  simp only [List.getD_cons_zero, List.getD_cons_succ] at a3 a4 b3 b4 c3 c4
  have hs : sis [mnk zs 0 zs.length, mnk zs 1 zs.length, mnk zs 2 zs.length, mxk zs 0 zs.length, mxk zs 1 zs.length, mxk zs 2 zs.length] = true :=
    sis_iff.2 ⟨a1, b1, c1, a2, b2, c2, by omega, by omega, by omega⟩
  simp [hasB, hs]
  omega
theorem has_any (a b c d e f u v t : Int) (w : World) : Calls Try.prog 63 #[.agg #[.int .i64 a, .int .i64 b, .int .i64 c, .int .i64 d, .int .i64 e, .int .i64 f], .agg #[.int .i64 u, .int .i64 v, .int .i64 t]] w
      fun r w' => r = .returned (.bool (hasB [a, b, c, d, e, f, u, v, t])) ∧ Gr w w' := Sx.flat_run (Sx.c_has w) rfl [a, b, c, d, e, f, u, v, t] rfl trivial
end Sz
open Sy Sz
set_option maxHeartbeats 8000000 in
set_option maxRecDepth 100000 in
theorem walk_SlabHas (w : World) (p : Option Addr) (len cap : Nat) (zs : List (List Int)) (hr : Oi.IsRows 3 w p len zs) (hn : p = none → cap = 0) (b0 b1 b2 b3 b4 b5 : Int) (_ : I b0) (_ : I b1) (_ : I b2) (_ : I b3) (_ : I b4) (_ : I b5) (d0 d1 d2 d3 d4 d5 : Int) (_ : I d0) (_ : I d1) (_ : I d2) (_ : I d3) (_ : I d4) (_ : I d5) :
    Calls Try.prog 13 #[.slice p len cap, .agg #[.int .i64 b0, .int .i64 b1, .int .i64 b2, .int .i64 b3, .int .i64 b4, .int .i64 b5], .agg #[.int .i64 d0, .int .i64 d1, .int .i64 d2, .int .i64 d3, .int .i64 d4, .int .i64 d5]] w fun e w' => e = .returned (.bool true) ∧ Gr w w' := by
  by_cases hl : 60 < len
  · clear hr hn
    go_enter Try.func13, Try.ntmps13
    go_wp2
    go_ret
    exact ⟨rfl, ((Gr.refl _).alloc _).alloc _⟩
  · have HR := Lib.hid hr; have HLL := Lib.hid hr.2.1
    clear hr hn
    go_enter Try.func13, Try.ntmps13
    refine wp_tail5 (K_Sh w b0 b1 b2 b3 b4 b5 d0 d1 d2 d3 d4 d5) ?_ (fun a w1 h => rest_Sh h)
    intro R' hR'
    have HR' := Lib.hid hR'; clear hR'
    go_wp2_with fail
    refine (of_any p len cap zs _ (HR.out.later (allocL_gr (objs_Sh b0 b1 b2 b3 b4 b5 d0 d1 d2 d3 d4 d5) w))).mono ?_
    rintro e w1 ⟨rfl, g1⟩
    have G1 := Lib.hid (show Gr (allocL w (objs_Sh b0 b1 b2 b3 b4 b5 d0 d1 d2 d3 d4 d5)) w1 from g1)
    clear g1
    by_cases he : oe zs = 0
    · have hlz := HR.out.1
      have hne : ¬ zs.length = 0 := fun h => by unfold oe at he; rw [if_pos h] at he; omega
      have hsm : smallL zs = true := by
        cases h : smallL zs
        · unfold oe at he; rw [if_neg hne, h] at he; simp at he
        · rfl
      have hob : obV zs = .agg #[.int .i64 (mnk zs 0 len), .int .i64 (mnk zs 1 len), .int .i64 (mnk zs 2 len), .int .i64 (mxk zs 0 len), .int .i64 (mxk zs 1 len), .int .i64 (mxk zs 2 len)] := by unfold obV ob; rw [if_pos he, hlz]; rfl
      have hhas : ∀ i u v t, i < len → zs.getD i [] = [u, v, t] → hasB [mnk zs 0 len, mnk zs 1 len, mnk zs 2 len, mxk zs 0 len, mxk zs 1 len, mxk zs 2 len, u, v, t] = true := by
        intro i u v t hi ez
        have := has_box hsm HR.out.2.2.1 (by omega : i < zs.length) ez
        rwa [hlz] at this
      obtain ⟨iL, hiL, eL⟩ := mnk_att zs 0 len (by omega) (by omega)
      obtain ⟨iH, hiH, eH⟩ := mxk_att zs 2 len (by omega) (by omega)
      rw [he, hob]
      generalize mnk zs 0 len = M0 at *
      generalize mnk zs 1 len = M1 at *
      generalize mnk zs 2 len = M2 at *
      generalize mxk zs 0 len = X0 at *
      generalize mxk zs 1 len = X1 at *
      generalize mxk zs 2 len = X2 at *
      have HH := Lib.hid hhas; have EL := Lib.hid eL; have EH := Lib.hid eH
      clear hob hhas hsm he eL eH hlz
      have hP := Blk.new (w := w1) (T := 69) (vs := [.int .i64 M0, .int .i64 M1, .int .i64 M2, .int .i64 X0, .int .i64 X1, .int .i64 X2]) rfl
      have HP := Lib.hid hP
      clear hP
      go_wp2_with fail
      have R1 := Lib.hid (HR.out.later (((allocL_gr _ w).trans G1.out).alloc (.cells #[.int .i64 M0, .int .i64 M1, .int .i64 M2, .int .i64 X0, .int .i64 X1, .int .i64 X2] 69)))
      have G2 := Lib.hid (G1.out.alloc (.cells #[.int .i64 M0, .int .i64 M1, .int .i64 M2, .int .i64 X0, .int .i64 X1, .int .i64 X2] 69))
      replace HP := Lib.hid (show Blk (w1.alloc (.cells #[.int .i64 M0, .int .i64 M1, .int .i64 M2, .int .i64 X0, .int .i64 X1, .int .i64 X2] 69)) w1.heap.size [.int .i64 M0, .int .i64 M1, .int .i64 M2, .int .i64 X0, .int .i64 X1, .int .i64 X2] from HP.out)
      generalize w1.alloc (.cells #[.int .i64 M0, .int .i64 M1, .int .i64 M2, .int .i64 X0, .int .i64 X1, .int .i64 X2] 69) = w2 at *
      generalize w1.heap.size = pb at *
      go_loopw [9] (fun v9 wr => ∃ k : Nat, k ≤ len ∧ v9 = .int .i64 k ∧ Gr w2 wr) (fun v9 _ => len - (intOf v9).toNat)
      case atStart => exact ⟨0, Nat.zero_le _, rfl, Gr.refl _⟩
      case round =>
        obtain ⟨k, hk, rfl, hg⟩ := hrel
        by_cases hlt : k < len
        · obtain ⟨b, off, u, v, t, rfl, hb, ez, c0, c1, c2, _, _, _⟩ := rows3_at (R1.out.later hg) hlt
          have hhk := HH.out k u v t hlt ez
          have q0 := (HP.out.gr hg).gw 0 rfl; have q1 := (HP.out.gr hg).gw 1 rfl; have q2 := (HP.out.gr hg).gw 2 rfl; have q3 := (HP.out.gr hg).gw 3 rfl; have q4 := (HP.out.gr hg).gw 4 rfl; have q5 := (HP.out.gr hg).gw 5 rfl
          have r0 : ∀ z : GW wr, z.val.cell? ⟨b, off + k * 3, none⟩ = some (.int .i64 u) := fun z => (z.gr.cell hb).trans c0
          have r1 : ∀ z : GW wr, z.val.cell? ⟨b, off + k * 3 + 1, none⟩ = some (.int .i64 v) := fun z => (z.gr.cell hb).trans c1
          have r2 : ∀ z : GW wr, z.val.cell? ⟨b, off + k * 3 + 2, none⟩ = some (.int .i64 t) := fun z => (z.gr.cell hb).trans c2
          have HG := Lib.hid hg; have HK := Lib.hid hhk
          clear hg hhk ez c0 c1 c2 hb
          go_wp2_with fail
          refine wp_region_gr (W := wr) (by kernel_rfl) (by kernel_rfl) (Gr.refl _) ?_
          repeat (go_big_quiet_step (fail))
          go_big_quiet_want; go_big_quiet_op
          go_big_quiet_call (exact Calls.cw (has_any M0 M1 M2 X0 X1 X2 u v t _))
          rw [HK.out]
          repeat (go_big_quiet_step (fail))
          refine wpQuiet_nil ?_
          rintro _ ⟨z, rfl⟩
          have HG2 := Lib.hid (HG.out.trans z.gr)
          clear q0 q1 q2 q3 q4 q5 r0 r1 r2
          go_wp2
          go_roundw
          case rel => exact ⟨k + 1, by omega, by go_num, HG2.out⟩
          case measure => simp [intOf]; omega
        · have HG := Lib.hid hg; clear hg
          go_wp2_with fail
          have P3 := Lib.hid (HP.out.gr HG.out); have R3 := Lib.hid (R1.out.later HG.out); have G3 := Lib.hid (G2.out.trans HG.out)
          clear HG
          go_loopw [10, 11, 12] (fun v10 v11 v12 wy => ∃ k lo hi : Nat, k ≤ len ∧ v12 = .int .i64 k ∧ v10 = .int .i64 lo ∧ v11 = .int .i64 hi ∧ lo ≤ k ∧ hi ≤ k ∧ (iL < k → 0 < lo) ∧ (iH < k → 0 < hi) ∧ Gr wr wy) (fun _ _ v12 _ => len - (intOf v12).toNat)
          case atStart => exact ⟨0, 0, 0, Nat.zero_le _, rfl, rfl, rfl, by omega, by omega, fun h => by omega, fun h => by omega, Gr.refl _⟩
          case round =>
            obtain ⟨k, lo, hi, hk, rfl, rfl, rfl, hlo, hhi, ha, hb, hg⟩ := hrel
            by_cases hlt : k < len
            · obtain ⟨b, off, u, v, t, rfl, hbl, ez, c0, c1, c2, _, _, _⟩ := rows3_at (R3.out.later hg) hlt
              have q0 := (P3.out.gr hg).gw 0 rfl; have q5 := (P3.out.gr hg).gw 5 rfl
              have r0 : ∀ z : GW wr, z.val.cell? ⟨b, off + k * 3, none⟩ = some (.int .i64 u) := fun z => (z.gr.cell hbl).trans c0
              have r2 : ∀ z : GW wr, z.val.cell? ⟨b, off + k * 3 + 2, none⟩ = some (.int .i64 t) := fun z => (z.gr.cell hbl).trans c2
              have HGR := Lib.hid hg
              have hw1 : IntKind.i64.wrap ((lo : Int) + 1) = (lo : Int) + 1 := IntWalk.i64_in _ (by omega)
              have hw2 : IntKind.i64.wrap ((hi : Int) + 1) = (hi : Int) + 1 := IntWalk.i64_in _ (by omega)
              have fu : iL = k → u = M0 := fun h => by have e := EL.out; rw [h, ez] at e; simpa using e.symm
              have ft : iH = k → t = X2 := fun h => by have e := EH.out; rw [h, ez] at e; simpa using e.symm
              clear hg c0 c1 c2 hbl
              by_cases hu : u = M0 <;> by_cases ht : t = X2
              · have HA := Lib.hid (show iL < k + 1 → 0 < lo + 1 from fun h => by omega)
                have HB := Lib.hid (show iH < k + 1 → 0 < hi + 1 from fun h => by omega)
                clear fu ft ha hb
                clear ez
                go_wp2_with fail
                refine wp_region_gr (W := wr) (by kernel_rfl) (by kernel_rfl) (Gr.refl _) ?_
                repeat (go_big_quiet_step (fail))
                refine wpQuiet_nil ?_
                rintro _ ⟨z, rfl⟩
                have hz := z.gr
                have p0 := q0 z; have p5 := q5 z; have s0 := r0 z; have s2 := r2 z
                have qq0 : ∀ y : GW z.val, y.val.cell? ⟨pb, 0, none⟩ = some (.int .i64 M0) := fun y => (y.gr.cell (lt_of_cell p0)).trans p0
                have qq5 : ∀ y : GW z.val, y.val.cell? ⟨pb, 5, none⟩ = some (.int .i64 X2) := fun y => (y.gr.cell (lt_of_cell p5)).trans p5
                have rr0 : ∀ y : GW z.val, y.val.cell? ⟨b, off + k * 3, none⟩ = some (.int .i64 u) := fun y => (y.gr.cell (lt_of_cell s0)).trans s0
                have rr2 : ∀ y : GW z.val, y.val.cell? ⟨b, off + k * 3 + 2, none⟩ = some (.int .i64 t) := fun y => (y.gr.cell (lt_of_cell s2)).trans s2
                have HZ := Lib.hid (HGR.out.trans hz)
                clear q0 q5 r0 r2 p0 p5 s0 s2
                generalize z.val = w5 at *
                clear z hz
                go_wp2_with fail
                refine wp_region_gr (W := w5) (by kernel_rfl) (by kernel_rfl) (Gr.refl _) ?_
                repeat (go_big_quiet_step (fail))
                refine wpQuiet_nil ?_
                rintro _ ⟨y, rfl⟩
                have HY := Lib.hid (HZ.out.trans y.gr)
                clear qq0 qq5 rr0 rr2
                go_wp2
                go_roundw
                case rel => exact ⟨k + 1, lo + 1, hi + 1, by omega, by go_num, by go_num, by go_num, by omega, by omega, HA.out, HB.out, HY.out⟩
                case measure => simp [intOf]; omega
              · have HA := Lib.hid (show iL < k + 1 → 0 < lo + 1 from fun h => by omega)
                have HB := Lib.hid (show iH < k + 1 → 0 < hi from fun h => by by_cases h2 : iH = k; exact absurd (ft h2) ht; exact hb (by omega))
                clear fu ft ha hb
                clear ez
                go_wp2_with fail
                refine wp_region_gr (W := wr) (by kernel_rfl) (by kernel_rfl) (Gr.refl _) ?_
                repeat (go_big_quiet_step (fail))
                refine wpQuiet_nil ?_
                rintro _ ⟨z, rfl⟩
                have hz := z.gr
                have p0 := q0 z; have p5 := q5 z; have s0 := r0 z; have s2 := r2 z
                have qq0 : ∀ y : GW z.val, y.val.cell? ⟨pb, 0, none⟩ = some (.int .i64 M0) := fun y => (y.gr.cell (lt_of_cell p0)).trans p0
                have qq5 : ∀ y : GW z.val, y.val.cell? ⟨pb, 5, none⟩ = some (.int .i64 X2) := fun y => (y.gr.cell (lt_of_cell p5)).trans p5
                have rr0 : ∀ y : GW z.val, y.val.cell? ⟨b, off + k * 3, none⟩ = some (.int .i64 u) := fun y => (y.gr.cell (lt_of_cell s0)).trans s0
                have rr2 : ∀ y : GW z.val, y.val.cell? ⟨b, off + k * 3 + 2, none⟩ = some (.int .i64 t) := fun y => (y.gr.cell (lt_of_cell s2)).trans s2
                have HZ := Lib.hid (HGR.out.trans hz)
                clear q0 q5 r0 r2 p0 p5 s0 s2
                generalize z.val = w5 at *
                clear z hz
                go_wp2_with fail
                refine wp_region_gr (W := w5) (by kernel_rfl) (by kernel_rfl) (Gr.refl _) ?_
                repeat (go_big_quiet_step (fail))
                refine wpQuiet_nil ?_
                rintro _ ⟨y, rfl⟩
                have HY := Lib.hid (HZ.out.trans y.gr)
                clear qq0 qq5 rr0 rr2
                go_wp2
                go_roundw
                case rel => exact ⟨k + 1, lo + 1, hi, by omega, by go_num, by go_num, by go_num, by omega, by omega, HA.out, HB.out, HY.out⟩
                case measure => simp [intOf]; omega
              · have HA := Lib.hid (show iL < k + 1 → 0 < lo from fun h => by by_cases h2 : iL = k; exact absurd (fu h2) hu; exact ha (by omega))
                have HB := Lib.hid (show iH < k + 1 → 0 < hi + 1 from fun h => by omega)
                clear fu ft ha hb
                clear ez
                go_wp2_with fail
                refine wp_region_gr (W := wr) (by kernel_rfl) (by kernel_rfl) (Gr.refl _) ?_
                repeat (go_big_quiet_step (fail))
                refine wpQuiet_nil ?_
                rintro _ ⟨z, rfl⟩
                have hz := z.gr
                have p0 := q0 z; have p5 := q5 z; have s0 := r0 z; have s2 := r2 z
                have qq0 : ∀ y : GW z.val, y.val.cell? ⟨pb, 0, none⟩ = some (.int .i64 M0) := fun y => (y.gr.cell (lt_of_cell p0)).trans p0
                have qq5 : ∀ y : GW z.val, y.val.cell? ⟨pb, 5, none⟩ = some (.int .i64 X2) := fun y => (y.gr.cell (lt_of_cell p5)).trans p5
                have rr0 : ∀ y : GW z.val, y.val.cell? ⟨b, off + k * 3, none⟩ = some (.int .i64 u) := fun y => (y.gr.cell (lt_of_cell s0)).trans s0
                have rr2 : ∀ y : GW z.val, y.val.cell? ⟨b, off + k * 3 + 2, none⟩ = some (.int .i64 t) := fun y => (y.gr.cell (lt_of_cell s2)).trans s2
                have HZ := Lib.hid (HGR.out.trans hz)
                clear q0 q5 r0 r2 p0 p5 s0 s2
                generalize z.val = w5 at *
                clear z hz
                go_wp2_with fail
                refine wp_region_gr (W := w5) (by kernel_rfl) (by kernel_rfl) (Gr.refl _) ?_
                repeat (go_big_quiet_step (fail))
                refine wpQuiet_nil ?_
                rintro _ ⟨y, rfl⟩
                have HY := Lib.hid (HZ.out.trans y.gr)
                clear qq0 qq5 rr0 rr2
                go_wp2
                go_roundw
                case rel => exact ⟨k + 1, lo, hi + 1, by omega, by go_num, by go_num, by go_num, by omega, by omega, HA.out, HB.out, HY.out⟩
                case measure => simp [intOf]; omega
              · have HA := Lib.hid (show iL < k + 1 → 0 < lo from fun h => by by_cases h2 : iL = k; exact absurd (fu h2) hu; exact ha (by omega))
                have HB := Lib.hid (show iH < k + 1 → 0 < hi from fun h => by by_cases h2 : iH = k; exact absurd (ft h2) ht; exact hb (by omega))
                clear fu ft ha hb
                clear ez
                go_wp2_with fail
                refine wp_region_gr (W := wr) (by kernel_rfl) (by kernel_rfl) (Gr.refl _) ?_
                repeat (go_big_quiet_step (fail))
                refine wpQuiet_nil ?_
                rintro _ ⟨z, rfl⟩
                have hz := z.gr
                have p0 := q0 z; have p5 := q5 z; have s0 := r0 z; have s2 := r2 z
                have qq0 : ∀ y : GW z.val, y.val.cell? ⟨pb, 0, none⟩ = some (.int .i64 M0) := fun y => (y.gr.cell (lt_of_cell p0)).trans p0
                have qq5 : ∀ y : GW z.val, y.val.cell? ⟨pb, 5, none⟩ = some (.int .i64 X2) := fun y => (y.gr.cell (lt_of_cell p5)).trans p5
                have rr0 : ∀ y : GW z.val, y.val.cell? ⟨b, off + k * 3, none⟩ = some (.int .i64 u) := fun y => (y.gr.cell (lt_of_cell s0)).trans s0
                have rr2 : ∀ y : GW z.val, y.val.cell? ⟨b, off + k * 3 + 2, none⟩ = some (.int .i64 t) := fun y => (y.gr.cell (lt_of_cell s2)).trans s2
                have HZ := Lib.hid (HGR.out.trans hz)
                clear q0 q5 r0 r2 p0 p5 s0 s2
                generalize z.val = w5 at *
                clear z hz
                go_wp2_with fail
                refine wp_region_gr (W := w5) (by kernel_rfl) (by kernel_rfl) (Gr.refl _) ?_
                repeat (go_big_quiet_step (fail))
                refine wpQuiet_nil ?_
                rintro _ ⟨y, rfl⟩
                have HY := Lib.hid (HZ.out.trans y.gr)
                clear qq0 qq5 rr0 rr2
                go_wp2
                go_roundw
                case rel => exact ⟨k + 1, lo, hi, by omega, by go_num, by go_num, by go_num, by omega, by omega, HA.out, HB.out, HY.out⟩
                case measure => simp [intOf]; omega
            · have hkl : k = len := by omega
              subst hkl
              have hlo2 := ha hiL
              have hhi2 := hb hiH
              have z0 : ((lo : Int) == 0) = false := by simp; omega
              have z1 : ((hi : Int) == 0) = false := by simp; omega
              have z2 : (lo == 0) = false := by simp; omega
              have z3 : (hi == 0) = false := by simp; omega
              have HG := Lib.hid hg; clear hg ha hb
              go_wp2_with fail
              exact HR'.out _ _ ⟨rfl, (G3.out.trans HG.out), _, _, _, _, _, _, (split_at' (n := 7) (m := 154) rfl rfl).1, by exact (split_at' (n := 7) (m := 154) rfl rfl).2⟩
    · have hob : obV zs = .agg #[.int .i64 0, .int .i64 0, .int .i64 0, .int .i64 0, .int .i64 0, .int .i64 0] := by unfold obV ob; rw [if_neg he]; rfl
      rw [hob]
      have HE := Lib.hid he
      generalize oe zs = E0 at *
      have hq : (E0 == 0) = false := by simp; exact he
      clear hob
      go_wp2_with fail
      go_loopw [9] (fun v9 wr => ∃ k : Nat, k ≤ len ∧ v9 = .int .i64 k ∧ Gr w1 wr) (fun v9 _ => len - (intOf v9).toNat)
      case atStart => exact ⟨0, Nat.zero_le _, rfl, (Gr.refl _).alloc _⟩
      case round =>
        obtain ⟨k, hk, rfl, hg⟩ := hrel
        by_cases hlt : k < len
        · have HG := Lib.hid hg; clear hg
          go_wp2_with fail
          refine wp_region_gr (W := wr) (by kernel_rfl) (by kernel_rfl) (Gr.refl _) ?_
          repeat (go_big_quiet_step (fail))
          refine wpQuiet_nil ?_
          rintro _ ⟨z, rfl⟩
          have HG2 := Lib.hid (HG.out.trans z.gr)
          go_wp2
          go_roundw
          case rel => exact ⟨k + 1, by omega, by go_num, HG2.out⟩
          case measure => simp [intOf]; omega
        · have HG := Lib.hid hg; clear hg
          go_wp2_with fail
          exact HR'.out _ _ ⟨rfl, G1.out.trans HG.out, _, _, _, _, _, _, (split_at' (n := 7) (m := 154) rfl rfl).1, by exact (split_at' (n := 7) (m := 154) rfl rfl).2⟩
end Go.Proofs.Ytfpnkcmplmkghaa
