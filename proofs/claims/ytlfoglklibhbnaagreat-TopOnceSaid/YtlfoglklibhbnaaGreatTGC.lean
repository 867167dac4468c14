/- Texts that stood alone before, in one. -/
import Derived.Test.YtlfoglklibhbnaaGreatTGB
import Derived.Test.YtlfoglklibhbnaaGreatOr
import Derived.Test.YtlfoglklibhbnaaGreatTG1
/- The laws' small helpers, walked; sign.Area. -/
set_option linter.unusedVariables false
set_option linter.unusedSimpArgs false
namespace Go.Proofs.YtlfoglklibhbnaaGreat
open Go.RowKit
namespace Mt
attribute [local go_sem ↓] Go.wp_at_zero Go.wp_at_succ
set_option maxHeartbeats 4000000 in
set_option maxRecDepth 100000 in
theorem few14_any (m : ML) (w : World) :
    Calls Tryz.prog 16 #[m.val] w fun e w' => ∃ bb, e = .returned (.bool bb) ∧ Gr w w' := by
  obtain ⟨⟨av, lv, cv⟩, ⟨at', lt, ct⟩, ⟨an, ln, cn⟩, ⟨af, lf, cf⟩⟩ := m
  have hB : Bx (w.alloc (.cells #[.slice av lv cv, .slice at' lt ct, .slice an ln cn, .slice af lf cf] 26)) w.heap.size 26 [.slice av lv cv, .slice at' lt ct, .slice an ln cn, .slice af lf cf] := Bx.new (vs := [.slice av lv cv, .slice at' lt ct, .slice an ln cn, .slice af lf cf]) rfl
  have hG : Gr w (w.alloc (.cells #[.slice av lv cv, .slice at' lt ct, .slice an ln cn, .slice af lf cf] 26)) := (Gr.refl w).alloc _
  have HG := Lib.hid hG
  have c0 := hB.blk.cell 0 rfl; have c1 := hB.blk.cell 1 rfl; have c2 := hB.blk.cell 2 rfl; have c3 := hB.blk.cell 3 rfl
  clear hB hG
  unfold ML.val SL.v
  by_cases h1 : lv ≤ 20
  · have d1 : decide ((lv : Int) ≤ 20) = true := by simp; omega
    have d1' : decide (lv ≤ 20) = true := by simp; omega
    by_cases h2 : lt ≤ 60
    · have d2 : decide ((lt : Int) ≤ 60) = true := by simp; omega
      have d2' : decide (lt ≤ 60) = true := by simp; omega
      by_cases h3 : ln ≤ 60
      · have d3 : decide ((ln : Int) ≤ 60) = true := by simp; omega
        have d3' : decide (ln ≤ 60) = true := by simp; omega
        go_enter Tryz.func16, Tryz.ntmps16
        go_wp2_with fail
        go_ret
        exact ⟨_, rfl, HG.out⟩
      · have d3 : decide ((ln : Int) ≤ 60) = false := by simp; omega
        have d3' : decide (ln ≤ 60) = false := by simp; omega
        go_enter Tryz.func16, Tryz.ntmps16
        go_wp2_with fail
        go_ret
        exact ⟨_, rfl, HG.out⟩
    · have d2 : decide ((lt : Int) ≤ 60) = false := by simp; omega
      have d2' : decide (lt ≤ 60) = false := by simp; omega
      go_enter Tryz.func16, Tryz.ntmps16
      go_wp2_with fail
      go_ret
      exact ⟨_, rfl, HG.out⟩
  · have d1 : decide ((lv : Int) ≤ 20) = false := by simp; omega
    have d1' : decide (lv ≤ 20) = false := by simp; omega
    go_enter Tryz.func16, Tryz.ntmps16
    go_wp2_with fail
    go_ret
    exact ⟨_, rfl, HG.out⟩
set_option maxHeartbeats 4000000 in
set_option maxRecDepth 100000 in
theorem few15_any (m : ML) (w : World) :
    Calls Tryz.prog 5 #[m.val, .slice none 0 0] w fun e w' => ∃ bb, e = .returned (.bool bb) ∧ (bb = true → m.f.len ≤ 12) ∧ Gr w w' := by
  have HF := Lib.hid (fun w1 => few14_any m w1)
  obtain ⟨⟨av, lv, cv⟩, ⟨at', lt, ct⟩, ⟨an, ln, cn⟩, ⟨af, lf, cf⟩⟩ := m
  have hB : Bx (w.alloc (.cells #[.slice av lv cv, .slice at' lt ct, .slice an ln cn, .slice af lf cf] 26)) w.heap.size 26 [.slice av lv cv, .slice at' lt ct, .slice an ln cn, .slice af lf cf] := Bx.new (vs := [.slice av lv cv, .slice at' lt ct, .slice an ln cn, .slice af lf cf]) rfl
  have hG : Gr w (w.alloc (.cells #[.slice av lv cv, .slice at' lt ct, .slice an ln cn, .slice af lf cf] 26)) := (Gr.refl w).alloc _
  have HG := Lib.hid hG; have HB := Lib.hid hB
  have c0 := hB.blk.cell 0 rfl; have c1 := hB.blk.cell 1 rfl; have c2 := hB.blk.cell 2 rfl; have c3 := hB.blk.cell 3 rfl; have lB := hB.lt
  clear hB hG
  unfold ML.val SL.v
  unfold ML.val SL.v at HF
  go_enter Tryz.func5, Tryz.ntmps5
  go_wp2_with fail
  go_loopw [5] (fun v5 wr => v5 = .int .i64 0 ∧ wr = w.alloc (.cells #[.slice av lv cv, .slice at' lt ct, .slice an ln cn, .slice af lf cf] 26)) (fun v5 _ => 0)
  case atStart => exact ⟨rfl, rfl⟩
  case round =>
    obtain ⟨rfl, rfl⟩ := hrel
    go_wp2_with fail
    refine (HF.out _).mono ?_
    rintro e w2 ⟨bb, rfl, hg2⟩
    have HG2 := Lib.hid (HG.out.trans hg2)
    have hB2 := HB.out.gr hg2
    have e3 := hB2.blk.cell 3 rfl
    clear hB2 hg2 c0 c1 c2 c3 lB
    cases bb with
    | false =>
      go_wp2_with fail
      go_ret
      exact ⟨_, rfl, fun h => by simp at h, HG2.out⟩
    | true =>
      go_wp2_with fail
      go_ret
      exact ⟨_, rfl, fun h => (by have h2 := h; simp at h2; show lf ≤ 12; omega), HG2.out⟩
set_option maxHeartbeats 4000000 in
set_option maxRecDepth 100000 in
theorem in_any (a : Option Addr) (len cap : Nat) (zs : List Int) (x : Int) (w : World) (hr : IsRow .i64 w a len zs) (hl : len ≤ 1000) :
    Calls Tryz.prog 23 #[.slice a len cap, .int .i64 x] w fun e w' => e = .returned (.bool (decide (x ∈ zs))) ∧ w = w' := by
  have hlen := hr.1
  have HR := Lib.hid hr
  have HLEN := Lib.hid hlen
  clear hr hlen
  go_enter Tryz.func23, Tryz.ntmps23
  go_wp2_with fail
  go_loopw [5] (fun v5 wr => ∃ k : Nat, k ≤ len ∧ v5 = .int .i64 k ∧ (∀ j, j < k → zs.getD j 0 ≠ x) ∧ wr = w) (fun v5 _ => len - (intOf v5).toNat)
  case atStart => exact ⟨0, Nat.zero_le _, rfl, fun j h => absurd h (by omega), rfl⟩
  case round =>
    obtain ⟨k, hk, rfl, hno, rfl⟩ := hrel
    have HNO := Lib.hid hno
    clear hno
    by_cases hlt : k < len
    · obtain ⟨b, off, rfl, lb, hc, hI⟩ := row_at HR.out hlt
      have hk0 : (0 : Int) ≤ (k : Int) := by omega
      have hm : zs.getD k 0 ∈ zs := by rw [List.getD_eq_getElem?_getD, List.getElem?_eq_getElem (by have := HLEN.out; omega)]; exact List.getElem_mem _
      have HM := Lib.hid hm
      by_cases e : zs.getD k 0 = x
      · have HE := Lib.hid e
        rw [e] at hc
        clear e hm
        go_wp2_with fail
        go_ret
        refine ⟨?_, rfl⟩
        have := HM.out
        rw [HE.out] at this
        simp [this]
      · have HE := Lib.hid e
        obtain ⟨y, hy⟩ : ∃ y, zs.getD k 0 = y := ⟨_, rfl⟩
        rw [hy] at hc e
        have e1 : (y == x) = false := by simpa using e
        have e2 : decide (y = x) = false := by simpa using e
        clear hm hy e
        go_wp2_with fail
        go_roundw
        case rel =>
          refine ⟨k + 1, by omega, by go_num, fun j hj => ?_, by first | rfl | trivial⟩
          by_cases e : j = k
          · subst e; exact HE.out
          · exact HNO.out j (by omega)
        case measure => simp [intOf]; omega
    · have hkl : k = len := by omega
      subst hkl
      go_wp2_with fail
      go_ret
      refine ⟨?_, rfl⟩
      have : x ∉ zs := fun h => by
        obtain ⟨j, hj⟩ := List.getElem?_of_mem h
        have hjl := (List.getElem?_eq_some_iff.1 hj).1
        exact HNO.out j (by have := HLEN.out; omega) (by rw [List.getD_eq_getElem?_getD, hj]; rfl)
      simp [this]
/-- What patch hands back. -/
def PatP (a : AT) (tri : Int) (w : World) (e : Ending) (w' : World) : Prop := ∃ r : Int, e = .returned (.int .i64 r) ∧ Gr w w' ∧ ((0 ≤ r ∧ ∃ j, j < a.qs.length ∧ tri ∈ (a.qs.getD j P0).tris) ∨ (r = -1 ∧ ∀ j, j < a.qs.length → tri ∉ (a.qs.getD j P0).tris))
set_option maxHeartbeats 4000000 in
set_option maxRecDepth 100000 in
theorem patch_any (at' : AT) (tri : Int) (hg : AGood at') (w : World) (hm : AMem w at') :
    Calls Tryz.prog 10 #[.agg at'.vs.toArray, .int .i64 tri] w (PatP at' tri w) := by
  have HQA := Lib.hid (fun i (h : i < at'.qs.length) => qs_at at' h)
  have HGD := Lib.hid hg.good; have HPS := Lib.hid hm.1
  have hfew := hg.few
  clear hg hm
  unfold PatP
  obtain ⟨W, H, pad, pa, pc, ps, ra, rc, rs⟩ := at'
  simp only [AT.vs] at HQA HGD HPS hfew ⊢
  obtain ⟨n, hn⟩ : ∃ n, ps.length = n := ⟨_, rfl⟩
  have HN := Lib.hid hn
  rw [hn] at hfew ⊢
  clear hn
  obtain ⟨V, hV⟩ : ∃ V, w.alloc (.cells #[.int .i64 W, .int .i64 H, .int .i64 pad, .slice pa n pc, .slice ra rs.length rc] 32) = V := ⟨_, rfl⟩
  obtain ⟨s, hs⟩ : ∃ s, w.heap.size = s := ⟨_, rfl⟩
  have hX : Bx V s 32 [.int .i64 W, .int .i64 H, .int .i64 pad, .slice pa n pc, .slice ra rs.length rc] := by rw [← hV]; exact Bx.new (vs := [.int .i64 W, .int .i64 H, .int .i64 pad, .slice pa n pc, .slice ra rs.length rc]) hs.symm
  have hG : Gr w V := by rw [← hV]; exact (Gr.refl w).alloc _
  have x3 := hX.blk.cell 3 rfl; have lX := hX.lt
  have HX := Lib.hid hX; have HG := Lib.hid hG
  clear hX hG
  go_enter Tryz.func10, Tryz.ntmps10
  go_wp2_with fail
  clear hV hs
  go_loopw [5] (fun v5 wr => ∃ i : Nat, i ≤ n ∧ v5 = .int .i64 i ∧ (∀ j, j < i → tri ∉ (ps.getD j P0).tris) ∧ wr = V) (fun v5 _ => n - (intOf v5).toNat)
  case atStart => exact ⟨0, Nat.zero_le _, rfl, fun j h => absurd h (by omega), rfl⟩
  case round =>
    obtain ⟨i, hi, rfl, hno, rfl⟩ := hrel
    have HNO := Lib.hid hno
    clear hno
    by_cases hlt : i < n
    · have hip : i < ps.length := by have := HN.out; omega
      obtain ⟨b, off, rfl, lb, hpm, c0, c1, c2, c3⟩ := prow_op (HPS.out.later HG.out) hip
      have hpg := HGD.out _ (List.getElem_mem hip)
      have hqa := HQA.out i hip
      generalize ps[i] = p at *
      have hle := hpg.len; have hf := hpg.few
      have hlt2 : p.tris.length ≤ 1000 := by omega
      have HIN := Lib.hid (in_any p.ta p.tris.length p.tc p.tris tri wr hpm.1 hlt2)
      have HQI := Lib.hid hqa
      have hi0 : (0 : Int) ≤ (i : Int) := by omega
      clear hle hf hpg hpm hqa
      go_wp2_with fail
      refine HIN.out.mono ?_
      rintro e w2 ⟨rfl, rfl⟩
      by_cases hmem : tri ∈ p.tris
      · rw [decide_eq_true hmem]
        have HM := Lib.hid hmem
        clear hmem
        go_wp2_with fail
        go_ret
        exact ⟨_, rfl, HG.out, .inl ⟨by omega, i, hlt, by rw [HQI.out]; exact HM.out⟩⟩
      · rw [decide_eq_false hmem]
        have HM := Lib.hid hmem
        clear hmem
        go_wp2_with fail
        go_roundw
        case rel =>
          refine ⟨i + 1, by omega, by go_num, fun j hj => ?_, by first | rfl | trivial⟩
          by_cases e : j = i
          · subst e; rw [HQI.out]; exact HM.out
          · exact HNO.out j (by omega)
        case measure => simp [intOf]; omega
    · have hin : i = n := by omega
      subst hin
      go_wp2_with fail
      go_ret
      exact ⟨_, rfl, HG.out, .inr ⟨rfl, HNO.out⟩⟩
theorem area_raw (a0 a1 b0 b1 c0 c1 : Int) (w : World) : Calls Tryz.prog 12 #[.agg #[.int .i64 a0, .int .i64 a1], .agg #[.int .i64 b0, .int .i64 b1], .agg #[.int .i64 c0, .int .i64 c1]] w
    fun e w' => e = .returned (.tuple #[.int .i64 (Sx.fi 10 0 [a0, a1, b0, b1, c0, c1]), .int .i64 (Sx.fi 10 1 [a0, a1, b0, b1, c0, c1])]) ∧ Gr w w' := Sx.flat_run (Sx.c_area w) rfl [a0, a1, b0, b1, c0, c1] rfl trivial
end Mt
end Go.Proofs.YtlfoglklibhbnaaGreat
/- The law's one: a triangle is laid. -/
set_option linter.unusedVariables false
set_option linter.unusedSimpArgs false
namespace Go.Proofs.YtlfoglklibhbnaaGreat
open Go.RowKit
namespace Mt
attribute [local go_sem ↓] Go.wp_at_zero Go.wp_at_succ
/-- A patch's points, moved to their place, lie in the rectangle, behind the rim. -/
theorem mv_bd {a : AT} (hg : AGood a) {i : Nat} (hi : i < a.qs.length) {k : Nat} (hk : k < 3 * (a.qs.getD i P0).uv.length) :
    (offX a i ≤ ptx (a.qs.getD i P0).uv k + offX a i ∧ ptx (a.qs.getD i P0).uv k + offX a i < 16 * ((a.rs.getD i []).getD 0 0 + (a.rs.getD i []).getD 2 0 - a.pad)) ∧ (offY a i ≤ pty (a.qs.getD i P0).uv k + offY a i ∧ pty (a.qs.getD i P0).uv k + offY a i < 16 * ((a.rs.getD i []).getD 1 0 + (a.rs.getD i []).getD 3 0 - a.pad)) ∧
    (0 ≤ (a.rs.getD i []).getD 0 0 ∧ (a.rs.getD i []).getD 0 0 + (a.rs.getD i []).getD 2 0 ≤ a.W) ∧ (0 ≤ (a.rs.getD i []).getD 1 0 ∧ (a.rs.getD i []).getD 1 0 + (a.rs.getD i []).getD 3 0 ≤ a.H) ∧ (1 ≤ a.pad ∧ a.pad ≤ 8) ∧ (a.W ≤ 256 ∧ a.H ≤ 256) := by
  have h1 := hg.num
  unfold numB at h1
  simp only [Bool.and_eq_true, decide_eq_true_eq] at h1
  have h2 := (hg.rects i (by rw [hg.len]; exact hi)).1
  unfold inB at h2
  have h3 := hg.size i hi
  have hp := hg.good _ (List.getElem_mem hi)
  rw [qs_at a hi] at hk ⊢
  have h4 := hp.small k hk
  have h5 := blx_lo (a.qs[i]).uv _ k hk
  have h6 := hp.w
  have h7 := hp.h
  unfold offX offY
  refine ⟨⟨by omega, by omega⟩, ⟨by omega, by omega⟩, ⟨by omega, by omega⟩, ⟨by omega, by omega⟩, by omega, by omega⟩
theorem mvd_at (p : PA) (x y : Int) {k : Nat} (hk : k < p.uv.length) : (mvd p x y).getD k [] = [ptx p.uv (3 * k) + x, pty p.uv (3 * k) + y, ptx p.uv (3 * k + 1) + x, pty p.uv (3 * k + 1) + y, ptx p.uv (3 * k + 2) + x, pty p.uv (3 * k + 2) + y] := tnd_at _ _ hk
/-- The example's mesh. -/
def M1 : MD := ⟨[[0, 0, 0], [15, 0, 0], [0, 15, 0]], [], [], [[0, -1, -1, 1, -1, -1, 2, -1, -1]]⟩
theorem M1_tame : tameB M1 = true := by decide +kernel
theorem M1_faces : faces M1 M1.F.length = [0] := by decide +kernel
theorem M1_fc : fcI 0 M1 (0 : Int) = 2 ∧ fcI 1 M1 (0 : Int) = 1 := by decide +kernel
theorem M1_sh : shN M1 0 2 = [0, 0, 15, 0, 0, 15] := by decide +kernel
theorem M1_cs {cs : List CH} (h : GrowOk M1 cs) : ∃ c, cs = [c] ∧ c.tris = [0] ∧ shs M1 c = [[0, 0, 15, 0, 0, 15]] := by
  obtain ⟨h1, h2⟩ := h
  rw [M1_faces] at h1
  have h3 := List.perm_singleton.1 h1
  match cs, h2, h3 with
  | [], _, h3 => simp at h3
  | [c], h2, h3 =>
    have h3' : c.tris = [0] := by simpa using h3
    refine ⟨c, rfl, h3', ?_⟩
    have h4 := (h2 c (by simp)).2.2.2 0 (by rw [h3']; simp)
    unfold lookB at h4
    simp only [Bool.and_eq_true, beq_iff_eq] at h4
    have e : c.ax = 2 := by rw [← h4.2.1]; exact M1_fc.1
    unfold shs
    rw [h3', e]
    exact congrArg (fun z => [z]) M1_sh
  | c :: c' :: l, h2, h3 =>
    exfalso
    have e1 := (h2 c (by simp)).1
    have e2 := (h2 c' (by simp)).1
    have hl := congrArg List.length h3
    simp only [List.flatMap_cons, List.length_append, List.length_singleton] at hl
    have := List.length_pos_iff.2 e1
    have := List.length_pos_iff.2 e2
    omega
theorem M1_lay {c : CH} (h : shs M1 c = [[0, 0, 15, 0, 0, 15]]) : layB M1 c 1 = true ∧ layHx (shs M1 c) 1 = 15 ∧ layHy (shs M1 c) 1 = 15 := by
  unfold layB
  rw [h]
  exact ⟨by decide +kernel, by decide +kernel, by decide +kernel⟩
theorem M1_lays : ∀ cs, GrowOk M1 cs → cs.length = 1 ∧ ∀ c ∈ cs, layB M1 c 1 = true ∧ layHx (shs M1 c) 1 / 16 + 1 + 2 * 1 ≤ 3 ∧ layHy (shs M1 c) 1 / 16 + 1 + 2 * 1 ≤ 3 := by
  intro cs h
  obtain ⟨c, rfl, _, h2⟩ := M1_cs h
  obtain ⟨h3, h4, h5⟩ := M1_lay h2
  refine ⟨rfl, fun c' hc => ?_⟩
  simp at hc
  subst hc
  rw [h4, h5]
  exact ⟨h3, by decide, by decide⟩
/-- Where the example's triangle stands. -/
theorem one_at {a : AT} {cs : List CH} (hW : a.W = 3 ∧ a.H = 3 ∧ a.pad = 1) (hg : AGood a) (hgo : GrowOk M1 cs) (hc : a.qs.map core = cs.map (coreL M1 1)) :
    a.qs.length = 1 ∧ (a.qs.getD 0 P0).tris = [0] ∧ ∃ z2 z3 z4 z5, (mvd (a.qs.getD 0 P0) (offX a 0) (offY a 0)).getD 0 [] = [16, 16, z2, z3, z4, z5] := by
  obtain ⟨c, rfl, ht, hs⟩ := M1_cs hgo
  have hl : a.qs.length = 1 := by have := congrArg List.length hc; simpa using this
  have h0 : 0 < a.qs.length := by omega
  have hq : core (a.qs.getD 0 P0) = coreL M1 1 c := by
    rw [qs_at a h0]
    have h1 : (a.qs.map core)[0]? = ([c].map (coreL M1 1))[0]? := by rw [hc]
    simpa [h0] using h1
  simp only [core, coreL, Prod.mk.injEq] at hq
  obtain ⟨q1, q2, q3, q4⟩ := hq
  obtain ⟨_, l2, l3⟩ := M1_lay hs
  rw [l2] at q3
  rw [l3] at q4
  rw [hs] at q2
  have hsz := hg.size 0 h0
  have hrc := (hg.rects 0 (by rw [hg.len]; exact h0)).1
  unfold inB at hrc
  rw [qs_at a h0] at q3 q4
  refine ⟨hl, by rw [q1, ht], ?_⟩
  have huv : (a.qs.getD 0 P0).uv.length = 1 := by rw [q2]; rfl
  rw [mvd_at _ _ _ (by omega)]
  have e0 : ptx (a.qs.getD 0 P0).uv (3 * 0) = 0 := by rw [q2]; decide +kernel
  have e1 : pty (a.qs.getD 0 P0).uv (3 * 0) = 0 := by rw [q2]; decide +kernel
  have ox : offX a 0 = 16 := by unfold offX; omega
  have oy : offY a 0 = 16 := by unfold offY; omega
  rw [e0, e1, ox, oy]
  exact ⟨_, _, _, _, rfl⟩
set_option maxHeartbeats 8000000 in
set_option maxRecDepth 100000 in
theorem one_any (w : World) : Calls Tryz.prog 6 #[] w fun e w' => e = .returned (.bool true) ∧ Gr w w' := by
  obtain ⟨V, hV⟩ : ∃ V, ((w.alloc (.cells #[.int .i64 0, .int .i64 0, .int .i64 0, .int .i64 15, .int .i64 0, .int .i64 0, .int .i64 0, .int .i64 15, .int .i64 0] 63)).alloc (.cells #[.int .i64 0, .int .i64 (-1), .int .i64 (-1), .int .i64 1, .int .i64 (-1), .int .i64 (-1), .int .i64 2, .int .i64 (-1), .int .i64 (-1)] 66)).alloc (.cells #[.slice (some ⟨w.heap.size, 0, none⟩) 3 3, .slice none 0 0, .slice none 0 0, .slice (some ⟨w.heap.size + 1, 0, none⟩) 1 1] 26) = V := ⟨_, rfl⟩
  have b0 : Bx V w.heap.size 63 [.int .i64 0, .int .i64 0, .int .i64 0, .int .i64 15, .int .i64 0, .int .i64 0, .int .i64 0, .int .i64 15, .int .i64 0] := by rw [← hV]; exact ((Bx.new (vs := [.int .i64 0, .int .i64 0, .int .i64 0, .int .i64 15, .int .i64 0, .int .i64 0, .int .i64 0, .int .i64 15, .int .i64 0]) rfl).alloc _).alloc _
  have b1 : Bx V (w.heap.size + 1) 66 [.int .i64 0, .int .i64 (-1), .int .i64 (-1), .int .i64 1, .int .i64 (-1), .int .i64 (-1), .int .i64 2, .int .i64 (-1), .int .i64 (-1)] := by rw [← hV]; exact (Bx.new (vs := [.int .i64 0, .int .i64 (-1), .int .i64 (-1), .int .i64 1, .int .i64 (-1), .int .i64 (-1), .int .i64 2, .int .i64 (-1), .int .i64 (-1)]) (by simp)).alloc _
  have b2 : Bx V (w.heap.size + 1 + 1) 26 [.slice (some ⟨w.heap.size, 0, none⟩) 3 3, .slice none 0 0, .slice none 0 0, .slice (some ⟨w.heap.size + 1, 0, none⟩) 1 1] := by rw [← hV]; exact Bx.new (vs := [.slice (some ⟨w.heap.size, 0, none⟩) 3 3, .slice none 0 0, .slice none 0 0, .slice (some ⟨w.heap.size + 1, 0, none⟩) 1 1]) (by simp)
  have hG : Gr w V := by rw [← hV]; exact (((Gr.refl w).alloc _).alloc _).alloc _
  have hM : IsM V ⟨⟨some ⟨w.heap.size, 0, none⟩, 3, 3⟩, ⟨none, 0, 0⟩, ⟨none, 0, 0⟩, ⟨some ⟨w.heap.size + 1, 0, none⟩, 1, 1⟩⟩ M1 := by
    refine ⟨⟨rfl, by show (3 : Nat) ≤ 9223372036854775807; decide, by unfold M1 I; decide, fun _ => ⟨_, 0, rfl, fun i j hi hj => ?_⟩⟩, Oi.IsRows.nil _ _ _, Oi.IsRows.nil _ _ _, ⟨rfl, by show (1 : Nat) ≤ 9223372036854775807; decide, by unfold M1 I; decide, fun _ => ⟨_, 0, rfl, fun i j hi hj => ?_⟩⟩⟩
    · rw [Nat.zero_add]
      exact b0.blk.cell _ (Ro.fl_get M1.V (by decide) i j hi hj)
    · rw [Nat.zero_add]
      exact b1.blk.cell _ (Ro.fl_get M1.F (by decide) i j hi hj)
  have hl := laid_any _ M1 3 3 1 1 V hM (by decide)
  have x0 := b2.blk.cell 0 rfl; have x1 := b2.blk.cell 1 rfl; have x2 := b2.blk.cell 2 rfl; have x3 := b2.blk.cell 3 rfl; have lX := b2.lt
  have HL := Lib.hid hl; have HG := Lib.hid hG
  clear b0 b1 b2 hM hl hG
  go_enter Tryz.func6, Tryz.ntmps6
  go_wp2_with fail
  refine HL.out.mono ?_
  rintro e w2 ⟨v, ok, rfl, hg2, _, hok, hone⟩
  have hok1 : ok = true := hone M1_tame (by decide +kernel) M1_lays
  subst hok1
  obtain ⟨A, cs, rfl, hW, hmem, hgood, _, hgo, _, hcore⟩ := hok rfl
  have hat := one_at hW hgood hgo hcore
  have hfd := fun w1 (g : Gr w2 w1) => find_good A 0 hgood w1 (hmem.later g)
  obtain ⟨AW, AH, Ap, Apa, Apc, Aqs, Ara, Arc, Ars⟩ := A
  simp only [AT.vs]
  have HAT := Lib.hid hat; have HFD := Lib.hid hfd; have HG2 := Lib.hid (HG.out.trans hg2)
  clear hone hok hW hmem hgood hgo hcore hat hfd HL HG hV x0 x1 x2 x3 lX hg2
  have bA : Bx (w2.alloc (.cells #[.int .i64 AW, .int .i64 AH, .int .i64 Ap, .slice Apa Aqs.length Apc, .slice Ara Ars.length Arc] 32)) w2.heap.size 32 [.int .i64 AW, .int .i64 AH, .int .i64 Ap, .slice Apa Aqs.length Apc, .slice Ara Ars.length Arc] := Bx.new (vs := [.int .i64 AW, .int .i64 AH, .int .i64 Ap, .slice Apa Aqs.length Apc, .slice Ara Ars.length Arc]) rfl
  have gA : Gr w2 (w2.alloc (.cells #[.int .i64 AW, .int .i64 AH, .int .i64 Ap, .slice Apa Aqs.length Apc, .slice Ara Ars.length Arc] 32)) := (Gr.refl w2).alloc _
  have y0 := bA.blk.cell 0 rfl; have y1 := bA.blk.cell 1 rfl; have y2 := bA.blk.cell 2 rfl; have y3 := bA.blk.cell 3 rfl; have y4 := bA.blk.cell 4 rfl; have ly := bA.lt
  have HGA := Lib.hid gA
  clear bA gA
  go_wp2_with fail
  refine (HFD.out _ HGA.out).mono ?_
  rintro e w3 ⟨hg3, hf⟩
  have HG3 := Lib.hid ((HG2.out.trans HGA.out).trans hg3)
  clear y0 y1 y2 y3 y4 ly hg3
  rcases hf with ⟨i, k, hi, hk, hkt, _, rfl⟩ | ⟨hno, _⟩
  · obtain ⟨h1, h2, z2, z3, z4, z5, h3⟩ := HAT.out
    have hi0 : i = 0 := by simp only at hi h1; omega
    subst hi0
    have hk0 : k = 0 := by rw [h2] at hk; simpa using hk
    subst hk0
    rw [h3, show agOf [16, 16, z2, z3, z4, z5] = .agg #[.int .i64 16, .int .i64 16, .int .i64 z2, .int .i64 z3, .int .i64 z4, .int .i64 z5] from rfl]
    clear hi hk hkt h1 h2 h3
    have bT : Bx (w3.alloc (.cells #[.int .i64 16, .int .i64 16, .int .i64 z2, .int .i64 z3, .int .i64 z4, .int .i64 z5] 39)) w3.heap.size 39 [.int .i64 16, .int .i64 16, .int .i64 z2, .int .i64 z3, .int .i64 z4, .int .i64 z5] := Bx.new (vs := [.int .i64 16, .int .i64 16, .int .i64 z2, .int .i64 z3, .int .i64 z4, .int .i64 z5]) rfl
    have t0 := bT.blk.cell 0 rfl; have t1 := bT.blk.cell 1 rfl; have lt := bT.lt
    clear bT
    go_wp2_with fail
    go_ret
    exact ⟨rfl, HG3.out.alloc _⟩
  · exfalso
    obtain ⟨h1, h2, _⟩ := HAT.out
    have := hno 0 (by rw [h1]; omega)
    rw [h2] at this
    simp at this
end Mt
end Go.Proofs.YtlfoglklibhbnaaGreat
/- TopOnce: the plain law. -/
set_option linter.unusedVariables false
set_option linter.unusedSimpArgs false
namespace Go.Proofs.YtlfoglklibhbnaaGreat
open Go.RowKit
namespace Mt
theorem sgn_bd (n : Int) : -1 ≤ Sx.sgn n ∧ Sx.sgn n ≤ 1 := by
  unfold Sx.sgn
  split
  · omega
  · split <;> omega
theorem sd_bd (d : MD) (i : Nat) (h : i < d.F.length) : -1 ≤ fcI 1 d (i : Int) ∧ fcI 1 d (i : Int) ≤ 1 := by
  rw [fcI_at h]
  have e1 : Sx.fi 14 1 (ptsN d i) = if (ptsN d i).all Sx.ss && !Sx.flat0 (ptsN d i) then Sx.faceS (ptsN d i) else 0 := rfl
  rw [e1]
  split
  · unfold Sx.faceS
    repeat' split
    all_goals first | exact sgn_bd _ | omega
  · omega
theorem fi_area {x0 x1 x2 x3 x4 x5 : Int} (h : ∀ x ∈ [x0, x1, x2, x3, x4, x5], -4096 ≤ x ∧ x ≤ 4096) : Sx.fi 10 0 [x0, x1, x2, x3, x4, x5] = Sx.areaV [x0, x1, x2, x3, x4, x5] ∧ Sx.fi 10 1 [x0, x1, x2, x3, x4, x5] = 0 := by
  have hu : [x0, x1, x2, x3, x4, x5].all Sx.us = true := List.all_eq_true.2 (fun x hx => by have := h x hx; unfold Sx.us; simp; omega)
  have e0 : Sx.fi 10 0 [x0, x1, x2, x3, x4, x5] = if [x0, x1, x2, x3, x4, x5].all Sx.us then Sx.areaV [x0, x1, x2, x3, x4, x5] else 0 := rfl
  have e1 : Sx.fi 10 1 [x0, x1, x2, x3, x4, x5] = if [x0, x1, x2, x3, x4, x5].all Sx.us then 0 else 5 := rfl
  rw [e0, e1, hu]
  exact ⟨rfl, rfl⟩
/-- Does a triangle stand in some patch? -/
theorem in_iff {d : MD} {cs : List CH} {dn : Int} {a : AT} (hgo : GrowOk d cs) (hc : a.qs.map core = cs.map (coreL d dn)) (i : Nat) : (∃ j, j < a.qs.length ∧ (i : Int) ∈ (a.qs.getD j P0).tris) ↔ (i < d.F.length ∧ fcI 2 d (i : Int) = 0) := by
  have h1 : (i : Int) ∈ ptris a.qs ↔ (i < d.F.length ∧ fcI 2 d (i : Int) = 0) := by
    rw [tris_of hc, hgo.1.mem_iff, faces_mem]
    constructor
    · rintro ⟨n, e, h1, h2⟩
      have : n = i := by omega
      subst this
      exact ⟨h1, by simpa using h2⟩
    · rintro ⟨h1, h2⟩
      exact ⟨i, rfl, h1, by simpa using h2⟩
  rw [← h1]
  unfold ptris
  rw [List.mem_flatMap]
  constructor
  · rintro ⟨j, hj, hm⟩
    rw [qs_at a hj] at hm
    exact ⟨_, List.getElem_mem hj, hm⟩
  · rintro ⟨p, hp, hm⟩
    obtain ⟨j, hj, e⟩ := List.mem_iff_getElem.1 hp
    exact ⟨j, hj, by rw [qs_at a hj, e]; exact hm⟩
/-- A triangle that stands: its shadow, and where it stands. -/
theorem once_at {d : MD} {cs : List CH} {dn : Int} {a : AT} (ht : tameB d = true) (hv : ∀ z ∈ d.V, z.length = 3) (hf : d.F.length ≤ 12) (hg : AGood a) (hgo : GrowOk d cs) (hlb : ∀ c ∈ cs, layB d c dn = true) (hc : a.qs.map core = cs.map (coreL d dn))
    {j k i : Nat} (hj : j < a.qs.length) (hk : k < (a.qs.getD j P0).tris.length) (hkt : (a.qs.getD j P0).tris.getD k 0 = (i : Int)) :
    ∃ ax : Nat, ax < 3 ∧ i < d.F.length ∧ fcI 0 d i = ax ∧ (1 ≤ dn ∧ dn ≤ 64) ∧ ∃ u0 v0 u1 v1 u2 v2 z0 z1 z2 z3 z4 z5 x, shN d i ax = [u0, v0, u1, v1, u2, v2] ∧ (mvd (a.qs.getD j P0) (offX a j) (offY a j)).getD k [] = [z0, z1, z2, z3, z4, z5] ∧
      Sx.fi 10 0 [u0, v0, u1, v1, u2, v2] = x ∧ Sx.fi 10 1 [u0, v0, u1, v1, u2, v2] = 0 ∧ Sx.fi 10 0 [z0, z1, z2, z3, z4, z5] = x * dn * dn ∧ Sx.fi 10 1 [z0, z1, z2, z3, z4, z5] = 0 ∧ (-2147483648 ≤ x ∧ x ≤ 2147483648) ∧ 0 < x * fcI 1 d i := by
  have hlen : a.qs.length = cs.length := by have := congrArg List.length hc; simpa using this
  have hjc : j < cs.length := by omega
  have hq : core (a.qs.getD j P0) = coreL d dn cs[j] := by
    rw [qs_at a hj]
    have h1 : (a.qs.map core)[j]? = (cs.map (coreL d dn))[j]? := by rw [hc]
    simpa [hj, hjc] using h1
  have hcm : cs[j] ∈ cs := List.getElem_mem hjc
  have hcg := cgood_of hgo hf _ hcm
  have hl := hlb _ hcm
  have hpg := hg.good _ (List.getElem_mem hj)
  have hmv := fun k hk => mv_bd hg hj (k := k) hk
  rw [← qs_at a hj] at hpg
  generalize cs[j] = c at *
  generalize a.qs.getD j P0 = p at *
  simp only [core, coreL, Prod.mk.injEq] at hq
  obtain ⟨q1, q2, _, _⟩ := hq
  have hkc : k < c.tris.length := by rw [← q1]; exact hk
  obtain ⟨n, en, hn, hlk⟩ := hcg.at hkc
  have hni : n = i := by rw [q1] at hkt; omega
  subst hni
  have hax0 := hcg.ax0; have hax3 := hcg.ax3
  have hk0 := hlk
  unfold lookB at hk0
  simp only [Bool.and_eq_true, beq_iff_eq] at hk0
  obtain ⟨_, e0, e1⟩ := hk0
  have hnat : ((c.ax.toNat : Nat) : Int) = c.ax := by omega
  have hdn : 1 ≤ dn ∧ dn ≤ 64 := by
    unfold layB at hl
    simp only [Bool.and_eq_true, decide_eq_true_eq] at hl
    exact hl.1
  have hfa := face_area (d := d) (n := n) (ax := c.ax.toNat) (sd := c.sd) (tame_mesh ht) hv hn (by rw [hnat]; exact hlk)
  obtain ⟨u0, v0, u1, v1, u2, v2, es⟩ := shN_six d n c.ax.toNat
  have hsm := sh_small ht hv hn (ax := c.ax.toNat) (by omega)
  have hkuv : k < p.uv.length := by rw [← hpg.len]; exact hk
  have hla := lay_area (shs d c) dn k (by rw [shs_len]; exact hkc) (by rw [shs_at d c hkc]; rfl)
  rw [← q2, shs_at d c hkc, en, Int.toNat_natCast, es] at hla
  have h6 : (p.uv.getD k []).length = 6 := by
    rw [q2]
    unfold layU
    rw [tnd_at _ _ (by rw [shs_len]; exact hkc)]
    rfl
  have hpt := six_pt p.uv k h6
  rw [hpt] at hla
  have hmz := mvd_at p (offX a j) (offY a j) hkuv
  have b0 := hmv (3 * k) (by omega); have b1 := hmv (3 * k + 1) (by omega); have b2 := hmv (3 * k + 2) (by omega)
  have hox : 0 ≤ offX a j ∧ 0 ≤ offY a j := by
    have := rect_bd hg hj
    unfold offX offY
    omega
  rw [es] at hfa hsm
  have s0 := hsm 0 (by omega); have s1 := hsm 1 (by omega); have s2 := hsm 2 (by omega); have s3 := hsm 3 (by omega); have s4 := hsm 4 (by omega); have s5 := hsm 5 (by omega)
  simp only [List.getD_cons_zero, List.getD_cons_succ] at s0 s1 s2 s3 s4 s5
  have fa := fi_area (x0 := u0) (x1 := v0) (x2 := u1) (x3 := v1) (x4 := u2) (x5 := v2) (fun x hx => by
    simp only [List.mem_cons, List.not_mem_nil, or_false] at hx
    rcases hx with rfl | rfl | rfl | rfl | rfl | rfl <;> omega)
  have hav : Sx.areaV [u0, v0, u1, v1, u2, v2] = Sx.cr2 (u1 - u0) (v1 - v0) (u2 - u0) (v2 - v0) := rfl
  have hcb := cr2_bd (a := u1 - u0) (b := v1 - v0) (c := u2 - u0) (d := v2 - v0) (by omega) (by omega) (by omega) (by omega)
  generalize ptx p.uv (3 * k) = X0 at *
  generalize pty p.uv (3 * k) = Y0 at *
  generalize ptx p.uv (3 * k + 1) = X1 at *
  generalize pty p.uv (3 * k + 1) = Y1 at *
  generalize ptx p.uv (3 * k + 2) = X2 at *
  generalize pty p.uv (3 * k + 2) = Y2 at *
  have hmo := area_mov X0 Y0 X1 Y1 X2 Y2 (offX a j) (offY a j)
  generalize offX a j = OX at *
  generalize offY a j = OY at *
  have fz := fi_area (x0 := X0 + OX) (x1 := Y0 + OY) (x2 := X1 + OX) (x3 := Y1 + OY) (x4 := X2 + OX) (x5 := Y2 + OY) (fun x hx => by
    simp only [List.mem_cons, List.not_mem_nil, or_false] at hx
    rcases hx with rfl | rfl | rfl | rfl | rfl | rfl <;> omega)
  refine ⟨c.ax.toNat, hfa.1, hn, by rw [e0, hnat], hdn, u0, v0, u1, v1, u2, v2, X0 + OX, Y0 + OY, X1 + OX, Y1 + OY, X2 + OX, Y2 + OY, Sx.areaV [u0, v0, u1, v1, u2, v2], es, hmz, fa.1, fa.2, ?_, fz.2, by rw [hav]; exact hcb, by rw [e1]; exact hfa.2⟩
  rw [fz.1, hmo, hla]
end Mt
end Go.Proofs.YtlfoglklibhbnaaGreat
/- TopOnce, walked. -/
set_option linter.unusedVariables false
set_option linter.unusedSimpArgs false
namespace Go.Proofs.YtlfoglklibhbnaaGreat
open Go.RowKit
namespace Mt
attribute [local go_sem ↓] Go.wp_at_zero Go.wp_at_succ
set_option maxHeartbeats 16000000 in
set_option maxRecDepth 100000 in
theorem walk_TopOnce (m : ML) (d : MD) (W H pad dn : Int) (w : World) (h : IsM w m d) :
    Calls Tryz.prog 3 #[m.val, .int .i64 W, .int .i64 H, .int .i64 pad, .int .i64 dn] w fun e w' => e = .returned (.bool true) ∧ Gr w w' := by
  have HV := Lib.hid (show ∀ z ∈ d.V, z.length = 3 from fun z hz => (h.v.2.2.1 z hz).1)
  have HLN := Lib.hid (show d.F.length = m.f.len from h.f.1)
  have HFEW := Lib.hid (fun w1 => few15_any m w1)
  have HLD := Lib.hid (fun (hl : d.F.length ≤ 12) (w1 : World) (g : Gr w w1) => laid_any m d W H pad dn w1 (h.later g) hl)
  have HFC := Lib.hid (fun (i : Nat) (w1 : World) (g : Gr w w1) => facing_any (i : Int) m d w1 (h.later g))
  have HSH := Lib.hid (fun (ht : tameB d = true) (i ax : Nat) (hax : ax < 3) (hi : i < d.F.length) (w1 : World) (g : Gr w w1) => shadow_of i ax hax m d w1 (h.later g) ht hi)
  obtain ⟨⟨av, lv, cv⟩, ⟨at', lt, ct⟩, ⟨an, ln, cn⟩, ⟨af, lf, cf⟩⟩ := m
  show Calls _ _ #[.agg #[.slice av lv cv, .slice at' lt ct, .slice an ln cn, .slice af lf cf], _, _, _, _] _ _
  unfold ML.val SL.v at HFEW HLD HFC HSH
  simp only at HLN HFEW
  clear h
  obtain ⟨V, hV⟩ : ∃ V, w.alloc (.cells #[.slice av lv cv, .slice at' lt ct, .slice an ln cn, .slice af lf cf] 26) = V := ⟨_, rfl⟩
  obtain ⟨s, hs⟩ : ∃ s, w.heap.size = s := ⟨_, rfl⟩
  have hX : Bx V s 26 [.slice av lv cv, .slice at' lt ct, .slice an ln cn, .slice af lf cf] := by rw [← hV]; exact Bx.new (vs := [.slice av lv cv, .slice at' lt ct, .slice an ln cn, .slice af lf cf]) hs.symm
  have hG : Gr w V := by rw [← hV]; exact (Gr.refl w).alloc _
  have x0 := hX.blk.cell 0 rfl; have x1 := hX.blk.cell 1 rfl; have x2 := hX.blk.cell 2 rfl; have x3 := hX.blk.cell 3 rfl; have lX := hX.lt
  have HX := Lib.hid hX; have HG := Lib.hid hG
  clear hX hG
  go_enter Tryz.func3, Tryz.ntmps3
  go_wp2_with fail
  clear hV hs
  refine (HFEW.out V).mono ?_
  rintro e w2 ⟨bb, rfl, hbb, hg2⟩
  have HX2 := Lib.hid (HX.out.gr hg2); have HG2 := Lib.hid (HG.out.trans hg2)
  clear x0 x1 x2 x3 lX HX HG hg2
  cases bb with
  | false =>
    clear hbb
    go_wp2_with fail
    refine (one_any w2).mono ?_
    rintro e w3 ⟨rfl, hg3⟩
    have HG3 := Lib.hid (HG2.out.trans hg3)
    clear hg3
    go_wp2_with fail
    go_ret
    exact ⟨rfl, HG3.out⟩
  | true =>
    have hl12 : lf ≤ 12 := hbb rfl
    have HL := Lib.hid (show d.F.length ≤ 12 by rw [HLN.out]; exact hl12)
    have HLD2 := Lib.hid (HLD.out HL.out w2 HG2.out)
    have x0 := HX2.out.blk.cell 0 rfl; have x1 := HX2.out.blk.cell 1 rfl; have x2 := HX2.out.blk.cell 2 rfl; have x3 := HX2.out.blk.cell 3 rfl; have lX := HX2.out.lt
    clear hbb HLD HFEW
    go_wp2_with fail
    clear x0 x1 x2 x3 lX
    refine HLD2.out.mono ?_
    rintro e w3 ⟨v, ok, rfl, hg3, hno, hok, _⟩
    have HX3 := Lib.hid (HX2.out.gr hg3); have HG3 := Lib.hid (HG2.out.trans hg3)
    clear hg3 HX2 HLD2
    cases ok with
    | false =>
      have hv := hno rfl
      subst hv
      clear hno hok
      go_wp2_with fail
      refine (one_any _).mono ?_
      rintro e w4 ⟨rfl, hg4⟩
      have HG4 := Lib.hid ((HG3.out.alloc _).trans hg4)
      clear hg4
      go_wp2_with fail
      go_ret
      exact ⟨rfl, HG4.out⟩
    | true =>
      obtain ⟨A, cs, rfl, hW, hmem, hgood, ht, hgo, hlb, hcore⟩ := hok rfl
      have HIN := Lib.hid (in_iff hgo hcore)
      have HAT := Lib.hid (fun (j k i : Nat) (hj : j < A.qs.length) (hk : k < (A.qs.getD j P0).tris.length) (hkt : (A.qs.getD j P0).tris.getD k 0 = (i : Int)) => once_at ht HV.out HL.out hgood hgo hlb hcore hj hk hkt)
      have HFD := Lib.hid (fun (i : Int) (w1 : World) (g : Gr w3 w1) => find_good A i hgood w1 (hmem.later g))
      have HPT := Lib.hid (fun (i : Int) (w1 : World) (g : Gr w3 w1) => patch_any A i hgood w1 (hmem.later g))
      have HT := Lib.hid ht
      unfold FndP at HFD
      unfold PatP at HPT
      obtain ⟨AW, AH, Ap, Apa, Apc, Aqs, Ara, Arc, Ars⟩ := A
      simp only [AT.vs] at HFD HPT HAT HIN ⊢
      generalize offX ⟨AW, AH, Ap, Apa, Apc, Aqs, Ara, Arc, Ars⟩ = OX at *
      generalize offY ⟨AW, AH, Ap, Apa, Apc, Aqs, Ara, Arc, Ars⟩ = OY at *
      clear hno hok hW hmem hgood ht hgo hlb hcore
      obtain ⟨V3, hV3⟩ : ∃ V3, w3.alloc (.cells #[.int .i64 AW, .int .i64 AH, .int .i64 Ap, .slice Apa Aqs.length Apc, .slice Ara Ars.length Arc] 32) = V3 := ⟨_, rfl⟩
      obtain ⟨s3, hs3⟩ : ∃ s3, w3.heap.size = s3 := ⟨_, rfl⟩
      have bA : Bx V3 s3 32 [.int .i64 AW, .int .i64 AH, .int .i64 Ap, .slice Apa Aqs.length Apc, .slice Ara Ars.length Arc] := by rw [← hV3]; exact Bx.new (vs := [.int .i64 AW, .int .i64 AH, .int .i64 Ap, .slice Apa Aqs.length Apc, .slice Ara Ars.length Arc]) hs3.symm
      have g3V : Gr w3 V3 := by rw [← hV3]; exact (Gr.refl _).alloc _
      have HA := Lib.hid bA; have HX4 := Lib.hid (HX3.out.gr g3V); have HG4 := Lib.hid (HG3.out.trans g3V); have H3V := Lib.hid g3V
      clear bA g3V HX3
      go_wp2_with fail
      clear hV3 hs3
      go_loopw [13] (fun v13 wr => ∃ i : Nat, i ≤ lf ∧ v13 = .int .i64 i ∧ Gr V3 wr) (fun v13 _ => lf - (intOf v13).toNat)
      case atStart => exact ⟨0, Nat.zero_le _, rfl, Gr.refl _⟩
      case round =>
        obtain ⟨i, hi, rfl, hgr⟩ := hrel
        have HGR := Lib.hid hgr
        have HX5 := Lib.hid (HX4.out.gr hgr); have HA5 := Lib.hid (HA.out.gr hgr)
        have x0 := HX5.out.blk.cell 0 rfl; have x1 := HX5.out.blk.cell 1 rfl; have x2 := HX5.out.blk.cell 2 rfl; have x3 := HX5.out.blk.cell 3 rfl; have lX := HX5.out.lt
        clear hgr
        by_cases hlt : i < lf
        · have hiF : i < d.F.length := by rw [HLN.out]; exact hlt
          have hfc := HFC.out i wr (HG4.out.trans HGR.out)
          have hin := HIN.out i
          have e2 : fcT 2 d (i : Int) = fcI 2 d i := if_pos HT.out
          rw [e2] at hfc
          have hi0 : (0 : Int) ≤ (i : Int) := by omega
          by_cases hhas : fcI 2 d (i : Int) = 0
          · -- it faces somewhere
            obtain ⟨j0, hj0, hm0⟩ := hin.2 ⟨hiF, hhas⟩
            have e0 : fcT 0 d (i : Int) = fcI 0 d i := if_pos HT.out
            have e1 : fcT 1 d (i : Int) = fcI 1 d i := if_pos HT.out
            rw [e0, e1, show (fcI 2 d (i : Int) == 0) = true by simpa using hhas] at hfc
            have hsb := sd_bd d i hiF
            have HFC2 := Lib.hid hfc
            have HJ0 := Lib.hid (And.intro hj0 hm0)
            have HIF := Lib.hid hiF
            clear hin e2 e0 e1 hhas hfc hj0 hm0 hiF
            obtain ⟨sd, hsd⟩ : ∃ sd, fcI 1 d (i : Int) = sd := ⟨_, rfl⟩
            obtain ⟨axi, haxi⟩ : ∃ axi, fcI 0 d (i : Int) = axi := ⟨_, rfl⟩
            rw [hsd] at hsb
            rw [hsd, haxi] at HFC2
            have HSD := Lib.hid hsd; have HAXI := Lib.hid haxi
            clear hsd haxi
            go_wp2_with fail
            refine HFC2.out.mono ?_
            rintro e w4 ⟨rfl, hg4⟩
            have HGX := Lib.hid (HGR.out.trans hg4)
            have HX6 := Lib.hid (HX5.out.gr hg4); have HA6 := Lib.hid (HA5.out.gr hg4)
            clear hg4 x0 x1 x2 x3 lX HX5 HA5 HFC2
            have y0 := HA6.out.blk.cell 0 rfl; have y1 := HA6.out.blk.cell 1 rfl; have y2 := HA6.out.blk.cell 2 rfl; have y3 := HA6.out.blk.cell 3 rfl; have y4 := HA6.out.blk.cell 4 rfl; have lA := HA6.out.lt
            go_wp2_with fail
            refine (HFD.out (i : Int) w4 (H3V.out.trans HGX.out)).mono ?_
            rintro e w5 ⟨hg5, hf⟩
            rcases hf with ⟨j, k, hj, hk, hkt, _, rfl⟩ | ⟨hno, _⟩
            · obtain ⟨ax, hax, _, hfax, hdn, u0, v0, u1, v1, u2, v2, z0, z1, z2, z3, z4, z5, x, es, ez, f1, f2, f3, f4, hxb, hxs⟩ := HAT.out j k i hj hk hkt
              have hax2 : axi = (ax : Int) := by rw [← HAXI.out]; exact hfax
              rw [HSD.out] at hxs
              subst hax2
              rw [ez, show agOf [z0, z1, z2, z3, z4, z5] = .agg #[.int .i64 z0, .int .i64 z1, .int .i64 z2, .int .i64 z3, .int .i64 z4, .int .i64 z5] from rfl]
              obtain ⟨V5, hV5⟩ : ∃ V5, w5.alloc (.cells #[.int .i64 z0, .int .i64 z1, .int .i64 z2, .int .i64 z3, .int .i64 z4, .int .i64 z5] 39) = V5 := ⟨_, rfl⟩
              obtain ⟨s5, hs5⟩ : ∃ s5, w5.heap.size = s5 := ⟨_, rfl⟩
              have bT : Bx V5 s5 39 [.int .i64 z0, .int .i64 z1, .int .i64 z2, .int .i64 z3, .int .i64 z4, .int .i64 z5] := by rw [← hV5]; exact Bx.new (vs := [.int .i64 z0, .int .i64 z1, .int .i64 z2, .int .i64 z3, .int .i64 z4, .int .i64 z5]) hs5.symm
              have g5V : Gr w5 V5 := by rw [← hV5]; exact (Gr.refl _).alloc _
              have HT5 := Lib.hid bT; have HG5 := Lib.hid ((HGX.out.trans hg5).trans g5V); have HX7 := Lib.hid (HX6.out.gr (hg5.trans g5V)); have HA7 := Lib.hid (HA6.out.gr (hg5.trans g5V))
              have HES := Lib.hid es; have HF1 := Lib.hid f1; have HF2 := Lib.hid f2; have HF3 := Lib.hid f3; have HF4 := Lib.hid f4; have HXS := Lib.hid hxs; have HAX := Lib.hid hax; have HHD := Lib.hid hdn; have HXB := Lib.hid hxb
              clear y0 y1 y2 y3 y4 lA HX6 HA6 hg5 bT g5V es ez f1 f2 f3 f4 hfax hj hk hkt hxs hax hdn hxb
              have y0 := HA7.out.blk.cell 0 rfl; have y1 := HA7.out.blk.cell 1 rfl; have y2 := HA7.out.blk.cell 2 rfl; have y3 := HA7.out.blk.cell 3 rfl; have y4 := HA7.out.blk.cell 4 rfl; have lA := HA7.out.lt
              go_wp2_with fail
              clear hV5 hs5
              refine (HPT.out (i : Int) V5 (H3V.out.trans HG5.out)).mono ?_
              rintro e w6 ⟨r, rfl, hg6, hr⟩
              have hr0 : 0 ≤ r := by
                rcases hr with ⟨h0, _⟩ | ⟨_, h0⟩
                · exact h0
                · exact absurd HJ0.out.2 (h0 _ HJ0.out.1)
              have d0 : decide (0 ≤ r) = true := by simpa using hr0
              have HG6 := Lib.hid (HG5.out.trans hg6); have HX8 := Lib.hid (HX7.out.gr hg6); have HT6 := Lib.hid (HT5.out.gr hg6)
              clear y0 y1 y2 y3 y4 lA HX7 HA7 hg6 hr HT5 HG5
              have x0 := HX8.out.blk.cell 0 rfl; have x1 := HX8.out.blk.cell 1 rfl; have x2 := HX8.out.blk.cell 2 rfl; have x3 := HX8.out.blk.cell 3 rfl; have lX := HX8.out.lt
              have HS2 := Lib.hid (HSH.out HT.out i ax HAX.out HIF.out w6 (HG4.out.trans HG6.out))
              go_wp2_with fail
              refine HS2.out.mono ?_
              rintro e w7 ⟨rfl, hg7⟩
              rw [HES.out, show agOf [u0, v0, u1, v1, u2, v2] = .agg #[.int .i64 u0, .int .i64 v0, .int .i64 u1, .int .i64 v1, .int .i64 u2, .int .i64 v2] from rfl]
              obtain ⟨V7, hV7⟩ : ∃ V7, w7.alloc (.cells #[.int .i64 u0, .int .i64 v0, .int .i64 u1, .int .i64 v1, .int .i64 u2, .int .i64 v2] 39) = V7 := ⟨_, rfl⟩
              obtain ⟨s7, hs7⟩ : ∃ s7, w7.heap.size = s7 := ⟨_, rfl⟩
              have bS : Bx V7 s7 39 [.int .i64 u0, .int .i64 v0, .int .i64 u1, .int .i64 v1, .int .i64 u2, .int .i64 v2] := by rw [← hV7]; exact Bx.new (vs := [.int .i64 u0, .int .i64 v0, .int .i64 u1, .int .i64 v1, .int .i64 u2, .int .i64 v2]) hs7.symm
              have g7V : Gr w7 V7 := by rw [← hV7]; exact (Gr.refl _).alloc _
              have HS7 := Lib.hid bS; have HT7 := Lib.hid (HT6.out.gr (hg7.trans g7V)); have HG7 := Lib.hid (HG6.out.trans (hg7.trans g7V))
              clear x0 x1 x2 x3 lX HX8 hg7 bS g7V HT6 HG6 HS2
              have q0 := HS7.out.blk.cell 0 rfl; have q1 := HS7.out.blk.cell 1 rfl; have q2 := HS7.out.blk.cell 2 rfl; have q3 := HS7.out.blk.cell 3 rfl; have q4 := HS7.out.blk.cell 4 rfl; have q5 := HS7.out.blk.cell 5 rfl; have lS := HS7.out.lt
              go_wp2_with fail
              clear hV7 hs7
              refine (area_raw u0 v0 u1 v1 u2 v2 V7).mono ?_
              rintro e w8 ⟨rfl, hg8⟩
              rw [HF1.out, HF2.out]
              have HT8 := Lib.hid (HT7.out.gr hg8); have HG8 := Lib.hid (HG7.out.trans hg8)
              clear q0 q1 q2 q3 q4 q5 lS hg8 HT7 HG7 HS7
              have q0 := HT8.out.blk.cell 0 rfl; have q1 := HT8.out.blk.cell 1 rfl; have q2 := HT8.out.blk.cell 2 rfl; have q3 := HT8.out.blk.cell 3 rfl; have q4 := HT8.out.blk.cell 4 rfl; have q5 := HT8.out.blk.cell 5 rfl; have lS := HT8.out.lt
              go_wp2_with fail
              refine (area_raw z0 z1 z2 z3 z4 z5 w8).mono ?_
              rintro e w9 ⟨rfl, hg9⟩
              rw [HF3.out, HF4.out]
              have HG9 := Lib.hid (HG8.out.trans hg9)
              clear q0 q1 q2 q3 q4 q5 lS hg9 HT8 HG8
              have k1 := mul_bd (M := 2147483648) (N := 64) 137438953472 (by decide) HXB.out (show -64 ≤ dn ∧ dn ≤ 64 by have := HHD.out; omega)
              have k2 := mul_bd (M := 137438953472) (N := 64) 8796093022208 (by decide) k1 (show -64 ≤ dn ∧ dn ≤ 64 by have := HHD.out; omega)
              have k3 := mul_bd (M := 2147483648) (N := 1) 2147483648 (by decide) HXB.out hsb
              have w1' : IntKind.i64.wrap (x * dn) = x * dn := IntWalk.i64_in _ ⟨by omega, by omega⟩
              have w2' : IntKind.i64.wrap (x * dn * dn) = x * dn * dn := IntWalk.i64_in _ ⟨by omega, by omega⟩
              have w3' : IntKind.i64.wrap (x * sd) = x * sd := IntWalk.i64_in _ ⟨by omega, by omega⟩
              have d1 : decide (x * sd ≤ 0) = false := by have := HXS.out; simp; omega
              clear k1 k2 k3
              go_wp2_with fail
              go_roundw
              case rel => exact ⟨i + 1, by omega, by go_num, HG9.out⟩
              case measure => simp [intOf]; omega
            · exfalso
              exact hno _ HJ0.out.1 HJ0.out.2
          · -- it is flat
            have hnj : ∀ j, j < Aqs.length → (i : Int) ∉ (Aqs.getD j P0).tris := fun j hj hm => hhas (hin.1 ⟨j, hj, hm⟩).2
            rw [show (fcI 2 d (i : Int) == 0) = false by simpa using hhas] at hfc
            have HFC2 := Lib.hid hfc; have HNJ := Lib.hid hnj
            clear hin e2 hhas hfc hnj hiF
            generalize fcT 0 d (i : Int) = q0' at *
            generalize fcT 1 d (i : Int) = q1' at *
            go_wp2_with fail
            refine HFC2.out.mono ?_
            rintro e w4 ⟨rfl, hg4⟩
            have HGX := Lib.hid (HGR.out.trans hg4)
            have HA6 := Lib.hid (HA5.out.gr hg4)
            clear hg4 x0 x1 x2 x3 lX HX5 HA5 HFC2
            have y0 := HA6.out.blk.cell 0 rfl; have y1 := HA6.out.blk.cell 1 rfl; have y2 := HA6.out.blk.cell 2 rfl; have y3 := HA6.out.blk.cell 3 rfl; have y4 := HA6.out.blk.cell 4 rfl; have lA := HA6.out.lt
            go_wp2_with fail
            refine (HFD.out (i : Int) w4 (H3V.out.trans HGX.out)).mono ?_
            rintro e w5 ⟨hg5, hf⟩
            rcases hf with ⟨j, k, hj, hk, hkt, _, rfl⟩ | ⟨_, rfl⟩
            · exfalso
              refine HNJ.out j hj ?_
              generalize Aqs.getD j P0 = pj at *
              rw [← hkt, List.getD_eq_getElem?_getD, List.getElem?_eq_getElem hk]
              exact List.getElem_mem _
            · rw [show agOf [0, 0, 0, 0, 0, 0] = .agg #[.int .i64 0, .int .i64 0, .int .i64 0, .int .i64 0, .int .i64 0, .int .i64 0] from rfl]
              have HG5 := Lib.hid ((HGX.out.trans hg5).alloc (.cells #[.int .i64 0, .int .i64 0, .int .i64 0, .int .i64 0, .int .i64 0, .int .i64 0] 39)); have HA7 := Lib.hid ((HA6.out.gr hg5).alloc (.cells #[.int .i64 0, .int .i64 0, .int .i64 0, .int .i64 0, .int .i64 0, .int .i64 0] 39))
              clear y0 y1 y2 y3 y4 lA HA6 hg5
              have y0 := HA7.out.blk.cell 0 rfl; have y1 := HA7.out.blk.cell 1 rfl; have y2 := HA7.out.blk.cell 2 rfl; have y3 := HA7.out.blk.cell 3 rfl; have y4 := HA7.out.blk.cell 4 rfl; have lA := HA7.out.lt
              go_wp2_with fail
              refine (HPT.out (i : Int) _ (H3V.out.trans HG5.out)).mono ?_
              rintro e w6 ⟨r, rfl, hg6, hr⟩
              have hr0 : r = -1 := by
                rcases hr with ⟨_, j, hj, hm⟩ | ⟨h0, _⟩
                · exact absurd hm (HNJ.out j hj)
                · exact h0
              subst hr0
              have HG6 := Lib.hid (HG5.out.trans hg6)
              clear y0 y1 y2 y3 y4 lA hr hg6
              go_wp2_with fail
              go_roundw
              case rel => exact ⟨i + 1, by omega, by go_num, HG6.out⟩
              case measure => simp [intOf]; omega
        · have hil : i = lf := by omega
          subst hil
          go_wp2_with fail
          refine (one_any _).mono ?_
          rintro e w4 ⟨rfl, hg4⟩
          have HG5 := Lib.hid ((HG4.out.trans HGR.out).trans hg4)
          clear hg4
          go_wp2_with fail
          go_ret
          exact ⟨rfl, HG5.out⟩
end Mt
end Go.Proofs.YtlfoglklibhbnaaGreat
/- TopOnce's walk as the frame asks for it. -/
set_option linter.unusedVariables false
namespace Go.Proofs.YtlfoglklibhbnaaGreat
open Go.RowKit
theorem walk_TopOnce (w : World) (m : Mt.ML) (d : Mt.MD) (h : Mt.IsM w m d) (a1 : Int) (_ : I a1) (a2 : Int) (_ : I a2) (a3 : Int) (_ : I a3) (a4 : Int) (_ : I a4) :
    Calls Tryz.prog 3 #[m.val, .int .i64 a1, .int .i64 a2, .int .i64 a3, .int .i64 a4] w fun e w' => e = .returned (.bool true) ∧ Gr w w' := Mt.walk_TopOnce m d a1 a2 a3 a4 w h
end Go.Proofs.YtlfoglklibhbnaaGreat
/- A mesh that came in, opened; the law's walk as the frame asks for it. -/
set_option linter.unusedVariables false
namespace Go.Proofs.YtlfoglklibhbnaaGreat.Oi
open Go.ChangeShapes Go.WideShapes Go.ChangeAt Go.RowKit
theorem list4 {α : Type} {cs : List α} (h : cs.length = 4) : ∃ a b c d, cs = [a, b, c, d] := by
  match cs, h with
  | [a, b, c, d], _ => exact ⟨a, b, c, d, rfl⟩
theorem m_v3 : IntT Tryz.prog 1 63 3 := ⟨by kernel_rfl, .inr (.inl ⟨_, Tryz.underlying63, ⟨1, rfl, ⟨Tryz.underlying3, by kernel_rfl, rfl⟩, 1, rfl, ⟨Tryz.underlying3, by kernel_rfl, rfl⟩, 1, rfl, ⟨Tryz.underlying3, by kernel_rfl, rfl⟩, rfl⟩⟩)⟩
theorem m_v2 : IntT Tryz.prog 1 38 2 := ⟨by kernel_rfl, .inr (.inl ⟨_, Tryz.underlying38, ⟨1, rfl, ⟨Tryz.underlying3, by kernel_rfl, rfl⟩, 1, rfl, ⟨Tryz.underlying3, by kernel_rfl, rfl⟩, rfl⟩⟩)⟩
theorem m_c : IntT Tryz.prog 1 65 3 := ⟨by kernel_rfl, .inr (.inl ⟨_, Tryz.underlying65, ⟨1, rfl, ⟨Tryz.underlying3, by kernel_rfl, rfl⟩, 1, rfl, ⟨Tryz.underlying3, by kernel_rfl, rfl⟩, 1, rfl, ⟨Tryz.underlying3, by kernel_rfl, rfl⟩, rfl⟩⟩)⟩
theorem m_t : IntT Tryz.prog 2 66 9 := ⟨by kernel_rfl, .inr (.inr ⟨3, 65, 3, Tryz.underlying66, m_c, rfl⟩)⟩
section
variable {H : Type} {enc : TypeId × Value → H} {w : World} {base : Nat} {spare : Nat → Bool} {held : Bool}
theorem open_sl {d m f : Nat} {t e : TypeId} {c : Value} {x : DataW H × List MemPlace} (ht : Tryz.prog.underlying t = some (.slice e)) (hT : IntT Tryz.prog d e m) (hm : 0 < m) (h : DataW.trod enc Tryz.prog w base spare held f t [c] = some x) : ∃ (s : Mt.SL) (zs : List (List Int)), c = s.v ∧ IsRows m w s.a s.len zs := by
  rcases open_rows ht hT hm h with hcs | ⟨a, len, cap, zs, hcs, hrow⟩
  · injection hcs with hcs _
    exact ⟨⟨none, 0, 0⟩, [], hcs, IsRows.nil _ _ _⟩
  · injection hcs with hcs _
    exact ⟨⟨some a, len, cap⟩, zs, hcs, hrow⟩
theorem open_mesh {v : Value} {x : DataW H} {p : List MemPlace} (h : DataW.Trod enc Tryz.prog w base spare held 26 v x p) : ∃ (m : Mt.ML) (d : Mt.MD), v = m.val ∧ Mt.IsM w m d := by
  obtain ⟨fuel, hf⟩ := h
  have hc : Tryz.prog.cellsOf 26 = 4 := by kernel_rfl
  have hc1 : Tryz.prog.cellsOf 22 = 1 := by kernel_rfl
  have hc2 : Tryz.prog.cellsOf 23 = 1 := by kernel_rfl
  have hc3 : Tryz.prog.cellsOf 24 = 1 := by kernel_rfl
  obtain ⟨cs, hcs⟩ : ∃ cs, v.cells.toList = cs := ⟨_, rfl⟩
  rw [hcs] at hf
  obtain ⟨xs, f', _, _, hl, hlen, hel⟩ := DataW.trod_struct Tryz.underlying26 hf
  have hl4 : cs.length = 4 := by omega
  obtain ⟨c0, c1, c2, c3, rfl⟩ := list4 hl4
  have hx4 : xs.length = 4 := hlen
  have h0 : DataW.trod enc Tryz.prog w base spare held f' 22 (([c0, c1, c2, c3].drop 0).take (Tryz.prog.cellsOf 22)) = xs[0]? := by have := hel 0 _ rfl; exact this
  have h1 : DataW.trod enc Tryz.prog w base spare held f' 23 (([c0, c1, c2, c3].drop 1).take (Tryz.prog.cellsOf 23)) = xs[1]? := by have := hel 1 _ rfl; exact this
  have h2 : DataW.trod enc Tryz.prog w base spare held f' 22 (([c0, c1, c2, c3].drop 2).take (Tryz.prog.cellsOf 22)) = xs[2]? := by have := hel 2 _ rfl; exact this
  have h3 : DataW.trod enc Tryz.prog w base spare held f' 24 (([c0, c1, c2, c3].drop 3).take (Tryz.prog.cellsOf 24)) = xs[3]? := by have := hel 3 _ rfl; exact this
  rw [List.getElem?_eq_getElem (by omega)] at h0 h1 h2 h3
  simp only [hc1, hc2, hc3, List.drop_zero, List.drop_succ_cons, List.take_succ_cons, List.take_zero] at h0 h1 h2 h3
  obtain ⟨s0, z0, rfl, r0⟩ := open_sl Tryz.underlying22 m_v3 (by omega) h0
  obtain ⟨s1, z1, rfl, r1⟩ := open_sl Tryz.underlying23 m_v2 (by omega) h1
  obtain ⟨s2, z2, rfl, r2⟩ := open_sl Tryz.underlying22 m_v3 (by omega) h2
  obtain ⟨s3, z3, rfl, r3⟩ := open_sl Tryz.underlying24 m_t (by omega) h3
  refine ⟨⟨s0, s1, s2, s3⟩, ⟨z0, z1, z2, z3⟩, ?_, ⟨r0, r1, r2, r3⟩⟩
  cases v
  case agg cs =>
    have e : cs = #[s0.v, s1.v, s2.v, s3.v] := Array.ext' (by simpa [Value.cells] using hcs)
    rw [e]
    rfl
  all_goals (simp [Value.cells] at hcs)
end
end Go.Proofs.YtlfoglklibhbnaaGreat.Oi
