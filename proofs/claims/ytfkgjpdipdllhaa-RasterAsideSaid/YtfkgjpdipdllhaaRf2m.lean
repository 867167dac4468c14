/- Chapter 19: raster.Owners, walked. -/
import Derived.Test.YtfkgjpdipdllhaaOw2m
set_option linter.unusedVariables false
set_option linter.unusedSimpArgs false
namespace Go.Proofs.Ytfkgjpdipdllhaa
open Go.RowKit Go.Shelf
attribute [local go_sem] Oper.semAt_some
namespace Mt
open Ro
theorem row_bx {w : World} {b : Nat} {T : TypeId} {l : List Int} (h : Bx w b T (l.map (Value.int .i64))) (hl : l.length ≤ 9223372036854775807) (hI : ∀ n ∈ l, (Lit.int .i64 n).wf = true) : IsRow .i64 w (some ⟨b, 0, none⟩) l.length l := by
  refine ⟨rfl, hl, hI, fun _ => ⟨b, 0, rfl, fun i hi => ?_⟩⟩
  rw [Nat.zero_add]
  refine h.blk.cell i ?_
  rw [List.getElem?_map, List.getElem?_eq_getElem hi]
  simp [List.getD, List.getElem?_eq_getElem hi]
set_option maxHeartbeats 8000000 in
set_option maxRecDepth 100000 in
theorem owners_any (W H : Int) (a : Option Addr) (len cap : Nat) (zs : List (List Int)) (w : World) (hr : Oi.IsRows 6 w a len zs) (hl : len ≤ 1000) :
    Calls Try.prog 9 #[.int .i64 W, .int .i64 H, .slice a len cap] w fun e w' => ∃ a' cap', e = .returned (.tuple #[.slice a' (owL W H zs).length cap', .int .i64 (owE W H zs)]) ∧ IsRow .i64 w' a' (owL W H zs).length (owL W H zs) ∧ Gr w w' := by
  refine (callsIn_wide (n := 9)).1 ?_
  refine callsIn_of_wp_marks Try.func9 rfl trivial ?_ rfl
  simp only [Try.ntmps9, List.size_toArray, List.length_cons, List.length_nil, Nat.reduceAdd, Nat.reduceSub, Array.replicate_succ, Array.replicate_zero, List.push_toArray, List.append_toArray, List.nil_append, List.cons_append]
  have hmf : ∀ (fn : Fn) (first cap : Array Value) (w : World), (Instr.makeFunc fn first cap).run Try.prog w = .ok (.func fn first cap) w := fun _ _ _ _ => rfl
  have m1 : (if H < W then H else W) = min W H := by split <;> omega
  have m2 : (if W < H then H else W) = max W H := by split <;> omega
  have hB1 : Bx ((w.alloc (.cells #[.int .i64 W] 3)).alloc (.cells #[.int .i64 H] 3)) w.heap.size 3 [.int .i64 W] := (Bx.new (vs := [.int .i64 W]) rfl).alloc _
  have hB2 : Bx ((w.alloc (.cells #[.int .i64 W] 3)).alloc (.cells #[.int .i64 H] 3)) (w.heap.size + 1) 3 [.int .i64 H] := Bx.new (vs := [.int .i64 H]) (by simp)
  have HB1 := Lib.hid hB1; have HB2 := Lib.hid hB2; have HR := Lib.hid hr
  clear hB1 hB2 hr
  by_cases hs1 : min W H < 1
  · have d1 : decide (min W H < 1) = true := by simp; omega
    have hsz : sizB W H = false := by unfold sizB; simp; omega
    have EE := Lib.hid (owE_siz (zs := zs) hsz)
    gi_wp2
    first
      | exact ⟨.tuple #[.slice none 0 0, .int .i64 1], by simp [results, Try.results9, go_sem], none, 0, by rw [EE.out.1, EE.out.2]; rfl, by rw [EE.out.2]; exact IsRow.nil _ _ _, ((Gr.refl w).alloc _).alloc _⟩
      | exact ⟨.tuple #[.slice none 0 0, .int .i64 1], by simp [results, Try.results9, go_sem], none, ⟨0, by rw [EE.out.1, EE.out.2]; rfl⟩, by rw [EE.out.2]; exact IsRow.nil _ _ _, ((Gr.refl w).alloc _).alloc _⟩
  · have d1 : decide (min W H < 1) = false := by simp; omega
    by_cases hs2 : 256 < max W H
    · have d2 : decide (256 < max W H) = true := by simp; omega
      have hsz : sizB W H = false := by unfold sizB; simp; omega
      have EE := Lib.hid (owE_siz (zs := zs) hsz)
      gi_wp2
      first
        | exact ⟨.tuple #[.slice none 0 0, .int .i64 1], by simp [results, Try.results9, go_sem], none, 0, by rw [EE.out.1, EE.out.2]; rfl, by rw [EE.out.2]; exact IsRow.nil _ _ _, ((Gr.refl w).alloc _).alloc _⟩
        | exact ⟨.tuple #[.slice none 0 0, .int .i64 1], by simp [results, Try.results9, go_sem], none, ⟨0, by rw [EE.out.1, EE.out.2]; rfl⟩, by rw [EE.out.2]; exact IsRow.nil _ _ _, ((Gr.refl w).alloc _).alloc _⟩
    · have d2 : decide (256 < max W H) = false := by simp; omega
      have hsz : sizB W H = true := by unfold sizB; simp; omega
      have hWb : 0 ≤ W ∧ W ≤ 256 := by omega
      have hHb : 0 ≤ H ∧ H ≤ 256 := by omega
      have hW1 : 1 ≤ W ∧ 1 ≤ H := by omega
      gi_wp2
      clear m1 m2 d1 d2 hs1 hs2
      obtain ⟨V, hV⟩ : ∃ V, (w.alloc (.cells #[.int .i64 W] 3)).alloc (.cells #[.int .i64 H] 3) = V := ⟨_, rfl⟩
      have gV : Gr w V := by rw [← hV]; exact ((Gr.refl w).alloc _).alloc _
      have sV : V.heap.size = w.heap.size + 2 := by rw [← hV]; simp
      rw [hV] at HB1 HB2 ⊢
      have GV := Lib.hid gV
      clear hV gV
      gi_loopw [31] (fun v31 wr => ∃ k : Nat, k ≤ len ∧ v31 = .int .i64 k ∧ (∀ j, j < k → badT W H (zs.getD j []) = false) ∧ Gr V wr) (fun v31 _ => len - (intOf v31).toNat)
      case atStart => exact ⟨0, Nat.zero_le _, rfl, fun j h => absurd h (by omega), Gr.refl _⟩
      case round =>
        obtain ⟨k, hk, rfl, hall, hg⟩ := hrel
        have HG := Lib.hid hg; have HA := Lib.hid hall
        clear hg hall
        by_cases hlt : k < len
        · obtain ⟨b, off, t0, t1, t2, t3, t4, t5, rfl, hbl, ez, c0, c1, c2, c3, c4, c5⟩ := rows6_at (HR.out.later (GV.out.trans HG.out)) hlt
          have hI6 := (Ro.rows_at HR.out hlt).2.1
          rw [ez] at hI6
          have EZ := Lib.hid ez; have HI6 := Lib.hid hI6
          have hk1 : (0 : Int) ≤ (k : Int) := by omega
          have sx := HG.out.size
          clear ez hI6
          gi_wp2
          have hBT : Blk (wr.alloc (.cells #[.int .i64 t0, .int .i64 t1, .int .i64 t2, .int .i64 t3, .int .i64 t4, .int .i64 t5] 36)) wr.heap.size [.int .i64 t0, .int .i64 t1, .int .i64 t2, .int .i64 t3, .int .i64 t4, .int .i64 t5] := Blk.new rfl
          refine ⟨trivial, ?_⟩
          refine (callsIn_wide.2 (contains_any W H hWb hHb w.heap.size (w.heap.size + 1) _ ((HB1.out.gr HG.out).alloc _) ((HB2.out.gr HG.out).alloc _) _ 3 3 _ (rows3_blk hBT HI6.out) (by omega))).mono ?_
          rintro e w1 ⟨rfl, hg1⟩
          rw [any3]
          have HG1 := Lib.hid ((HG.out.alloc (.cells #[.int .i64 t0, .int .i64 t1, .int .i64 t2, .int .i64 t3, .int .i64 t4, .int .i64 t5] 36)).trans hg1)
          have HBT := Lib.hid (hBT.gr hg1)
          have hbad : badT W H (zs.getD k []) = ((oddB W H t0 t1 || (oddB W H t2 t3 || oddB W H t4 t5)) || !Sx.rgt [t0, t1, t2, t3, t4, t5]) := by rw [EZ.out]; rfl
          generalize (oddB W H t0 t1 || (oddB W H t2 t3 || oddB W H t4 t5)) = od at *
          have HBAD := Lib.hid hbad
          clear c0 c1 c2 c3 c4 c5 hg1 hBT hbad
          cases od
          · have hBT := HBT.out
            have d0 := hBT.cell 0 rfl; have d1 := hBT.cell 1 rfl; have d2 := hBT.cell 2 rfl; have d3 := hBT.cell 3 rfl; have d4 := hBT.cell 4 rfl; have d5 := hBT.cell 5 rfl
            have hlt1 := hBT.1
            clear hBT
            gi_wp2
            refine ⟨trivial, ?_⟩
            refine (callsIn_wide.2 (right_any t0 t1 t2 t3 t4 t5 _)).mono ?_
            rintro e w2 ⟨rfl, hg2⟩
            have HG2 := Lib.hid (HG1.out.trans hg2)
            clear d0 d1 d2 d3 d4 d5 hlt1 hg2
            cases hrg : Sx.rgt [t0, t1, t2, t3, t4, t5]
            · have EE := Lib.hid (owE_bad (W := W) (H := H) (zs := zs) (k := k) (by rw [HR.out.1]; exact hlt) (by rw [HBAD.out, hrg]; rfl))
              gi_wp2
              first
                | exact ⟨.tuple #[.slice none 0 0, .int .i64 1], by simp [results, Try.results9, go_sem], none, 0, by rw [EE.out.1, EE.out.2]; rfl, by rw [EE.out.2]; exact IsRow.nil _ _ _, GV.out.trans HG2.out⟩
                | exact ⟨.tuple #[.slice none 0 0, .int .i64 1], by simp [results, Try.results9, go_sem], none, ⟨0, by rw [EE.out.1, EE.out.2]; rfl⟩, by rw [EE.out.2]; exact IsRow.nil _ _ _, GV.out.trans HG2.out⟩
            · have hok : badT W H (zs.getD k []) = false := by rw [HBAD.out, hrg]; rfl
              have HOK := Lib.hid hok
              clear hok
              gi_wp2
              go_roundw
              case rel =>
                refine ⟨k + 1, by omega, by go_num, fun j hj => ?_, HG2.out⟩
                by_cases e : j = k
                · rw [e]; exact HOK.out
                · exact HA.out j (by omega)
              case measure => simp [intOf]; omega
          · have EE := Lib.hid (owE_bad (W := W) (H := H) (zs := zs) (k := k) (by rw [HR.out.1]; exact hlt) (by rw [HBAD.out]; rfl))
            gi_wp2
            refine ⟨trivial, ?_⟩
            gi_wp2
            first
              | exact ⟨.tuple #[.slice none 0 0, .int .i64 1], by simp [results, Try.results9, go_sem], none, 0, by rw [EE.out.1, EE.out.2]; rfl, by rw [EE.out.2]; exact IsRow.nil _ _ _, GV.out.trans HG1.out⟩
              | exact ⟨.tuple #[.slice none 0 0, .int .i64 1], by simp [results, Try.results9, go_sem], none, ⟨0, by rw [EE.out.1, EE.out.2]; rfl⟩, by rw [EE.out.2]; exact IsRow.nil _ _ _, GV.out.trans HG1.out⟩
        · have hkl : k = len := by omega
          subst hkl
          have EE := Lib.hid (owE_ok (zs := zs) hsz (fun j hj => HA.out j (by rw [HR.out.1] at hj; exact hj)))
          have g1 := HB1.out.gr HG.out
          have g2 := HB2.out.gr HG.out
          have c1 := g1.blk.cell 0 rfl; have c2 := g2.blk.cell 0 rfl
          have l1 := g1.lt; have l2 := g2.lt
          have u1 : IntKind.i64.wrap (W * H) = W * H := IntWalk.i64_in _ (by have := Int.mul_le_mul hWb.2 hHb.2 hHb.1 (by omega); have := Int.mul_nonneg hWb.1 hHb.1; omega)
          clear g1 g2
          gi_wp2
          have hMM : W * H = (((W * H).toNat : Nat) : Int) := by have := Int.mul_nonneg hWb.1 hHb.1; omega
          have hM1 : 1 ≤ (W * H).toNat ∧ (W * H).toNat ≤ 65536 := by
            have := Int.mul_le_mul hWb.2 hHb.2 hHb.1 (by omega)
            have : 1 * 1 ≤ W * H := Int.mul_le_mul hW1.1 hW1.2 (by omega) (by omega)
            omega
          have HMM := Lib.hid hMM
          rw [hMM]
          clear hMM u1
          generalize (W * H).toNat = M at *
          refine ⟨trivial, ?_⟩
          refine (callsIn_wide.2 (repeat_any (-1) M hM1.1 hM1.2 wr.heap.size _ (Bx.new (vs := [.int .i64 (-1)]) rfl))).mono ?_
          rintro e w2 ⟨g, rfl, hout, hg0, hg2⟩
          have HG2 := Lib.hid ((HG.out.alloc (.cells #[.int .i64 (-1)] 3)).trans hg2)
          have HOUT := Lib.hid hout
          clear c1 c2 l1 l2 hg2 hout
          gi_wp2
          obtain ⟨wn, eW⟩ : ∃ wn : Nat, W = wn := ⟨W.toNat, by omega⟩
          obtain ⟨hn, eH⟩ : ∃ hn : Nat, H = hn := ⟨H.toNat, by omega⟩
          have eM : M = wn * hn := by
            have h1 := HMM.out
            rw [eW, eH, ← Int.natCast_mul] at h1
            omega
          subst eM
          have hg2 : w.heap.size ≤ w2.heap.size := by have := (GV.out.trans HG2.out).size; exact this
          have hwr2 : w.heap.size ≤ wr.heap.size := by have := (GV.out.trans HG.out).size; exact this
          have hgl := HOUT.out.lt
          have hgw : wr.heap.size + 1 ≤ g := by simpa using hg0
          have hwrs : w.heap.size + 2 ≤ wr.heap.size := by have := HG.out.size; omega
          have hok : ∀ j, j < k → badT W H (zs.getD j []) = false := fun j hj => HA.out j hj
          have hzl := HR.out.1
          refine wpIn_loop (OwI w W wn hn g w.heap.size w2.heap.size a k cap zs) (fun A _ => k - (intOf (A.tmps.getD 51 undef)).toNat) ?h0 ?round
          case h0 =>
            refine ⟨[], 0, 0, _, _, _, _, _, _, _, _, _, _, _, _, _, _, _, _, _, _, _, _, _, _, _, _, _, _, _, _, _, _, _, _, _, _, _, _, _, _, _, _, _, _, _, _, _, _, _, _, _, _, _, _, _, _, _, _, _, _, _, _, _, _, _, _, _, _, _, _, _, _, _, _, _, _, _, _, _, _, _, _, _, _, rfl, rfl, rfl, Nat.zero_le _, ((HB1.out.gr HG2.out).alloc _), Bx.new (vs := [.slice (some ⟨g, 0, none⟩) (wn * hn) (wn * hn)]) rfl, ?_, (GV.out.trans HG2.out).alloc _, trivial⟩
            have e0 : (outL zs wn hn 0).map (Value.int .i64) = List.replicate (wn * hn) (.int .i64 (-1)) := by
              unfold outL owN
              simp [List.map_const']
            rw [e0]
            exact HOUT.out.alloc _
          case round =>
            intro A wq hI
            refine loop2_round w W H wn hn g w.heap.size w2.heap.size eW eH (by omega) (by omega) a k cap zs HR.out hl hok (by omega) (Nat.le_refl _) hg2 (by omega) (by omega) _ _ rfl _ (by rintro ⟨_, _, h⟩; obtain ⟨_, _, h, _⟩ := h; cases h) ?_ A wq hI
            clear hI A wq
            rintro A wq ⟨ds, i, x51, u0, u1, u2, u4, u5, u6, u7, u8, u9, u10, u12, u13, u14, u15, u16, u17, u18, u19, u20, u21, u22, u23, u24, u25, u26, u27, u28, u29, u30, u31, u32, u33, u34, u35, u36, u37, u38, u39, u40, u41, u42, u43, u44, u45, u46, u47, u48, u52, u53, u54, u55, u56, u57, u58, u59, u60, u61, u62, u63, u64, u65, u66, u67, u68, u69, u70, u71, u72, u73, u74, u75, u76, u77, u78, u79, u80, u81, u82, u83, u84, u85, u86, eA1, eA2, rfl, hi, h3, h11, hgx, hgr, hmk⟩ he
            obtain rfl := act_eq eA1 eA2
            clear eA1 eA2
            simp only [List.cons_append, List.nil_append] at he ⊢
            have hik : i = k := by
              have := he (i : Int) (by simp)
              omega
            subst hik
            have c11 := h11.blk.cell 0 rfl
            have l11 := h11.lt
            have HX := Lib.hid hgx; have HGR := Lib.hid hgr; have HMK := Lib.hid hmk
            clear he h3 h11 hgx hgr hmk
            simp only [Exit.inBlock, Exit.then, if_true]
            gi_wp2
            refine leaves_marks (v := .tuple #[.slice (some ⟨g, 0, none⟩) (wn * hn) (wn * hn), .int .i64 0]) (B := w.heap.size) (S := fun r => w.heap.size ≤ r ∧ wq.heap[r]? = some (.deferred (some []))) (fun w' => by simp [results, Try.results9, go_sem]) ds wq HMK.out (fun r h1 h2 => ⟨h1, h2⟩) (fun w' hk => ?_)
            have hbx : Bx w' g 3 ((outL zs wn hn i).map (Value.int .i64)) := HX.out.ks hk (fun h => not_def HX.out h.2)
            have eL : owL W H zs = outL zs wn hn i := by
              rw [EE.out.2, hzl, eW, eH]; simp
            refine ⟨some ⟨g, 0, none⟩, wn * hn, ?_, ?_, ?_⟩
            · rw [EE.out.1, eL, outL_len]
            · rw [eL]
              exact row_bx hbx (by rw [outL_len]; have := hM1.2; omega) (fun n hn => by
                unfold outL at hn
                rw [List.mem_map] at hn
                obtain ⟨j, _, rfl⟩ := hn
                have := owN_bd zs (j % wn : Nat) (j / wn : Nat) i
                exact wf_of_I ⟨by omega, by omega⟩)
            · exact hk.gr HGR.out (fun r hr h => by have := h.1; omega)
end Mt
end Go.Proofs.Ytfkgjpdipdllhaa
