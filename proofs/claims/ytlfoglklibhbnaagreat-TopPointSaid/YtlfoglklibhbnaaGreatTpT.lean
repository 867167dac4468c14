/- Parts of the proof of TopPoint. No condition of their own. -/
import Derived.Test.YtlfoglklibhbnaaGreatTpS
import Derived.Maps.GroupsBeside
import Derived.Maps.AppendAt
import Derived.DeepKeys4
import Derived.Maps.Keyed
import Derived.Deep.RegionHeld3
import Derived.Deep.AppendLies
set_option linter.unusedVariables false
set_option linter.unusedSimpArgs false
namespace Go.Proofs.YtlfoglklibhbnaaGreat
open Go.RowKit Go.Maps
namespace Mt
theorem laidOut : laidOutB Tryz.prog = true := by kernel_rfl
theorem rowPair : 200 < Tryz.prog.types.size := of_decide_eq_true (by kernel_rfl)
theorem widePair : (match Tryz.prog.underlying 200 with | some (.array _ _) | some (.struct _) => true | _ => false) = true := by rw [Tryz.underlying200]
theorem deepPair : Tryz.prog.keyTypeAt 2 200 = true := by kernel_rfl
theorem two_le : 2 + 1 ≤ 10000 := by decide
set_option maxRecDepth 100000 in
theorem pair_law : WideMaps.KeyLaw Tryz.prog 200 := deep_law_laid laidOut (m := 2) two_le rowPair deepPair widePair
theorem pair_keyed : Keyed Tryz.prog 200 := Keyed.of_law pair_law
theorem key_lits (d : Nat) (x y : Int) (hx : I x) (hy : I y) : Tryz.prog.keyLits (d + 2) 200 [.int .i64 x, .int .i64 y] = some [.int .i64 x, .int .i64 y] := by
 have h1 : Tryz.prog.cellsOf 200 = 2 := by kernel_rfl
 have h2 : Tryz.prog.cellsOf 3 = 1 := by kernel_rfl
 have wx := wf_of_I hx; have wy := wf_of_I hy
 unfold Program.keyLits
 rw [Tryz.underlying200]
 simp only [h1, h2, List.length_cons, List.length_nil, Nat.mul_one]
 have q : ∀ z : Int, (Lit.int .i64 z).wf = true → Tryz.prog.keyLits (d + 1) 3 [.int .i64 z] = some [.int .i64 z] := by
  intro z hz
  unfold Program.keyLits
  rw [Tryz.underlying3]
  simp [hz]
 simp [List.range, List.range.loop, q x wx, q y wy]
theorem key_pair (x y : Int) (hx : I x) (hy : I y) : ∃ kl, keyOf Tryz.prog 200 (.agg #[.int .i64 x, .int .i64 y]) = some kl := by
 have h1 : Tryz.prog.keyType 200 = true := by kernel_rfl
 have h2 : (Value.agg #[.int .i64 x, .int .i64 y]).formed Tryz.prog 200 = true := by
  have h1 : Tryz.prog.cellsOf 200 = 2 := by kernel_rfl
  simp [Value.formed, Tryz.underlying200, h1]
 obtain ⟨d, hd⟩ : ∃ d, Tryz.prog.types.size + 1 = d + 2 := ⟨Tryz.prog.types.size - 1, by have := rowPair; omega⟩
 unfold keyOf
 rw [Tryz.underlying200]
 simp only [h1, h2, Bool.and_self, if_true, hd]
 have := key_lits d x y hx hy
 exact ⟨_, by simp [Value.cells, this]; rfl⟩
theorem zeroRow (w : World) : (zeroValue 50).run Tryz.prog w = .ok (.slice none 0 0) w := by kernel_rfl
def Tab (w : World) (base b n : Nat) : Prop := ∃ D : DataW Unit, w.ownsGroups Tryz.prog 200 base 3 .i64 b n D
theorem Tab.kept {w w' : World} {base b n : Nat} {row : Option Nat} (h : Tab w base b n) (hg : w.grownBy w' row) (hb' : some b ≠ row)
  (hrow : ∀ es clock, w.heap[b]? = some (.map es clock) → ∀ x ∈ es.toList, x.val.ownBlock = none ∨ x.val.ownBlock ≠ row) : Tab w' base b n := by
 obtain ⟨D, h⟩ := h
 exact ⟨D, h.kept hg hb' hrow⟩
theorem grown_gr {w w' : World} (h : Gr w w') : w.grownBy w' none := ⟨h.os, h.tape, h.output, h.size, fun k hk _ => h.block k hk⟩
theorem Tab.gr {w w' : World} {base b n : Nat} (h : Tab w base b n) (g : Gr w w') : Tab w' base b n := by
 refine h.kept (grown_gr g) (by simp) (fun es clock _ x _ => ?_)
 cases x.val.ownBlock <;> simp
theorem step_back_shuns {ops : Array Oper} {o : Oper} {a : Act} {w : World} {K' : Act → World → Prop} {Q : Exit → Act → World → Prop} {E : Prop} (hgd : o.guard = none) (m x v : Operand) (t : TypeId) (hop : o.op = Op.mapUpdate t m x v)
  {w0 : World} {k E' : TypeId} {base : Nat} {e : TypeId} {q : IntKind} {b n : Nat} {D : DataW Unit} {key : Value} {kl : Lit} {u v' : Value} {zs zs' : List Int} {No : Nat → Prop}
  (K : Keyed Tryz.prog k) (ht : Tryz.prog.underlying t = some (.map k E')) (hkey : keyOf Tryz.prog k key = some kl) (hown0 : w0.ownsGroups Tryz.prog k base e q b n D) (hn : n < maxLen) (hu : w0.ownsInts base e q u zs) (hsh : w0.Shuns b No) (hno : ∀ g, v'.ownBlock = some g → ¬ No g)
  (hback : w0.groupBack Tryz.prog t k base e q b n D key kl u) (hm : a.eval m = .map (some b)) (hx : a.eval x = key) (hv : a.eval v = v')
  (hgr : w0.grownBy w u.ownBlock) (hown' : w.ownsInts base e q v' zs') (hl' : zs'.length ≤ n + 1) (hloc : v'.ownBlock = u.ownBlock ∨ ∃ g, v'.ownBlock = some g ∧ w0.heap.size ≤ g)
  (hK : ∀ w2, w2.ownsGroups Tryz.prog k base e q b (n + 1) (D.put kl (rowDatum q v' zs')) → w.grownBy w2 (some b) → w2.Shuns b No → K' (a.put o.dst undef) w2) :
  if Region.wanted o (yielded ops a.tmps) = true then Oper.wp Tryz.prog o a w K' Q else E := by
 have hw : Region.wanted o (yielded ops a.tmps) = true := by simp [Region.wanted, hgd]
 rw [if_pos hw]
 obtain ⟨w2, hrun, r1, r2⟩ := hback w v' zs' hgr hown' hl' hloc
 have r3 : w2.Shuns b No := by
  obtain ⟨es, clock, hb, F, hs, _, hbb, _⟩ := hown0
  have hblt : b < w0.heap.size := (Array.getElem?_eq_some_iff.1 hb).1
  have hb1 : w.heap[b]? = some (.map es clock) := (hgr.block b hblt (fun e1 => by have := (hu.1.lt b e1.symm).1; omega)).trans hb
  obtain ⟨es', clock', hb2, hwho⟩ := stored_who K ht hb1 F (Nat.lt_of_le_of_lt hs hn) hkey hrun
  intro es2 clock2 hb2' y hy g hyg
  obtain ⟨rfl, rfl⟩ : es' = es2 ∧ clock' = clock2 := by rw [hb2] at hb2'; simpa using hb2'
  rcases hwho y hy with ⟨hy0, _⟩ | ⟨_, hval⟩
  ·exact hsh es clock hb y hy0 g hyg
  ·exact hno g (hval ▸ hyg)
 unfold Oper.wp
 simp [execOp, hop, hm, hx, hv, hrun, Result.andThen]
 exact hK w2 r1 r2 r3
theorem rows_kept {m : Nat} {w w' : World} {a : Option Addr} {len : Nat} {zs : List (List Int)} {row : Option Nat} (h : Oi.IsRows m w a len zs) (hg : w.grownBy w' row) (hne : ∀ ad : Addr, a = some ad → some ad.block ≠ row) : Oi.IsRows m w' a len zs := by
 obtain ⟨h1, h2, h3, h4⟩ := h
 refine ⟨h1, h2, h3, fun hl => ?_⟩
 obtain ⟨b, off, e, hc⟩ := h4 hl
 exact ⟨b, off, e, fun i j hi hj => hg.cell (hc i j hi hj) (show some b ≠ row from hne ⟨b, off, none⟩ e)⟩
theorem row_kept {w w' : World} {a : Option Addr} {len : Nat} {zs : List Int} {row : Option Nat} (h : IsRow .i64 w a len zs) (hg : w.grownBy w' row) (hne : ∀ ad : Addr, a = some ad → some ad.block ≠ row) : IsRow .i64 w' a len zs := by
 obtain ⟨h1, h2, h3, h4⟩ := h
 refine ⟨h1, h2, h3, fun hl => ?_⟩
 obtain ⟨b, off, e, hc⟩ := h4 hl
 exact ⟨b, off, e, fun i hi => hg.cell (hc i hi) (show some b ≠ row from hne ⟨b, off, none⟩ e)⟩
end Mt
end Go.Proofs.YtlfoglklibhbnaaGreat
namespace Go.Proofs.YtlfoglklibhbnaaGreat
open Go.RowKit Go.Maps
namespace Mt
theorem grown_trans {a b c : World} {row : Option Nat} (g : Gr a b) (h : b.grownBy c row) : a.grownBy c row :=
 ⟨h.os.trans g.os, h.tape.trans g.tape, h.output.trans g.output, Nat.le_trans g.size h.size, fun k hk hne => (h.block k (Nat.lt_of_lt_of_le hk g.size) hne).trans (g.block k hk)⟩
set_option maxHeartbeats 16000000 in
set_option maxRecDepth 100000 in
theorem table_any (m : ML) (d : MD) (w : World) (h : IsM w m d) (hl : d.F.length ≤ 1000) :
  Calls Tryz.prog 99 #[m.val] w fun e w' => ∃ base b n, e = .returned (.map (some b)) ∧ n ≤ 3000 ∧ w.heap.size ≤ b ∧ b < base ∧ Tab w' base b n ∧ Gr w w' := by
 have hmm := @run_makeMap Tryz.prog
 obtain ⟨⟨av, lv, cv⟩, ⟨at', lt, ct⟩, ⟨an, ln, cn⟩, ⟨af, lf, cf⟩⟩ := m
 obtain ⟨i0, hi, hz0, hz1, hz2⟩ := info_parts infoInt
 have h4 : d.F.length = lf := h.f.1
 rw [h4] at hl
 have HM := Lib.hid h
 have hB : Bx (w.alloc (.cells #[.slice av lv cv, .slice at' lt ct, .slice an ln cn, .slice af lf cf] 26)) w.heap.size 26 [.slice av lv cv, .slice at' lt ct, .slice an ln cn, .slice af lf cf] := Bx.new (vs := [.slice av lv cv, .slice at' lt ct, .slice an ln cn, .slice af lf cf]) rfl
 have hB2 := hB.alloc (.map #[] 0)
 have c3 := hB.blk.cell 3 rfl
 have c3' := hB2.blk.cell 3 rfl
 have HG := Lib.hid (((Gr.refl w).alloc (.cells #[.slice av lv cv, .slice at' lt ct, .slice an ln cn, .slice af lf cf] 26)).alloc (.map #[] 0))
 have hT0 : Tab ((w.alloc (.cells #[.slice av lv cv, .slice at' lt ct, .slice an ln cn, .slice af lf cf] 26)).alloc (.map #[] 0)) (w.heap.size + 2) (w.heap.size + 1) 0 := ⟨.map [], by have := World.ownsGroups_made (H := Unit) (w.alloc (.cells #[.slice av lv cv, .slice at' lt ct, .slice an ln cn, .slice af lf cf] 26)) Tryz.prog 200 3 .i64; simpa using this⟩
 have HT0 := Lib.hid hT0
 clear hB hB2 h h4 hT0
 unfold ML.val SL.v
 go_enter Tryz.func99, Tryz.ntmps99
 go_wp2_with fail
 go_loopw [13] (fun v13 wr => ∃ k n : Nat, k ≤ lf ∧ n ≤ 3 * k ∧ v13 = .int .i64 k ∧ Tab wr (w.heap.size + 2) (w.heap.size + 1) n ∧ Gr w wr) (fun v13 _ => lf - (intOf v13).toNat)
 case atStart => exact ⟨0, 0, by omega, by omega, rfl, HT0.out, HG.out⟩
 case round =>
  clear c3 c3' HG HT0
  obtain ⟨k, n, hk, hn, rfl, ht, hg⟩ := hrel
  have HT := Lib.hid ht; have HG := Lib.hid hg
  clear ht hg
  by_cases hlt : k < lf
  ·obtain ⟨b, off, t0, t1, t2, t3, t4, t5, t6, t7, t8, rfl, hbl, ez, hI, c0, c1, c2, c3, c4, c5, c6, c7, c8⟩ := rows9_at (HM.out.later HG.out).f hlt
   have HI := Lib.hid hI
   have hk0 : (0 : Int) ≤ (k : Int) := by omega
   clear ez hI
   obtain ⟨V, hV⟩ : ∃ V, wr.alloc (.cells #[.int .i64 t0, .int .i64 t1, .int .i64 t2, .int .i64 t3, .int .i64 t4, .int .i64 t5, .int .i64 t6, .int .i64 t7, .int .i64 t8] 66) = V := ⟨_, rfl⟩
   have hF : Bx V wr.heap.size 66 [.int .i64 t0, .int .i64 t1, .int .i64 t2, .int .i64 t3, .int .i64 t4, .int .i64 t5, .int .i64 t6, .int .i64 t7, .int .i64 t8] := by rw [← hV]; exact Bx.new (vs := [.int .i64 t0, .int .i64 t1, .int .i64 t2, .int .i64 t3, .int .i64 t4, .int .i64 t5, .int .i64 t6, .int .i64 t7, .int .i64 t8]) rfl
   have hgV : Gr wr V := by rw [← hV]; exact (Gr.refl wr).alloc _
   have f0 := hF.blk.cell 0 rfl; have f1 := hF.blk.cell 1 rfl; have f2 := hF.blk.cell 2 rfl; have f3 := hF.blk.cell 3 rfl; have f4 := hF.blk.cell 4 rfl; have f5 := hF.blk.cell 5 rfl; have f6 := hF.blk.cell 6 rfl; have f7 := hF.blk.cell 7 rfl; have f8 := hF.blk.cell 8 rfl
   have HGV := Lib.hid hgV
   clear hF hgV
   have hbw : w.heap.size + 1 < wr.heap.size := by
    obtain ⟨D, es, clock, hb, _⟩ := HT.out
    exact (Array.getElem?_eq_some_iff.1 hb).1
   go_wp2_with fail
   clear hV
   refine (pairs_any t0 t1 t2 t3 t4 t5 t6 t7 t8 HI.out.1 HI.out.2.2.2.1 HI.out.2.2.2.2.2.2.1 _).mono ?_
   rintro e w1 ⟨ap, capp, ps, rfl, hps, hl3, hfr, hg1⟩
   have hgr1 : Gr wr w1 := HGV.out.trans hg1
   have ht1 : Tab w1 (w.heap.size + 2) (w.heap.size + 1) n := HT.out.gr hgr1
   obtain ⟨D0, ho0⟩ := HT.out
   have hsh0 : wr.Shuns (w.heap.size + 1) (fun g => ∃ ad : Addr, ap = some ad ∧ ad.block = g) := by
    refine World.Shuns.reno (No := fun _ => False) (fun _ _ _ _ _ _ _ h => h) ho0 (fun g hg => .inr ?_)
    obtain ⟨ad, e, rfl⟩ := hg
    have := hfr ad e
    have := HGV.out.size
    omega
   have hsh1 : w1.Shuns (w.heap.size + 1) (fun g => ∃ ad : Addr, ap = some ad ∧ ad.block = g) := hsh0.kept (grown_gr hgr1) hbw (by simp)
   have hG1 : Gr w w1 := HG.out.trans hgr1
   obtain ⟨pl, hpl⟩ : ∃ pl, ps.length = pl := ⟨_, rfl⟩
   have hfr2 : ∀ ad : Addr, ap = some ad → w.heap.size + 2 ≤ ad.block := fun ad e => by
    have := hfr ad e
    have := HGV.out.size
    omega
   have HPS := Lib.hid hps; have HT1 := Lib.hid ht1; have HSH := Lib.hid hsh1; have HG1 := Lib.hid hG1; have HPL := Lib.hid hpl; have HFR := Lib.hid hfr2
   have hl3' : pl ≤ 3 := by omega
   have hp0 : decide (ps.length < 0) = false := by simp
   clear hps ht1 hsh1 hG1 hpl hgr1 hg1 hfr hsh0 ho0 D0 HGV hp0 f0 f1 f2 f3 f4 f5 f6 f7 f8 c0 c1 c2 c3 c4 c5 c6 c7 c8 hfr2
   go_wp2_with fail
   go_loopw [21] (fun v21 wx => ∃ j n2 : Nat, j ≤ ps.length ∧ n2 ≤ n + j ∧ v21 = .int .i64 j ∧ Tab wx (w.heap.size + 2) (w.heap.size + 1) n2 ∧ wx.Shuns (w.heap.size + 1) (fun g => ∃ ad : Addr, ap = some ad ∧ ad.block = g) ∧ Oi.IsRows 2 wx ap ps.length ps ∧ Gr w wx) (fun v21 _ => ps.length - (intOf v21).toNat)
   case atStart => exact ⟨0, n, by omega, by omega, rfl, HT1.out, HSH.out, HPS.out, HG1.out⟩
   case round =>
    clear HT1 HSH HPS HG1 HT HG
    obtain ⟨j, n2, hj, hn2, rfl, ht, hsh, hps, hg⟩ := hrel
    have HT := Lib.hid ht; have HSH := Lib.hid hsh; have HPS := Lib.hid hps; have HG := Lib.hid hg
    clear ht hsh hps hg
    by_cases hjl : j < ps.length
    ·obtain ⟨b2, off2, x, y, rfl, hbl2, ez, cx, cy, hx, hy⟩ := Ro.rows2_at HPS.out hjl
     obtain ⟨kl, hkl⟩ := key_pair x y hx hy
     have HKL := Lib.hid hkl
     clear ez hkl hx hy
     have hj0 : (0 : Int) ≤ (j : Int) := by omega
     obtain ⟨V2, hV2⟩ : ∃ V2, wr.alloc (.cells #[.int .i64 x, .int .i64 y] 200) = V2 := ⟨_, rfl⟩
     obtain ⟨s, hs⟩ : ∃ s, wr.heap.size = s := ⟨_, rfl⟩
     have hX : Bx V2 s 200 [.int .i64 x, .int .i64 y] := by rw [← hV2]; exact Bx.new (vs := [.int .i64 x, .int .i64 y]) hs.symm
     have hgV2 : Gr wr V2 := by rw [← hV2]; exact (Gr.refl wr).alloc _
     have hbw2 : w.heap.size + 1 < wr.heap.size := by
      obtain ⟨D, es, clock, hb, _⟩ := HT.out
      exact (Array.getElem?_eq_some_iff.1 hb).1
     have ht2 : Tab V2 (w.heap.size + 2) (w.heap.size + 1) n2 := HT.out.gr hgV2
     have hsh2 : V2.Shuns (w.heap.size + 1) (fun g => (∃ ad : Addr, some (⟨b2, off2, none⟩ : Addr) = some ad ∧ ad.block = g) ∨ g = s) := by
      obtain ⟨D, ho⟩ := HT.out
      exact (World.Shuns.reno HSH.out ho (No' := fun g => (∃ ad : Addr, some (⟨b2, off2, none⟩ : Addr) = some ad ∧ ad.block = g) ∨ g = s) (fun g hg => hg.elim .inl (fun e => .inr (by omega)))).kept (grown_gr hgV2) hbw2 (by simp)
     have hps2 := HPS.out.later hgV2
     have hg2 : Gr w V2 := HG.out.trans hgV2
     have hs2 : w.heap.size + 2 ≤ V2.heap.size := by have := hgV2.size; omega
     have hbs2 : w.heap.size + 1 < s := by omega
     have x0 := hX.blk.cell 0 rfl; have x1 := hX.blk.cell 1 rfl
     have lX := hX.lt
     clear hX
     have HPS2 := Lib.hid hps2; have HG2 := Lib.hid hg2; have HSH2 := Lib.hid hsh2
     obtain ⟨D2, hown⟩ := ht2
     have hpb : b2 < V2.heap.size := by have := hgV2.size; omega
     have hpb0 : w.heap.size + 2 ≤ b2 := HFR.out _ rfl
     clear hps2 hg2 hsh2 hgV2 HT HSH HPS HG
     have hlx : n2 < maxLen := by unfold maxLen; omega
     go_wp2_with (first
      | (at_lookup; refine wpList_lookup_groups_shuns _ rfl (.tmp 25) (.tmp 26) 178 rfl 200 50 3 .i64 pair_keyed Tryz.underlying178 (zeroRow _) (w.heap.size + 2) (w.heap.size + 1) n2 D2 (by rfl) hown hlx _ kl (by rfl) HKL.out ?_; intro u zs hat hoi hzl hback hsu))
     clear hV2 hs
     obtain ⟨au, capu, rfl⟩ := own_slice hoi.1
     have HOI := Lib.hid hoi; have HBK := Lib.hid hback; have HSU := Lib.hid hsu; have HOW := Lib.hid hown
     clear hoi hback hsu hown hat
     by_cases hz : zs.length = 0
     ·obtain rfl : zs = [] := List.eq_nil_of_length_eq_zero hz
      clear hz
      simp only [List.length_nil] at *
      go_simp
      go_wp2_with fail
      refine wp_region_held_drew (S := fun w' => w'.cell? ⟨s, 0, none⟩ = some (.int .i64 x) ∧ w'.cell? ⟨s, 1, none⟩ = some (.int .i64 y)) (by kernel_rfl) ?_ (fun hH => ?_)
      ·exact ⟨x0, x1⟩
      refine' wpAnyH_take (i := 0) (v := _) rfl (by kernel_rfl) (by kernel_rfl) (by kernel_rfl) (fun _ _ _ h => h) (Or.inl ⟨by rfl, ?thy1_0⟩) (by assumption) ?_
      case thy1_0 => (intro w hSw; (try dsimp only at hSw); go_simp; try with_reducible rfl)
      try simp only [Act.put, List.setIfInBounds_toArray, List.set_cons_zero, List.set_cons_succ, List.getElem_toArray, List.getElem_cons_zero]
      refine' wpAnyH_take (i := 1) (v := _) rfl (by kernel_rfl) (by kernel_rfl) (by kernel_rfl) (fun _ _ _ h => h) (Or.inl ⟨by rfl, ?thy1_1⟩) (by assumption) ?_
      case thy1_1 => (intro w hSw; (try dsimp only at hSw); go_simp; try with_reducible rfl)
      try simp only [Act.put, List.setIfInBounds_toArray, List.set_cons_zero, List.set_cons_succ, List.getElem_toArray, List.getElem_cons_succ, List.getElem_cons_zero]
      refine' wpAnyH_take (i := 2) (v := _) rfl (by kernel_rfl) (by kernel_rfl) (by kernel_rfl) (fun _ _ _ h => h) (Or.inl ⟨by rfl, ?thy1_2⟩) (by assumption) ?_
      case thy1_2 => (intro w hSw; (try dsimp only at hSw); go_simp; try with_reducible rfl)
      try simp only [Act.put, List.setIfInBounds_toArray, List.set_cons_zero, List.set_cons_succ, List.getElem_toArray, List.getElem_cons_succ, List.getElem_cons_zero]
      refine' wpAnyH_take (i := 3) (v := _) rfl (by kernel_rfl) (by kernel_rfl) (by kernel_rfl) (fun _ _ _ h => h) (Or.inl ⟨by rfl, ?thy1_3⟩) (by assumption) ?_
      case thy1_3 => (intro w hSw; (try dsimp only at hSw); go_simp; try with_reducible rfl)
      try simp only [Act.put, List.setIfInBounds_toArray, List.set_cons_zero, List.set_cons_succ, List.getElem_toArray, List.getElem_cons_succ, List.getElem_cons_zero]
      refine wpAnyH_ready (rs := [4]) (by kernel_rfl) (by simp) ?_
      refine AllReadyH.cons rfl (fun K hK => ?_) AllReadyH.nil
      go_simp
      refine hK.out _ _ ?_ (fun hN => ?_)
      ·exact ⟨(World.cell?_alloc_past _ _ _ lX).trans hH.1, (World.cell?_alloc_past _ _ _ lX).trans hH.2⟩
      clear hK K hH
      have hH := hN; clear hN
      try simp only [Act.put, List.setIfInBounds_toArray, List.set_cons_zero, List.set_cons_succ, List.getElem_toArray, List.getElem_cons_succ, List.getElem_cons_zero]
      refine wpAnyH_ready (rs := [5]) (by kernel_rfl) (by simp) ?_
      refine AllReadyH.cons rfl (fun K hK => ?_) AllReadyH.nil
      refine step_append_lies _ (by rfl) (.tmp 43) (.tmp 45) 50 (by rfl) (w.heap.size + 2) 3 i0 (.int .i64 0) 1 8 Tryz.underlying50 hi hz0 hz1 hz2 rfl (by omega) (Value.slice au 0 capu) (0) (([] : List Int).map (Value.int .i64)) (by rfl) (HOI.out.1.alloc _) ⟨V2.heap.size, 0, none⟩ 1 1 [.int .i64 k] (by rfl) rfl (World.news_of_block (World.alloc_heap_new _ _)) (by intro z hz; simp at hz; subst hz; rfl) (by omega) (by unfold maxLen; omega) (by omega) (by simp <;> omega) (V2.heap.size + 1) (by simp) ?_
      intro g cap' w3 hown3 hgrow3 hat3 hlt3
      have hgr3 : V2.grownBy w3 (Value.slice au 0 capu).ownBlock := grown_trans ((Gr.refl V2).drew.alloc _) hgrow3
      have hus : some s ≠ (Value.slice au 0 capu).ownBlock := fun e => HSU.out _ HSH2.out s e.symm (.inr rfl)
      have hub : some b2 ≠ (Value.slice au 0 capu).ownBlock := fun e => HSU.out _ HSH2.out b2 e.symm (.inl ⟨_, rfl, rfl⟩)
      have sX : w3.cell? ⟨s, 0, none⟩ = some (.int .i64 x) := (hgr3.cell_far ⟨s, 0, none⟩ lX hus).trans x0
      have sY : w3.cell? ⟨s, 1, none⟩ = some (.int .i64 y) := (hgr3.cell_far ⟨s, 1, none⟩ lX hus).trans x1
      have hoi3 : w3.ownsInts (w.heap.size + 2) 3 .i64 (.slice (some ⟨g, 0, none⟩) (0 + 1) cap') (([] : List Int) ++ [(k : Int)]) := ⟨by rw [List.length_append, List.map_append]; exact hown3, fun z hz => by
       rw [List.mem_append] at hz
       rcases hz with hz | hz
       ·exact HOI.out.2 z hz
       ·simp at hz; subst hz; exact wf_of_I ⟨by omega, by omega⟩⟩
      have hno3 : ∀ g', (Value.slice (some ⟨g, 0, none⟩) (0 + 1) cap').ownBlock = some g' → ¬ ((∃ ad : Addr, some (⟨b2, off2, none⟩ : Addr) = some ad ∧ ad.block = g') ∨ g' = s) := by
       intro g' e
       simp [Value.ownBlock] at e
       subst e
       rcases hat3 with h | h
       ·exact HSU.out _ HSH2.out g h
       ·rintro (⟨ad, e, e2⟩ | e)
        ·simp at e; subst e; simp at e2; omega
        ·omega
      have hloc3 : (Value.slice (some ⟨g, 0, none⟩) (0 + 1) cap').ownBlock = (Value.slice au 0 capu).ownBlock ∨ ∃ g', (Value.slice (some ⟨g, 0, none⟩) (0 + 1) cap').ownBlock = some g' ∧ V2.heap.size ≤ g' := by
       rcases hat3 with h | h
       ·exact .inl h.symm
       ·exact .inr ⟨g, rfl, by omega⟩
      have hps3 := rows_kept HPS2.out hgr3 (fun ad e => by simp at e; subst e; exact hub)
      have hgw3 : Gr w w3 := Below.grown HG2.out hgr3 HG2.out.size (fun j hj => by have := own_base HOI.out.1 j hj; omega)
      have HOI3 := Lib.hid hoi3; have HNO := Lib.hid hno3; have HLOC := Lib.hid hloc3; have HPS3 := Lib.hid hps3; have HGW3 := Lib.hid hgw3; have HGR3 := Lib.hid hgr3
      clear hgrow3 hat3 hoi3 hno3 hloc3 hps3 hgw3 hgr3 hown3
      refine hK.out _ _ ?_ (fun hN => ?_)
      ·exact ⟨sX, sY⟩
      clear hK K hH
      have hH := hN; clear hN
      try simp only [Act.put, List.setIfInBounds_toArray, List.set_cons_zero, List.set_cons_succ, List.getElem_toArray, List.getElem_cons_succ, List.getElem_cons_zero]
      refine wpAnyH_ready (rs := [6]) (by kernel_rfl) (by simp) ?_
      refine AllReadyH.cons rfl (fun K hK => ?_) AllReadyH.nil
      refine step_back_shuns (by rfl) (.tmp 41) (.tmp 42) (.tmp 46) 178 (by rfl) pair_keyed Tryz.underlying178 HKL.out HOW.out hlx HOI.out HSH2.out HNO.out HBK.out (by rfl) (by rfl) (by rfl) HGR3.out HOI3.out (by rw [List.length_append]; simp only [List.length_cons, List.length_nil]; omega) HLOC.out ?_
      intro w4 hT4 hgr4 hsh4
      have sX4 : w4.cell? ⟨s, 0, none⟩ = some (.int .i64 x) := (hgr4.cell_far ⟨s, 0, none⟩ (by have := HGR3.out.size; simp; omega) (by simp; omega)).trans hH.1
      have sY4 : w4.cell? ⟨s, 1, none⟩ = some (.int .i64 y) := (hgr4.cell_far ⟨s, 1, none⟩ (by have := HGR3.out.size; simp; omega) (by simp; omega)).trans hH.2
      have hps4 := rows_kept HPS3.out hgr4 (fun ad e => by simp at e; subst e; simp; omega)
      have hgw4 : Gr w w4 := Below.grown HGW3.out hgr4 HGW3.out.size (fun j hj => by cases hj; omega)
      have hsh5 := World.Shuns.reno hsh4 hT4 (No' := fun g => ∃ ad : Addr, some (⟨b2, off2, none⟩ : Addr) = some ad ∧ ad.block = g) (fun g hg => .inl (.inl hg))
      have HT4 := Lib.hid hT4; have HPS4 := Lib.hid hps4; have HGW4 := Lib.hid hgw4; have HSH5 := Lib.hid hsh5
      clear hT4 hgr4 hsh4 hps4 hgw4 hsh5
      refine hK.out _ _ ?_ (fun hN => ?_)
      ·exact ⟨sX4, sY4⟩
      clear hK K hH hN sX4 sY4 sX sY hus hub
      try simp only [Act.put, List.setIfInBounds_toArray, List.set_cons_zero, List.set_cons_succ, List.getElem_toArray, List.getElem_cons_succ, List.getElem_cons_zero]
      refine wpAnyH_done (by kernel_rfl) ?_ _
      go_wp2_with fail
      go_roundw
      case rel => exact ⟨j + 1, n2 + 1, by omega, by omega, by go_num, ⟨_, HT4.out⟩, HSH5.out, HPS4.out, HGW4.out⟩
      case measure => simp [intOf]; omega
     ·obtain ⟨gu, capu', e, hgu, hgl⟩ := HOI.out.1.form (by omega)
      cases e
      obtain ⟨q, hq⟩ : ∃ q, zs.length = q + 1 := ⟨zs.length - 1, by omega⟩
      have hcell : ∃ z, V2.cell? ⟨gu, q, none⟩ = some (.int .i64 z) := by
       obtain ⟨_, _, e, hrow⟩ := row_owned (zs := zs) HOI.out.1 (by omega) HOI.out.2
       cases e
       obtain ⟨_, off, e2, _, hc, _⟩ := row_at hrow (i := q) (by omega)
       cases e2
       simp only [Nat.zero_add] at hc
       exact ⟨_, hc⟩
      obtain ⟨z, hc⟩ := hcell
      have HQ := Lib.hid hq
      have hq0 : (0 : Int) ≤ (q : Int) := by omega
      have hql : q < zs.length := by omega
      have hzb : ((zs.length : Int) == 0) = false := by simpa using hz
      have hq1 : (zs.length : Int) - 1 = (q : Int) := by omega
      clear hz hq
      by_cases he : z = (k : Int)
      ·have he1 : (z == (k : Int)) = true := by simpa using he
       clear he
       go_simp
       go_wp2_with fail
       have HT4 := Lib.hid HOW.out; have hsh5 := World.Shuns.reno HSH2.out HOW.out (No' := fun g => ∃ ad : Addr, some (⟨b2, off2, none⟩ : Addr) = some ad ∧ ad.block = g) (fun g hg => .inl (.inl hg))
       have HSH5 := Lib.hid hsh5
       clear hsh5
       go_roundw
       case rel => exact ⟨j + 1, n2, by omega, by omega, by go_num, ⟨_, HT4.out⟩, HSH5.out, HPS2.out, HG2.out⟩
       case measure => simp [intOf]; omega
      ·have he1 : (z == (k : Int)) = false := by simpa using he
       clear he
       go_simp
       go_wp2_with fail
       refine wp_region_held_drew (S := fun w' => w'.cell? ⟨s, 0, none⟩ = some (.int .i64 x) ∧ w'.cell? ⟨s, 1, none⟩ = some (.int .i64 y)) (by kernel_rfl) ?_ (fun hH => ?_)
       ·exact ⟨x0, x1⟩
       refine' wpAnyH_take (i := 0) (v := _) rfl (by kernel_rfl) (by kernel_rfl) (by kernel_rfl) (fun _ _ _ h => h) (Or.inl ⟨by rfl, ?thy2_0⟩) (by assumption) ?_
       case thy2_0 => (intro w hSw; (try dsimp only at hSw); go_simp; try with_reducible rfl)
       try simp only [Act.put, List.setIfInBounds_toArray, List.set_cons_zero, List.set_cons_succ, List.getElem_toArray, List.getElem_cons_zero]
       refine' wpAnyH_take (i := 1) (v := _) rfl (by kernel_rfl) (by kernel_rfl) (by kernel_rfl) (fun _ _ _ h => h) (Or.inl ⟨by rfl, ?thy2_1⟩) (by assumption) ?_
       case thy2_1 => (intro w hSw; (try dsimp only at hSw); go_simp; try with_reducible rfl)
       try simp only [Act.put, List.setIfInBounds_toArray, List.set_cons_zero, List.set_cons_succ, List.getElem_toArray, List.getElem_cons_succ, List.getElem_cons_zero]
       refine' wpAnyH_take (i := 2) (v := _) rfl (by kernel_rfl) (by kernel_rfl) (by kernel_rfl) (fun _ _ _ h => h) (Or.inl ⟨by rfl, ?thy2_2⟩) (by assumption) ?_
       case thy2_2 => (intro w hSw; (try dsimp only at hSw); go_simp; try with_reducible rfl)
       try simp only [Act.put, List.setIfInBounds_toArray, List.set_cons_zero, List.set_cons_succ, List.getElem_toArray, List.getElem_cons_succ, List.getElem_cons_zero]
       refine' wpAnyH_take (i := 3) (v := _) rfl (by kernel_rfl) (by kernel_rfl) (by kernel_rfl) (fun _ _ _ h => h) (Or.inl ⟨by rfl, ?thy2_3⟩) (by assumption) ?_
       case thy2_3 => (intro w hSw; (try dsimp only at hSw); go_simp; try with_reducible rfl)
       try simp only [Act.put, List.setIfInBounds_toArray, List.set_cons_zero, List.set_cons_succ, List.getElem_toArray, List.getElem_cons_succ, List.getElem_cons_zero]
       refine wpAnyH_ready (rs := [4]) (by kernel_rfl) (by simp) ?_
       refine AllReadyH.cons rfl (fun K hK => ?_) AllReadyH.nil
       go_simp
       refine hK.out _ _ ?_ (fun hN => ?_)
       ·exact ⟨(World.cell?_alloc_past _ _ _ lX).trans hH.1, (World.cell?_alloc_past _ _ _ lX).trans hH.2⟩
       clear hK K hH
       have hH := hN; clear hN
       try simp only [Act.put, List.setIfInBounds_toArray, List.set_cons_zero, List.set_cons_succ, List.getElem_toArray, List.getElem_cons_succ, List.getElem_cons_zero]
       refine wpAnyH_ready (rs := [5]) (by kernel_rfl) (by simp) ?_
       refine AllReadyH.cons rfl (fun K hK => ?_) AllReadyH.nil
       refine step_append_lies _ (by rfl) (.tmp 43) (.tmp 45) 50 (by rfl) (w.heap.size + 2) 3 i0 (.int .i64 0) 1 8 Tryz.underlying50 hi hz0 hz1 hz2 rfl (by omega) (Value.slice (some ⟨gu, 0, none⟩) zs.length capu) (zs.length) (zs.map (Value.int .i64)) (by rfl) (HOI.out.1.alloc _) ⟨V2.heap.size, 0, none⟩ 1 1 [.int .i64 k] (by rfl) rfl (World.news_of_block (World.alloc_heap_new _ _)) (by intro z hz; simp at hz; subst hz; rfl) (by omega) (by unfold maxLen; omega) (by omega) (by simp <;> omega) (V2.heap.size + 1) (by simp) ?_
       intro g cap' w3 hown3 hgrow3 hat3 hlt3
       have hgr3 : V2.grownBy w3 (Value.slice (some ⟨gu, 0, none⟩) zs.length capu).ownBlock := grown_trans ((Gr.refl V2).drew.alloc _) hgrow3
       have hus : some s ≠ (Value.slice (some ⟨gu, 0, none⟩) zs.length capu).ownBlock := fun e => HSU.out _ HSH2.out s e.symm (.inr rfl)
       have hub : some b2 ≠ (Value.slice (some ⟨gu, 0, none⟩) zs.length capu).ownBlock := fun e => HSU.out _ HSH2.out b2 e.symm (.inl ⟨_, rfl, rfl⟩)
       have sX : w3.cell? ⟨s, 0, none⟩ = some (.int .i64 x) := (hgr3.cell_far ⟨s, 0, none⟩ lX hus).trans x0
       have sY : w3.cell? ⟨s, 1, none⟩ = some (.int .i64 y) := (hgr3.cell_far ⟨s, 1, none⟩ lX hus).trans x1
       have hoi3 : w3.ownsInts (w.heap.size + 2) 3 .i64 (.slice (some ⟨g, 0, none⟩) (zs.length + 1) cap') (zs ++ [(k : Int)]) := ⟨by rw [List.length_append, List.map_append]; exact hown3, fun z hz => by
        rw [List.mem_append] at hz
        rcases hz with hz | hz
        ·exact HOI.out.2 z hz
        ·simp at hz; subst hz; exact wf_of_I ⟨by omega, by omega⟩⟩
       have hno3 : ∀ g', (Value.slice (some ⟨g, 0, none⟩) (zs.length + 1) cap').ownBlock = some g' → ¬ ((∃ ad : Addr, some (⟨b2, off2, none⟩ : Addr) = some ad ∧ ad.block = g') ∨ g' = s) := by
        intro g' e
        simp [Value.ownBlock] at e
        subst e
        rcases hat3 with h | h
        ·exact HSU.out _ HSH2.out g h
        ·rintro (⟨ad, e, e2⟩ | e)
         ·simp at e; subst e; simp at e2; omega
         ·omega
       have hloc3 : (Value.slice (some ⟨g, 0, none⟩) (zs.length + 1) cap').ownBlock = (Value.slice (some ⟨gu, 0, none⟩) zs.length capu).ownBlock ∨ ∃ g', (Value.slice (some ⟨g, 0, none⟩) (zs.length + 1) cap').ownBlock = some g' ∧ V2.heap.size ≤ g' := by
        rcases hat3 with h | h
        ·exact .inl h.symm
        ·exact .inr ⟨g, rfl, by omega⟩
       have hps3 := rows_kept HPS2.out hgr3 (fun ad e => by simp at e; subst e; exact hub)
       have hgw3 : Gr w w3 := Below.grown HG2.out hgr3 HG2.out.size (fun j hj => by have := own_base HOI.out.1 j hj; omega)
       have HOI3 := Lib.hid hoi3; have HNO := Lib.hid hno3; have HLOC := Lib.hid hloc3; have HPS3 := Lib.hid hps3; have HGW3 := Lib.hid hgw3; have HGR3 := Lib.hid hgr3
       clear hgrow3 hat3 hoi3 hno3 hloc3 hps3 hgw3 hgr3 hown3
       refine hK.out _ _ ?_ (fun hN => ?_)
       ·exact ⟨sX, sY⟩
       clear hK K hH
       have hH := hN; clear hN
       try simp only [Act.put, List.setIfInBounds_toArray, List.set_cons_zero, List.set_cons_succ, List.getElem_toArray, List.getElem_cons_succ, List.getElem_cons_zero]
       refine wpAnyH_ready (rs := [6]) (by kernel_rfl) (by simp) ?_
       refine AllReadyH.cons rfl (fun K hK => ?_) AllReadyH.nil
       refine step_back_shuns (by rfl) (.tmp 41) (.tmp 42) (.tmp 46) 178 (by rfl) pair_keyed Tryz.underlying178 HKL.out HOW.out hlx HOI.out HSH2.out HNO.out HBK.out (by rfl) (by rfl) (by rfl) HGR3.out HOI3.out (by rw [List.length_append]; simp only [List.length_cons, List.length_nil]; omega) HLOC.out ?_
       intro w4 hT4 hgr4 hsh4
       have sX4 : w4.cell? ⟨s, 0, none⟩ = some (.int .i64 x) := (hgr4.cell_far ⟨s, 0, none⟩ (by have := HGR3.out.size; simp; omega) (by simp; omega)).trans hH.1
       have sY4 : w4.cell? ⟨s, 1, none⟩ = some (.int .i64 y) := (hgr4.cell_far ⟨s, 1, none⟩ (by have := HGR3.out.size; simp; omega) (by simp; omega)).trans hH.2
       have hps4 := rows_kept HPS3.out hgr4 (fun ad e => by simp at e; subst e; simp; omega)
       have hgw4 : Gr w w4 := Below.grown HGW3.out hgr4 HGW3.out.size (fun j hj => by cases hj; omega)
       have hsh5 := World.Shuns.reno hsh4 hT4 (No' := fun g => ∃ ad : Addr, some (⟨b2, off2, none⟩ : Addr) = some ad ∧ ad.block = g) (fun g hg => .inl (.inl hg))
       have HT4 := Lib.hid hT4; have HPS4 := Lib.hid hps4; have HGW4 := Lib.hid hgw4; have HSH5 := Lib.hid hsh5
       clear hT4 hgr4 hsh4 hps4 hgw4 hsh5
       refine hK.out _ _ ?_ (fun hN => ?_)
       ·exact ⟨sX4, sY4⟩
       clear hK K hH hN sX4 sY4 sX sY hus hub
       try simp only [Act.put, List.setIfInBounds_toArray, List.set_cons_zero, List.set_cons_succ, List.getElem_toArray, List.getElem_cons_succ, List.getElem_cons_zero]
       refine wpAnyH_done (by kernel_rfl) ?_ _
       go_wp2_with fail
       go_roundw
       case rel => exact ⟨j + 1, n2 + 1, by omega, by omega, by go_num, ⟨_, HT4.out⟩, HSH5.out, HPS4.out, HGW4.out⟩
       case measure => simp [intOf]; omega
    ·have hjp : j = ps.length := by omega
     subst hjp
     go_wp2_with fail
     go_roundw
     case rel => exact ⟨k + 1, n2, by omega, by have := HPL.out; omega, by go_num, HT.out, HG.out⟩
     case measure => simp [intOf]; omega
  ·have hkl : k = lf := by omega
   subst hkl
   go_wp2_with fail
   go_ret
   exact ⟨w.heap.size + 2, w.heap.size + 1, n, rfl, by omega, by omega, by omega, HT.out, HG.out⟩
end Mt
end Go.Proofs.YtlfoglklibhbnaaGreat
