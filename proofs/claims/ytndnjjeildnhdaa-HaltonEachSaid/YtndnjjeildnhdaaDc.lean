/- Chapter 23: halton.Inverse, walked. -/
import Derived.Test.YtndnjjeildnhdaaDb
import Derived.Test.YtndnjjeildnhdaaRw
import Derived.Test.YtndnjjeildnhdaaEr
import Derived.Deep.RegionHeld
import Derived.Laws.ResultCell
set_option linter.unusedVariables false
set_option linter.unusedSimpArgs false
namespace Go.Proofs.Ytndnjjeildnhdaa
open Go.RowKit Go.Shelf
attribute [local go_sem] Oper.semAt_some
namespace Mt
/-- The fraction behind k digits. -/
def hA (b i : Int) : Nat → Int × Int
  | 0 => (0, 1)
  | k + 1 => ((hA b i k).1 * b + iN b i k % b, (hA b i k).2 * b)
def hB (b i : Int) (a : Int × Int) : Nat → Int × Int
  | 0 => a
  | k + 1 => ((hB b i a k).1 * b + iN b i k % b, (hB b i a k).2 * b)
theorem hB_succ (b i : Int) (a : Int × Int) : ∀ k, hB b i a (k + 1) = hB b (i / b) (a.1 * b + i % b, a.2 * b) k
  | 0 => rfl
  | k + 1 => by
    show ((hB b i a (k + 1)).1 * b + iN b i (k + 1) % b, (hB b i a (k + 1)).2 * b) = ((hB b (i / b) _ k).1 * b + iN b (i / b) k % b, _)
    rw [hB_succ b i a k, iN_succ']
theorem hI_eq (b : Int) : ∀ (n : Nat) (i : Int) (a : Int × Int), Sx.hI b n i a = hB b i a (nd b n i)
  | 0, i, a => rfl
  | n + 1, i, a => by
    simp only [Sx.hI, nd]
    by_cases h : i ≤ 0
    · rw [if_pos h, if_pos h]; rfl
    · rw [if_neg h, if_neg h, hB_succ, hI_eq b n]
theorem hA_hB (b i : Int) : ∀ k, hA b i k = hB b i (0, 1) k
  | 0 => rfl
  | k + 1 => by simp only [hA, hB, hA_hB b i k]
theorem hA_bd {b i : Int} (hb : 2 ≤ b) (h0 : 0 ≤ i) : ∀ k, 1 ≤ (hA b i k).2 ∧ 0 ≤ (hA b i k).1 ∧ (hA b i k).1 < (hA b i k).2 ∧ (hA b i k).2 * iN b i k ≤ i
  | 0 => by simp [hA, iN]
  | k + 1 => by
    obtain ⟨h1, h2, h3, h4⟩ := hA_bd hb h0 k
    obtain ⟨g1, g2⟩ := iN_bd hb h0 k
    have m0 : 0 ≤ iN b i k % b := Int.emod_nonneg _ (by omega)
    have m1 : iN b i k % b < b := Int.emod_lt_of_pos _ (by omega)
    simp only [hA, iN]
    generalize (hA b i k).1 = n at *
    generalize (hA b i k).2 = d at *
    generalize iN b i k = x at *
    refine ⟨?_, ?_, ?_, ?_⟩
    · have : 1 * 2 ≤ d * b := Int.mul_le_mul h1 hb (by omega) (by omega)
      omega
    · have := Int.mul_nonneg h2 (show (0 : Int) ≤ b by omega); omega
    · have h5 : (n + 1) * b ≤ d * b := Int.mul_le_mul_of_nonneg_right (by omega) (by omega)
      rw [Int.add_mul] at h5; omega
    · have h6 : b * (x / b) ≤ x := Int.mul_ediv_self_le (by omega)
      have h7 : d * (b * (x / b)) ≤ d * x := Int.mul_le_mul_of_nonneg_left h6 (by omega)
      rw [Int.mul_assoc]; omega
/-- Ahead of a digit the fraction's parts are at most the number. -/
theorem hA_le {b i : Int} (hb : 2 ≤ b) (h0 : 0 ≤ i) {k : Nat} (hp : 0 < iN b i k) : (hA b i k).2 ≤ i := by
  obtain ⟨h1, h2, h3, h4⟩ := hA_bd hb h0 k
  have : (hA b i k).2 * 1 ≤ (hA b i k).2 * iN b i k := Int.mul_le_mul_of_nonneg_left (by omega) (by omega)
  omega
theorem results_blk_tmp {P : Program} {fn : Func} {q u : Tmp} {ty : TypeId} (h : fn.results = #[.cell q ty, .tmp u]) {tmps : Array Value} {w : World} {b : Nat} {vs : List Value} {ti : Sx.TI} (ht : Sx.TyOk P ty ti) (ha : ti.agg = true)
    (hp : tmps.getD q undef = .pointer (some ⟨b, 0, none⟩)) (hb : Blk w b vs) (hl : vs.length = ti.size) : (results fn tmps).run P w = .ok (.tuple #[.agg vs.toArray, tmps.getD u undef]) w := by
  have h1 : (loadVar ty ⟨b, 0, none⟩).run P w = .ok (.agg vs.toArray) w := by
    unfold loadVar
    have := run_loadCells_list (P := P) w ⟨b, 0, none⟩ vs (fun j v hj => by rw [add_none, Nat.zero_add]; exact hb.cell j hj)
    rw [hl] at this
    simp [Sem.run_bind, ht.isAgg', ha, ht.size, this]
  rw [results_cell_tmp h]
  have hp2 : tmps[q]?.getD undef = .pointer (some ⟨b, 0, none⟩) := by rw [← hp]; simp
  simp [hp2, asAddr, h1, Result.andThen]
theorem ks_cell {w : World} {b i : Nat} (v : Value) {T : Nat → Prop} (hT : T b) : Ks T w (w.setCell ⟨b, i, none⟩ v) :=
  ⟨rfl, rfl, rfl, by simp [World.setCell], fun k _ hk => Below.heap_setCell w ⟨b, i, none⟩ v k (fun e => hk (by rw [e]; exact hT))⟩
theorem bx_set0 {w : World} {b : Nat} {T : TypeId} {u1 u2 : Value} (h : Bx w b T [u1, u2]) (v : Value) : Bx (w.setCell ⟨b, 0, none⟩ v) b T [v, u2] := by
  unfold Bx at *
  unfold World.setCell
  simp [Array.getElem?_modify, h]
theorem bx_set1 {w : World} {b : Nat} {T : TypeId} {u1 u2 : Value} (h : Bx w b T [u1, u2]) (v : Value) : Bx (w.setCell ⟨b, 1, none⟩ v) b T [u1, v] := by
  unfold Bx at *
  unfold World.setCell
  simp [Array.getElem?_modify, h]
set_option maxHeartbeats 4000000 in
set_option maxRecDepth 100000 in
theorem inverse_any (b i : Int) (w : World) :
    Calls Try.prog 8 #[.int .i64 b, .int .i64 i] w
      fun e w' => e = .returned (.tuple #[.agg #[.int .i64 (Sx.fi 72 0 [b, i]), .int .i64 (Sx.fi 72 1 [b, i])], .int .i64 (Sx.fi 72 2 [b, i])]) ∧ Gr w w' := by
  refine (callsIn_wide (n := 9)).1 ?_
  refine callsIn_of_wp_marks Try.func8 rfl trivial ?_ rfl
  simp only [Try.ntmps8, List.size_toArray, List.length_cons, List.length_nil, Nat.reduceAdd, Nat.reduceSub, Array.replicate_succ, Array.replicate_zero, List.push_toArray, List.append_toArray, List.nil_append, List.cons_append]
  have e0 : Sx.fi 72 0 [b, i] = if Sx.hok [b, i] then (Sx.hinv [b, i]).1 else 0 := rfl
  have e1 : Sx.fi 72 1 [b, i] = if Sx.hok [b, i] then (Sx.hinv [b, i]).2 else 0 := rfl
  have e2 : Sx.fi 72 2 [b, i] = if Sx.hok [b, i] then 0 else 1 := rfl
  rw [e0, e1, e2]
  clear e0 e1 e2
  have hok : Sx.hok [b, i] = (decide (2 ≤ b) && (decide (b ≤ 16) && (decide (0 ≤ i) && decide (i ≤ 65535)))) := rfl
  by_cases hg : 2 ≤ b ∧ b ≤ 16 ∧ 0 ≤ i ∧ i ≤ 65535
  · obtain ⟨hb2, hb16, hi0, hi1⟩ := hg
    have hk : Sx.hok [b, i] = true := by rw [hok]; simp; omega
    rw [hk]
    simp only [if_true]
    have hinv : Sx.hinv [b, i] = hA b i (nd b 17 i) := by show Sx.hI b 17 i (0, 1) = _; rw [hI_eq, hA_hB]
    rw [hinv]
    clear hok hk hinv
    have q1 : decide (b < 2) = false := by simp; omega
    have q2 : decide (16 < b) = false := by simp; omega
    have q3 : decide (i < 0) = false := by simp; omega
    have q4 : decide (65535 < i) = false := by simp; omega
    gi_wp2
    refine ⟨trivial, ?_⟩
    refine (callsIn_wide.2 (digits_any b i _)).mono ?_
    rintro e w4 ⟨rfl, hbb, hbi, hg4⟩
    simp only [World.size_alloc] at hbb hbi ⊢
    have bA : Bx w4 (w.heap.size + 1 + 1) 25 [.int .i64 0, .int .i64 1] := (Bx.new (w := (w.alloc (.cells #[.int .i64 b] 3)).alloc (.cells #[.int .i64 0, .int .i64 0] 25)) (vs := [.int .i64 0, .int .i64 1]) (by simp)).gr hg4
    have bR : Bx w4 (w.heap.size + 1) 25 [.int .i64 0, .int .i64 0] := ((Bx.new (w := w.alloc (.cells #[.int .i64 b] 3)) (vs := [.int .i64 0, .int .i64 0]) (by simp)).alloc _).gr hg4
    have bB : Bx w4 w.heap.size 3 [.int .i64 b] := (((Bx.new (w := w) (vs := [.int .i64 b]) rfl).alloc _).alloc _).gr hg4
    have g4 : Gr w w4 := ((((Gr.refl w).alloc _).alloc _).alloc _).trans hg4
    have G4 := Lib.hid g4; have BA := Lib.hid bA; have BR := Lib.hid bR; have BB := Lib.hid bB; have DB := Lib.hid hbb; have DI := Lib.hid hbi
    clear g4 bA bR bB hbb hbi hg4
    gi_wp2
    have dlt := DI.out.lt
    refine rf_law2 (n := 9) (gf := 24) (lb := #[.pointer (some ⟨w.heap.size + 1 + 1 + 1 + 1, 0, none⟩), .pointer (some ⟨w.heap.size + 1 + 1 + 1, 0, none⟩)]) rfl (enters_of Try.func24 (by kernel_rfl) rfl) (nd b 17 i) (PxD b i) (fun k => k = w.heap.size + 1 + 1) (fun k => k = w.heap.size + 1 + 1 + 1 + 1) ?hS ?hT ?hit
      (fun k W => Bx W (w.heap.size + 1 + 1) 25 [.int .i64 (hA b i k).1, .int .i64 (hA b i k).2] ∧ Bx W w.heap.size 3 [.int .i64 b] ∧ Bx W (w.heap.size + 1) 25 [.int .i64 0, .int .i64 0]) (fun _ _ => False) ?hI ?hIx ?hPx ?hsz ?h0
      (fun xs => { tmps := #[.int .i64 b, .int .i64 i, .pointer (some ⟨w.heap.size, 0, none⟩), undef, .pointer (some ⟨w.heap.size + 1, 0, none⟩), .int .i64 0, .pointer (some ⟨w.heap.size + 1 + 1, 0, none⟩), xs.getD 0 undef, .int .i64 b, .bool false, .bool false, .int .i64 b, .bool false, .bool false, .bool false, .int .i64 i, .bool false, .bool false, .bool false, .int .i64 i, .bool false, .bool false, undef, .agg #[.int .i64 0, .int .i64 1], .int .i64 b, .int .i64 i, .func (.func 24) #[] #[.pointer (some ⟨w.heap.size + 1 + 1 + 1 + 1, 0, none⟩), .pointer (some ⟨w.heap.size + 1 + 1 + 1, 0, none⟩)], xs.getD 0 undef, undef, undef, undef, undef, undef, undef, undef, undef, undef, undef, undef, undef, undef], defers := [] }) ?assign ?body ?done ?stop
    case hS => rintro k rfl; omega
    case hT => rintro k rfl; omega
    case hit => exact fun W1 hg1 hs1 => digits_iter b i _ _ _ _ W1 hb2 hb16 hi0 hi1 (DI.out.gr hg1) (DB.out.gr hg1) rfl (by omega) (by omega) (by omega)
    case hI => rintro k A B ⟨h1, h2, h3⟩ hk hs; have q1 := h1.lt; have q2 := h2.lt; exact ⟨h1.ks hk (by omega), h2.ks hk (by omega), h3.ks hk (by omega)⟩
    case hIx => rintro c A B h; exact h.elim
    case hPx => exact fun k xs A B h hk => h
    case hsz => rintro k xs A rfl; rfl
    case h0 => exact ⟨BA.out, BB.out, BR.out⟩
    case assign =>
      rintro l m k xs W K rfl hK
      gi_wp2
      exact hK
    case body =>
      rintro l m k xs W hk ⟨hA1, hB1, hR1⟩ rfl hks hsz
      obtain ⟨nz, npos⟩ := nd_ok hb2 17 i hi0 (by rw [show (2 : Int) ^ 17 = 131072 by decide]; omega)
      have hle := hA_le hb2 hi0 (npos k hk)
      obtain ⟨u1, u2, u3, u4⟩ := hA_bd hb2 hi0 k
      have eS : hA b i (k + 1) = ((hA b i k).1 * b + iN b i k % b, (hA b i k).2 * b) := rfl
      have m0 : 0 ≤ iN b i k % b := Int.emod_nonneg _ (by omega)
      have m1 : iN b i k % b < b := Int.emod_lt_of_pos _ (by omega)
      have e1 : (hA b i (k + 1)).1 = (hA b i k).1 * b + iN b i k % b := rfl
      have e2 : (hA b i (k + 1)).2 = (hA b i k).2 * b := rfl
      generalize (hA b i k).1 = n at *
      generalize (hA b i k).2 = d at *
      generalize iN b i k % b = r at *
      have p1 : n * b ≤ 65535 * 16 := Int.mul_le_mul (by omega) hb16 (by omega) (by omega)
      have p2 : d * b ≤ 65535 * 16 := Int.mul_le_mul (by omega) hb16 (by omega) (by omega)
      have p3 : 0 ≤ n * b := Int.mul_nonneg (by omega) (by omega)
      have p4 : 0 ≤ d * b := Int.mul_nonneg (by omega) (by omega)
      have w1 : IntKind.i64.wrap (n * b) = n * b := IntWalk.i64_in _ (by omega)
      have w2 : IntKind.i64.wrap (d * b) = d * b := IntWalk.i64_in _ (by omega)
      have w3 : IntKind.i64.wrap (n * b + r) = n * b + r := IntWalk.i64_in _ (by omega)
      have c0 := hA1.blk.cell 0 rfl; have c1 := hA1.blk.cell 1 rfl; have c2 := hB1.blk.cell 0 rfl
      have f0 := hA1.blk.free 0 rfl; have f1 := hA1.blk.free 1 rfl
      refine wpIn_block ?_
      have hv : Ks (fun k => k = w.heap.size + 1 + 1) W W.drew := ⟨rfl, rfl, rfl, Nat.le_refl _, fun _ _ _ => rfl⟩
      have hA2 : Bx W.drew (w.heap.size + 1 + 1) 25 [.int .i64 n, .int .i64 d] := hA1
      have hB2 : Bx W.drew w.heap.size 3 [.int .i64 b] := hB1
      have hR2 : Bx W.drew (w.heap.size + 1) 25 [.int .i64 0, .int .i64 0] := hR1
      refine wpIn_mono (Q := Sx.norm _) ?_ (fun e a w h => by cases e <;> first | exact h | exact h.elim)
      refine wpIn_region_any (by kernel_rfl) (Sx.any_in (Sx.norm_out _) (by kernel_rfl) _ (wpAny_of_held (S := fun w' => w'.cell? ⟨w.heap.size, 0, none⟩ = some (.int .i64 b)) _ _ _ _ ?_))
      show wpAnyH _ _ _ _ _ _ _ _ W.drew
      have hH : W.drew.cell? ⟨w.heap.size, 0, none⟩ = some (.int .i64 b) := c2
      clear c0 c1 c2 f0 f1
      have c0 := hA2.blk.cell 0 rfl; have c1 := hA2.blk.cell 1 rfl; have f0 := hA2.blk.free 0 rfl; have f1 := hA2.blk.free 1 rfl
      have HV := Lib.hid hv; have HA2 := Lib.hid hA2; have HB2 := Lib.hid hB2; have HR2 := Lib.hid hR2
      clear hv hA2 hB2 hR2 hA1 hB1 hR1
      generalize W.drew = V at *
      refine' wpAnyH_take (i := 0) (v := _) rfl (by kernel_rfl) (by kernel_rfl) (by kernel_rfl) (fun _ _ _ h => h) (Or.inl ⟨by rfl, ?y1⟩) (by assumption) ?_
      case y1 => (intro w hSw; (try dsimp only at hSw); go_simp; try with_reducible rfl)
      try simp only [Act.put, List.setIfInBounds_toArray, List.set_cons_zero, List.set_cons_succ, List.getElem_toArray, List.getElem_cons_succ, List.getElem_cons_zero]
      refine' wpAnyH_take (i := 2) (v := _) rfl (by kernel_rfl) (by kernel_rfl) (by kernel_rfl) (fun _ _ _ h => h) (Or.inl ⟨by rfl, ?y2⟩) (by assumption) ?_
      case y2 => (intro w hSw; (try dsimp only at hSw); go_simp; try with_reducible rfl)
      try simp only [Act.put, List.setIfInBounds_toArray, List.set_cons_zero, List.set_cons_succ, List.getElem_toArray, List.getElem_cons_succ, List.getElem_cons_zero]
      refine' wpAnyH_take (i := 4) (v := _) rfl (by kernel_rfl) (by kernel_rfl) (by kernel_rfl) (fun _ _ _ h => h) (Or.inl ⟨by rfl, ?y3⟩) (by assumption) ?_
      case y3 => (intro w hSw; (try dsimp only at hSw); go_simp; try with_reducible rfl)
      try simp only [Act.put, List.setIfInBounds_toArray, List.set_cons_zero, List.set_cons_succ, List.getElem_toArray, List.getElem_cons_succ, List.getElem_cons_zero]
      refine' wpAnyH_take (i := 6) (v := _) rfl (by kernel_rfl) (by kernel_rfl) (by kernel_rfl) (fun _ _ _ h => h) (Or.inl ⟨by rfl, ?y4⟩) (by assumption) ?_
      case y4 => (intro w hSw; (try dsimp only at hSw); go_simp; try with_reducible rfl)
      try simp only [Act.put, List.setIfInBounds_toArray, List.set_cons_zero, List.set_cons_succ, List.getElem_toArray, List.getElem_cons_succ, List.getElem_cons_zero]
      refine' wpAnyH_take (i := 8) (v := _) rfl (by kernel_rfl) (by kernel_rfl) (by kernel_rfl) (fun _ _ _ h => h) (Or.inl ⟨by rfl, ?y5⟩) (by assumption) ?_
      case y5 => (intro w hSw; (try dsimp only at hSw); go_simp; try with_reducible rfl)
      try simp only [Act.put, List.setIfInBounds_toArray, List.set_cons_zero, List.set_cons_succ, List.getElem_toArray, List.getElem_cons_succ, List.getElem_cons_zero]
      refine wpAnyH_ready (rs := [1, 7]) (by kernel_rfl) (by simp) ?_
      refine AllReadyH.cons rfl (fun K hK => ?_) (AllReadyH.cons rfl (fun K hK => ?_) AllReadyH.nil)
      · skip
        go_simp
        refine hK.out _ _ ?_ (fun hN => ?_)
        · exact hH
        clear hK K hH
        have hH := hN; clear hN
        try simp only [Act.put, List.setIfInBounds_toArray, List.set_cons_zero, List.set_cons_succ, List.getElem_toArray, List.getElem_cons_succ, List.getElem_cons_zero]
        refine' wpAnyH_take (i := 3) (v := _) rfl (by kernel_rfl) (by kernel_rfl) (by kernel_rfl) (fun _ _ _ h => h) (Or.inl ⟨by rfl, ?y6⟩) (by assumption) ?_
        case y6 => (intro w hSw; (try dsimp only at hSw); go_simp; try with_reducible rfl)
        try simp only [Act.put, List.setIfInBounds_toArray, List.set_cons_zero, List.set_cons_succ, List.getElem_toArray, List.getElem_cons_succ, List.getElem_cons_zero]
        refine' wpAnyH_take (i := 5) (v := _) rfl (by kernel_rfl) (by kernel_rfl) (by kernel_rfl) (fun _ _ _ h => h) (Or.inl ⟨by rfl, ?y7⟩) (by assumption) ?_
        case y7 => (intro w hSw; (try dsimp only at hSw); go_simp; try with_reducible rfl)
        try simp only [Act.put, List.setIfInBounds_toArray, List.set_cons_zero, List.set_cons_succ, List.getElem_toArray, List.getElem_cons_succ, List.getElem_cons_zero]
        refine wpAnyH_ready (rs := [7]) (by kernel_rfl) (by simp) ?_
        refine AllReadyH.cons rfl (fun K hK => ?_) AllReadyH.nil
        go_simp
        refine hK.out _ _ ?_ (fun hN => ?_)
        · exact hH
        clear hK K hH
        have hH := hN; clear hN
        try simp only [Act.put, List.setIfInBounds_toArray, List.set_cons_zero, List.set_cons_succ, List.getElem_toArray, List.getElem_cons_succ, List.getElem_cons_zero]
        refine' wpAnyH_take (i := 9) (v := _) rfl (by kernel_rfl) (by kernel_rfl) (by kernel_rfl) (fun _ _ _ h => h) (Or.inl ⟨by rfl, ?y8⟩) (by assumption) ?_
        case y8 => (intro w hSw; (try dsimp only at hSw); go_simp; try with_reducible rfl)
        try simp only [Act.put, List.setIfInBounds_toArray, List.set_cons_zero, List.set_cons_succ, List.getElem_toArray, List.getElem_cons_succ, List.getElem_cons_zero]
        refine' wpAnyH_take (i := 10) (v := _) rfl (by kernel_rfl) (by kernel_rfl) (by kernel_rfl) (fun _ _ _ h => h) (Or.inl ⟨by rfl, ?y9⟩) (by assumption) ?_
        case y9 => (intro w hSw; (try dsimp only at hSw); go_simp; try with_reducible rfl)
        try simp only [Act.put, List.setIfInBounds_toArray, List.set_cons_zero, List.set_cons_succ, List.getElem_toArray, List.getElem_cons_succ, List.getElem_cons_zero]
        refine wpAnyH_ready (rs := [11]) (by kernel_rfl) (by simp) ?_
        refine AllReadyH.cons rfl (fun K hK => ?_) AllReadyH.nil
        go_simp
        refine hK.out _ _ ?_ (fun hN => ?_)
        · exact (World.cell?_setCell_far _ _ _ _ (by simp; omega)).trans hH
        clear hK K hH
        have hH := hN; clear hN
        try simp only [Act.put, List.setIfInBounds_toArray, List.set_cons_zero, List.set_cons_succ, List.getElem_toArray, List.getElem_cons_succ, List.getElem_cons_zero]
        refine' wpAnyH_take (i := 12) (v := _) rfl (by kernel_rfl) (by kernel_rfl) (by kernel_rfl) (fun _ _ _ h => h) (Or.inl ⟨by rfl, ?y10⟩) (by assumption) ?_
        case y10 => (intro w hSw; (try dsimp only at hSw); go_simp; try with_reducible rfl)
        try simp only [Act.put, List.setIfInBounds_toArray, List.set_cons_zero, List.set_cons_succ, List.getElem_toArray, List.getElem_cons_succ, List.getElem_cons_zero]
        refine wpAnyH_ready (rs := [13]) (by kernel_rfl) (by simp) ?_
        refine AllReadyH.cons rfl (fun K hK => ?_) AllReadyH.nil
        go_simp
        refine hK.out _ _ ?_ (fun hN => ?_)
        · exact (World.cell?_setCell_far _ _ _ _ (by simp; omega)).trans hH
        clear hK K hH
        have hH := hN; clear hN
        try simp only [Act.put, List.setIfInBounds_toArray, List.set_cons_zero, List.set_cons_succ, List.getElem_toArray, List.getElem_cons_succ, List.getElem_cons_zero]
        refine wpAnyH_done (by kernel_rfl) ?_ _
        have hA5 := bx_set1 (bx_set0 HA2.out (.int .i64 (n * b + r))) (.int .i64 (d * b))
        have k2 : Ks (fun k => k = w.heap.size + 1 + 1) V ((V.setCell ⟨w.heap.size + 1 + 1, 0, none⟩ (.int .i64 (n * b + r))).setCell ⟨w.heap.size + 1 + 1, 1, none⟩ (.int .i64 (d * b))) := Ks.trans (ks_cell (T := fun k => k = w.heap.size + 1 + 1) _ (show w.heap.size + 1 + 1 = w.heap.size + 1 + 1 from rfl)) (ks_cell (T := fun k => k = w.heap.size + 1 + 1) _ (show w.heap.size + 1 + 1 = w.heap.size + 1 + 1 from rfl))
        have hA6 : Bx ((V.setCell ⟨w.heap.size + 1 + 1, 0, none⟩ (.int .i64 (n * b + r))).setCell ⟨w.heap.size + 1 + 1, 1, none⟩ (.int .i64 (d * b))) (w.heap.size + 1 + 1) 25 [.int .i64 (hA b i (k + 1)).1, .int .i64 (hA b i (k + 1)).2] := by rw [e1, e2]; exact hA5
        have hN := And.intro (HV.out.trans k2) (And.intro hA6 (And.intro (HB2.out.ks k2 (by omega)) (HR2.out.ks k2 (by omega))))
        exact hN
      · skip
        go_simp
        refine hK.out _ _ ?_ (fun hN => ?_)
        · exact hH
        clear hK K hH
        have hH := hN; clear hN
        try simp only [Act.put, List.setIfInBounds_toArray, List.set_cons_zero, List.set_cons_succ, List.getElem_toArray, List.getElem_cons_succ, List.getElem_cons_zero]
        refine' wpAnyH_take (i := 9) (v := _) rfl (by kernel_rfl) (by kernel_rfl) (by kernel_rfl) (fun _ _ _ h => h) (Or.inl ⟨by rfl, ?y11⟩) (by assumption) ?_
        case y11 => (intro w hSw; (try dsimp only at hSw); go_simp; try with_reducible rfl)
        try simp only [Act.put, List.setIfInBounds_toArray, List.set_cons_zero, List.set_cons_succ, List.getElem_toArray, List.getElem_cons_succ, List.getElem_cons_zero]
        refine wpAnyH_ready (rs := [1]) (by kernel_rfl) (by simp) ?_
        refine AllReadyH.cons rfl (fun K hK => ?_) AllReadyH.nil
        go_simp
        refine hK.out _ _ ?_ (fun hN => ?_)
        · exact hH
        clear hK K hH
        have hH := hN; clear hN
        try simp only [Act.put, List.setIfInBounds_toArray, List.set_cons_zero, List.set_cons_succ, List.getElem_toArray, List.getElem_cons_succ, List.getElem_cons_zero]
        refine' wpAnyH_take (i := 3) (v := _) rfl (by kernel_rfl) (by kernel_rfl) (by kernel_rfl) (fun _ _ _ h => h) (Or.inl ⟨by rfl, ?y12⟩) (by assumption) ?_
        case y12 => (intro w hSw; (try dsimp only at hSw); go_simp; try with_reducible rfl)
        try simp only [Act.put, List.setIfInBounds_toArray, List.set_cons_zero, List.set_cons_succ, List.getElem_toArray, List.getElem_cons_succ, List.getElem_cons_zero]
        refine' wpAnyH_take (i := 5) (v := _) rfl (by kernel_rfl) (by kernel_rfl) (by kernel_rfl) (fun _ _ _ h => h) (Or.inl ⟨by rfl, ?y13⟩) (by assumption) ?_
        case y13 => (intro w hSw; (try dsimp only at hSw); go_simp; try with_reducible rfl)
        try simp only [Act.put, List.setIfInBounds_toArray, List.set_cons_zero, List.set_cons_succ, List.getElem_toArray, List.getElem_cons_succ, List.getElem_cons_zero]
        refine' wpAnyH_take (i := 10) (v := _) rfl (by kernel_rfl) (by kernel_rfl) (by kernel_rfl) (fun _ _ _ h => h) (Or.inl ⟨by rfl, ?y14⟩) (by assumption) ?_
        case y14 => (intro w hSw; (try dsimp only at hSw); go_simp; try with_reducible rfl)
        try simp only [Act.put, List.setIfInBounds_toArray, List.set_cons_zero, List.set_cons_succ, List.getElem_toArray, List.getElem_cons_succ, List.getElem_cons_zero]
        refine wpAnyH_ready (rs := [11]) (by kernel_rfl) (by simp) ?_
        refine AllReadyH.cons rfl (fun K hK => ?_) AllReadyH.nil
        go_simp
        refine hK.out _ _ ?_ (fun hN => ?_)
        · exact (World.cell?_setCell_far _ _ _ _ (by simp; omega)).trans hH
        clear hK K hH
        have hH := hN; clear hN
        try simp only [Act.put, List.setIfInBounds_toArray, List.set_cons_zero, List.set_cons_succ, List.getElem_toArray, List.getElem_cons_succ, List.getElem_cons_zero]
        refine' wpAnyH_take (i := 12) (v := _) rfl (by kernel_rfl) (by kernel_rfl) (by kernel_rfl) (fun _ _ _ h => h) (Or.inl ⟨by rfl, ?y15⟩) (by assumption) ?_
        case y15 => (intro w hSw; (try dsimp only at hSw); go_simp; try with_reducible rfl)
        try simp only [Act.put, List.setIfInBounds_toArray, List.set_cons_zero, List.set_cons_succ, List.getElem_toArray, List.getElem_cons_succ, List.getElem_cons_zero]
        refine wpAnyH_ready (rs := [13]) (by kernel_rfl) (by simp) ?_
        refine AllReadyH.cons rfl (fun K hK => ?_) AllReadyH.nil
        go_simp
        refine hK.out _ _ ?_ (fun hN => ?_)
        · exact (World.cell?_setCell_far _ _ _ _ (by simp; omega)).trans hH
        clear hK K hH
        have hH := hN; clear hN
        try simp only [Act.put, List.setIfInBounds_toArray, List.set_cons_zero, List.set_cons_succ, List.getElem_toArray, List.getElem_cons_succ, List.getElem_cons_zero]
        refine wpAnyH_done (by kernel_rfl) ?_ _
        have hA5 := bx_set1 (bx_set0 HA2.out (.int .i64 (n * b + r))) (.int .i64 (d * b))
        have k2 : Ks (fun k => k = w.heap.size + 1 + 1) V ((V.setCell ⟨w.heap.size + 1 + 1, 0, none⟩ (.int .i64 (n * b + r))).setCell ⟨w.heap.size + 1 + 1, 1, none⟩ (.int .i64 (d * b))) := Ks.trans (ks_cell (T := fun k => k = w.heap.size + 1 + 1) _ (show w.heap.size + 1 + 1 = w.heap.size + 1 + 1 from rfl)) (ks_cell (T := fun k => k = w.heap.size + 1 + 1) _ (show w.heap.size + 1 + 1 = w.heap.size + 1 + 1 from rfl))
        have hA6 : Bx ((V.setCell ⟨w.heap.size + 1 + 1, 0, none⟩ (.int .i64 (n * b + r))).setCell ⟨w.heap.size + 1 + 1, 1, none⟩ (.int .i64 (d * b))) (w.heap.size + 1 + 1) 25 [.int .i64 (hA b i (k + 1)).1, .int .i64 (hA b i (k + 1)).2] := by rw [e1, e2]; exact hA5
        have hN := And.intro (HV.out.trans k2) (And.intro hA6 (And.intro (HB2.out.ks k2 (by omega)) (HR2.out.ks k2 (by omega))))
        exact hN
    case done =>
      rintro W ⟨hA1, hB1, hR1⟩ hks hK
      have c0 := hA1.blk.cell 0 rfl; have c1 := hA1.blk.cell 1 rfl
      have r0 := hR1.blk.cell 0 rfl; have r1 := hR1.blk.cell 1 rfl
      have f0 := hR1.blk.free 0 rfl; have f1 := hR1.blk.free 1 rfl
      gi_wp2
      have hs4 : w.heap.size + 1 + 1 < w4.heap.size := by omega
      have hK2 : ((W.setCell ⟨w.heap.size + 1, 0, none⟩ (.int .i64 (hA b i (nd b 17 i)).fst)).setCell ⟨w.heap.size + 1, 1, none⟩ (.int .i64 (hA b i (nd b 17 i)).snd)).heap[w4.heap.size]? = some (.deferred (some [])) := by
        refine (Below.heap_setCell _ _ _ _ ?_).trans ((Below.heap_setCell _ _ _ _ ?_).trans hK) <;> simp <;> omega
      refine ⟨by simp, .inl ⟨_, _, rfl, run_takeDeferred hK2, ?_⟩⟩
      have hb := Blk.ks (hR1.blk.set2 (.int .i64 (hA b i (nd b 17 i)).fst) (.int .i64 (hA b i (nd b 17 i)).snd)) (Ks.put (S := fun k => k = w4.heap.size) rfl (.deferred none)) (by omega)
      refine ⟨_, results_blk_tmp rfl Sx.ty25 rfl rfl hb rfl, rfl, ?_⟩
      have k1 : Ks (fun k => w.heap.size ≤ k) w4 W := hks.mono (fun k h => by omega)
      have k2 := ((k1.trans (ks_cell (i := 0) (.int .i64 (hA b i (nd b 17 i)).fst) (show w.heap.size ≤ w.heap.size + 1 by omega))).trans (ks_cell (i := 1) (.int .i64 (hA b i (nd b 17 i)).snd) (show w.heap.size ≤ w.heap.size + 1 by omega))).trans (Ks.put (show w.heap.size ≤ w4.heap.size by omega) (.deferred none))
      exact k2.gr G4.out (fun k hk => by omega)
    case stop => rintro c W h; exact h.elim
  · have hk : Sx.hok [b, i] = false := by rw [hok]; simp; omega
    rw [hk]
    simp only [Bool.false_eq_true, if_false]
    clear hok hk
    by_cases q1 : b < 2
    · have q1 : decide (b < 2) = true := by simp; omega
      gi_wp2
      refine ⟨_, results_blk_tmp rfl Sx.ty25 rfl rfl (Blk.new (vs := [.int .i64 0, .int .i64 0]) (by simp)) rfl, rfl, ?_⟩
      exact ((Gr.refl w).alloc _).alloc _
    · have h1 : decide (b < 2) = false := by simp; omega
      by_cases q2 : 16 < b
      · have h2 : decide (16 < b) = true := by simp; omega
        gi_wp2
        refine ⟨_, results_blk_tmp rfl Sx.ty25 rfl rfl (Blk.new (vs := [.int .i64 0, .int .i64 0]) (by simp)) rfl, rfl, ?_⟩
        exact ((Gr.refl w).alloc _).alloc _
      · have h2 : decide (16 < b) = false := by simp; omega
        by_cases q3 : i < 0
        · have h3 : decide (i < 0) = true := by simp; omega
          gi_wp2
          refine ⟨_, results_blk_tmp rfl Sx.ty25 rfl rfl (Blk.new (vs := [.int .i64 0, .int .i64 0]) (by simp)) rfl, rfl, ?_⟩
          exact ((Gr.refl w).alloc _).alloc _
        · have h3 : decide (i < 0) = false := by simp; omega
          have h4 : decide (65535 < i) = true := by simp; omega
          gi_wp2
          refine ⟨_, results_blk_tmp rfl Sx.ty25 rfl rfl (Blk.new (vs := [.int .i64 0, .int .i64 0]) (by simp)) rfl, rfl, ?_⟩
          exact ((Gr.refl w).alloc _).alloc _
end Mt
end Go.Proofs.Ytndnjjeildnhdaa
