/- Chapter 23: the digits' iterator, walked. -/
import Derived.Test.YtndnjjeildnhdaaDa
set_option linter.unusedVariables false
set_option linter.unusedSimpArgs false
namespace Go.Proofs.Ytndnjjeildnhdaa
open Go.RowKit Go.Shelf
attribute [local go_sem] Oper.semAt_some
namespace Mt
theorem bx_set {w : World} {b : Nat} {T : TypeId} {u : Value} (h : Bx w b T [u]) (v : Value) : Bx (w.setCell ⟨b, 0, none⟩ v) b T [v] := by
  unfold Bx at *
  unfold World.setCell
  simp [Array.getElem?_modify, h]
theorem bx_set_other {w : World} {b c : Nat} {T : TypeId} {vs : List Value} (h : Bx w b T vs) (hne : b ≠ c) (v : Value) : Bx (w.setCell ⟨c, 0, none⟩ v) b T vs :=
  (Below.heap_setCell w ⟨c, 0, none⟩ v b hne).trans h
theorem ks_set {w : World} {b : Nat} (v : Value) {T : Nat → Prop} (hT : T b) : Ks T w (w.setCell ⟨b, 0, none⟩ v) :=
  ⟨rfl, rfl, rfl, by simp [World.setCell], fun k _ hk => Below.heap_setCell w ⟨b, 0, none⟩ v k (fun e => hk (by rw [e]; exact hT))⟩
set_option maxHeartbeats 4000000 in
set_option maxRecDepth 100000 in
theorem digits1_in (n l ib bb : Nat) (b i : Int) (S T : Nat → Prop) (W : World) (J : Nat → World → Prop) (Jx : World → Prop) (hJ : ∀ k A B, J k A → Ks T A B → W.heap.size ≤ A.heap.size → J k B)
    (hY : ∀ k W1, k < nd b 17 i → J k W1 → YieldAt Fence.wide (n - 1) Try.prog l #[.int .i64 (iN b i k % b)] W1 fun e W' => (e = .returned (.bool true) ∧ J (k + 1) W' ∧ Ks S W1 W') ∨ (e = .returned (.bool false) ∧ Jx W'))
    (hb2 : 2 ≤ b) (hb16 : b ≤ 16) (hi0 : 0 ≤ i) (hi1 : i ≤ 65535) (hI : Bx W ib 3 [.int .i64 i]) (hB : Bx W bb 3 [.int .i64 b]) (hT : T ib) (hSi : ¬ S ib) (hSb : ¬ S bb) (hne : ib ≠ bb) (h0 : J 0 W) :
    CallsIn Fence.wide n Try.prog 24 #[.func (.yield l) #[] #[], .pointer (some ⟨ib, 0, none⟩), .pointer (some ⟨bb, 0, none⟩)] W fun e W' => (∃ v, e = .returned v) ∧ (J (nd b 17 i) W' ∨ Jx W') := by
  have h17 : (2 : Int) ^ 17 = 131072 := by decide
  obtain ⟨hz, hpos⟩ := nd_ok hb2 17 i hi0 (by rw [h17]; omega)
  clear h17
  refine callsIn_of_wp Try.func24 rfl trivial ?_ rfl
  simp only [Try.ntmps24, List.size_toArray, List.length_cons, List.length_nil, Nat.reduceAdd, Nat.reduceSub, Array.replicate_succ, Array.replicate_zero, List.push_toArray, List.append_toArray, List.nil_append, List.cons_append]
  generalize nd b 17 i = N at *
  have HY := Lib.hid hY; have HJ := Lib.hid hJ; have HBI := Lib.hid hI; have HBB := Lib.hid hB; have H0 := Lib.hid h0; have HZ := Lib.hid hz; have HP := Lib.hid hpos; have HT := Lib.hid hT; have HSI := Lib.hid hSi; have HSB := Lib.hid hSb
  clear hY hJ hI hB h0 hz hpos hT hSi hSb
  gi_wp2
  gi_loopw [4] (fun v4 wr => ∃ k : Nat, k ≤ N ∧ Bx wr ib 3 [.int .i64 (iN b i k)] ∧ Bx wr bb 3 [.int .i64 b] ∧ J k wr ∧ W.heap.size ≤ wr.heap.size) (fun _ wr => (intOf ((wr.cell? ⟨ib, 0, none⟩).getD undef)).toNat)
  case atStart => exact ⟨0, Nat.zero_le _, HBI.out, HBB.out, H0.out, Nat.le_refl _⟩
  case round =>
    obtain ⟨k, hk, hbi, hbb, hjk, hsz⟩ := hrel
    by_cases hlt : k < N
    · have hp := HP.out k hlt
      obtain ⟨hbd0, hbd1⟩ := iN_bd hb2 hi0 k
      obtain ⟨fn, tmps, assign, body, hy, hR⟩ := HY.out k wr hlt hjk
      have c0 := hbi.blk.cell 0 rfl; have c1 := hbb.blk.cell 0 rfl
      have HBI := Lib.hid hbi; have HBB := Lib.hid hbb
      have e1 : iN b i (k + 1) = iN b i k / b := rfl
      have hlt2 : iN b i k / b < iN b i k := by
        have h1 : iN b i k / b * 2 ≤ iN b i k / b * b := Int.mul_le_mul_of_nonneg_left hb2 (Int.ediv_nonneg hbd0 (by omega))
        have h2 : iN b i k / b * b ≤ iN b i k := Int.ediv_mul_le _ (by omega)
        have h3 : 0 ≤ iN b i k / b := Int.ediv_nonneg hbd0 (by omega)
        omega
      have hq0 : 0 ≤ iN b i k / b := Int.ediv_nonneg hbd0 (by omega)
      have ht1 : (iN b i k).tdiv b = iN b i k / b := Int.tdiv_eq_ediv_of_nonneg hbd0
      have ht2 : (iN b i k).tmod b = iN b i k % b := Int.tmod_eq_emod_of_nonneg hbd0
      have ht3 : IntKind.i64.wrap (iN b i k / b) = iN b i k / b := IntWalk.i64_in _ (by omega)
      have hm0 : 0 ≤ iN b i k % b := Int.emod_nonneg _ (by omega)
      have hm1 : iN b i k % b < b := Int.emod_lt_of_pos _ (by omega)
      have ht4 : IntKind.i64.wrap (iN b i k % b) = iN b i k % b := IntWalk.i64_in _ (by omega)
      have hb0 : ¬ b = 0 := by omega
      have E1 := Lib.hid e1
      clear hbi hbb hjk e1
      generalize hx : iN b i k = x at *
      have HX := Lib.hid hx
      clear hx
      gi_wp2
      refine ⟨(fun h => by cases h), ?_⟩
      refine hR.mono ?_
      rintro e W3 (⟨rfl, hJ3, hk3⟩ | ⟨rfl, hJx3⟩)
      · clear hy hR c0 c1
        have hbi3 : Bx W3 ib 3 [.int .i64 x] := HBI.out.ks hk3 HSI.out
        have hbb3 : Bx W3 bb 3 [.int .i64 b] := HBB.out.ks hk3 HSB.out
        have c0 := hbi3.blk.cell 0 rfl; have c1 := hbb3.blk.cell 0 rfl; have f0 := hbi3.blk.free 0 rfl
        have hs3 : W.heap.size ≤ W3.heap.size := by have := hk3.size; omega
        have hset : Bx (W3.setCell ⟨ib, 0, none⟩ (.int .i64 (x / b))) ib 3 [.int .i64 (iN b i (k + 1))] := by rw [E1.out]; exact bx_set hbi3 _
        have hset2 : Bx (W3.setCell ⟨ib, 0, none⟩ (.int .i64 (x / b))) bb 3 [.int .i64 b] := bx_set_other hbb3 (Ne.symm hne) _
        have hjs : J (k + 1) (W3.setCell ⟨ib, 0, none⟩ (.int .i64 (x / b))) := HJ.out _ _ _ hJ3 (ks_set _ HT.out) hs3
        have hmeas : (intOf (((W3.setCell ⟨ib, 0, none⟩ (.int .i64 (x / b))).cell? ⟨ib, 0, none⟩).getD undef)).toNat < (intOf ((wr.cell? ⟨ib, 0, none⟩).getD undef)).toNat := by
          rw [hset.blk.cell 0 rfl, HBI.out.blk.cell 0 rfl, E1.out]
          simp [intOf]; omega
        have hsz3 : W.heap.size ≤ (W3.setCell ⟨ib, 0, none⟩ (.int .i64 (x / b))).heap.size := by simpa [World.setCell] using hs3
        have H1 := Lib.hid hset; have H2 := Lib.hid hset2; have H3 := Lib.hid hjs; have H4 := Lib.hid hmeas; have H5 := Lib.hid hsz3
        clear hset hset2 hjs hmeas hsz3 hbi3 hbb3 hJ3 hk3
        gi_wp2
        go_roundw
        case rel => exact ⟨k + 1, by omega, H1.out, H2.out, H3.out, H5.out⟩
        case measure => exact H4.out
      · clear hy hR
        gi_wp2
        refine bodyPost_ret (results_none rfl _ _ _) rfl ?_
        exact ⟨⟨_, rfl⟩, .inr hJx3⟩
    · have hkn : k = N := by omega
      subst hkn
      rw [HZ.out] at hbi
      have c0 := hbi.blk.cell 0 rfl
      have HJK := Lib.hid hjk
      clear hjk
      gi_wp2
      go_end0
      exact ⟨⟨_, rfl⟩, .inl HJK.out⟩
/-- The digits as an iterator. -/
def PxD (b i : Int) (k : Nat) (xs : Array Value) (W : World) : Prop := xs = #[.int .i64 (iN b i k % b)]
theorem digits_iter (b i : Int) (ib bb : Nat) (S T : Nat → Prop) (W : World) (hb2 : 2 ≤ b) (hb16 : b ≤ 16) (hi0 : 0 ≤ i) (hi1 : i ≤ 65535) (hI : Bx W ib 3 [.int .i64 i]) (hB : Bx W bb 3 [.int .i64 b]) (hT : T ib) (hSi : ¬ S ib) (hSb : ¬ S bb) (hne : ib ≠ bb) :
    IterOk2 Try.prog 24 #[.pointer (some ⟨ib, 0, none⟩), .pointer (some ⟨bb, 0, none⟩)] (nd b 17 i) (PxD b i) S T W :=
  fun n l J Jx hJ hY h0 => digits1_in n l ib bb b i S T W J Jx hJ (fun k W1 hk hj => hY k _ W1 hk hj rfl) hb2 hb16 hi0 hi1 hI hB hT hSi hSb hne h0
theorem digits_any (b i : Int) (w : World) :
    Calls Try.prog 19 #[.int .i64 b, .int .i64 i] w
      fun e w' => e = .returned (.func (.func 24) #[] #[.pointer (some ⟨w.heap.size + 1, 0, none⟩), .pointer (some ⟨w.heap.size, 0, none⟩)]) ∧ Bx w' w.heap.size 3 [.int .i64 b] ∧ Bx w' (w.heap.size + 1) 3 [.int .i64 i] ∧ Gr w w' := by
  go_enter Try.func19, Try.ntmps19
  go_wp2
  go_ret
  exact ⟨rfl, (Bx.new (vs := [.int .i64 b]) rfl).alloc _, Bx.new (vs := [.int .i64 i]) (by simp), ((Gr.refl w).alloc _).alloc _⟩
end Mt
end Go.Proofs.Ytndnjjeildnhdaa
