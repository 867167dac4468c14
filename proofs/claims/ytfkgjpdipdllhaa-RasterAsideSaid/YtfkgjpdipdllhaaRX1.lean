/- Texts that stood alone before, in one. -/
import Derived.Test.YtfkgjpdipdllhaaKt
import Derived.Test.YtfkgjpdipdllhaaC0
import Derived.Laws.CopyOwn
import Derived.Laws.Bits64b
import Derived.Deep.RegionLaw
import Derived.Deep.RegionHeld3
import Derived.Deep.DrawnRows
import Derived.RangeFuncLeaves
import Derived.Test.YtfkgjpdipdllhaaRQ3
/- Go's slices.Repeat over one number, walked (and math/bits.Mul beneath it). -/
set_option linter.unusedVariables false
set_option linter.unusedSimpArgs false
namespace Go.Proofs.Ytfkgjpdipdllhaa
open Go.RowKit
namespace Mt
theorem maskN (a : Nat) (ha : a < 18446744073709551616) : bits .and .u64 (a : Int) 4294967295 = ((a % 4294967296 : Nat) : Int) := by
  have h := bits_and_u64_nat a 4294967295 ha (by omega)
  have e : a &&& 4294967295 = a % 4294967296 := Nat.and_two_pow_sub_one_eq_mod a 32
  rw [e] at h
  exact h
theorem wrapU (a : Nat) (ha : a < 18446744073709551616) : IntKind.u64.wrap (a : Int) = (a : Int) := by rw [IntKind.wrap_u64]; omega
set_option maxHeartbeats 1000000 in
theorem mul64_one (y : Nat) (hy : y ≤ 65536) (w : World) : Calls Try.prog 45 #[.int .u64 1, .int .u64 y] w fun e w' => e = .returned (.tuple #[.int .u64 0, .int .u64 y]) ∧ w = w' := by
  have m1 : bits .and .u64 (1 : Int) 4294967295 = 1 := by have := maskN 1 (by omega); simpa using this
  have m2 : bits .and .u64 (y : Int) 4294967295 = (y : Int) := by rw [maskN y (by omega), Nat.mod_eq_of_lt (by omega)]
  have m0 : bits .and .u64 (0 : Int) 4294967295 = 0 := by have := maskN 0 (by omega); simpa using this
  have d2 : (y : Int) / 4294967296 = 0 := by omega
  have w2 : IntKind.u64.wrap (y : Int) = (y : Int) := wrapU y (by omega)
  go_enter Try.func45, Try.ntmps45
  go_wp2
  go_ret2
  exact ⟨rfl, rfl⟩
set_option maxHeartbeats 1000000 in
theorem mul_one (y : Nat) (hy : y ≤ 65536) (w : World) : Calls Try.prog 33 #[.int .u64 1, .int .u64 y] w fun e w' => e = .returned (.tuple #[.int .u64 0, .int .u64 y]) ∧ w = w' := by
  go_enter Try.func33, Try.ntmps33
  go_wp2_with fail
  refine (mul64_one y hy _).mono ?_
  rintro e w' ⟨rfl, rfl⟩
  go_wp2_with fail
  go_ret2
  exact ⟨rfl, rfl⟩
theorem own_bx {w : World} {base : Nat} {e : TypeId} {g n : Nat} {xs : List Value} (h : w.ownsRow base e 1 (.slice (some ⟨g, 0, none⟩) n n) n xs) : Bx w g e xs := by
  rcases h.2 with ⟨hv, _⟩ | ⟨g', cap', cur, hv, hb, hh, hc, hs, ht⟩
  · cases hv
  · injection hv with h1 h2 h3
    injection h1 with h1; injection h1 with h1
    subst h1 h3
    have e1 : cur.toList = xs := by
      rw [← ht.2, List.take_of_length_le (by simp; omega)]
    unfold Bx
    rw [hh, ← e1]
theorem infoI : (Try.prog.info? 3).map (fun i => (i.zero, i.size, i.bytes)) = some (some (.int .i64 0), 1, 8) := by kernel_rfl
theorem info_parts {P : Program} {t : TypeId} {z : Value} {s b : Nat} (h : (P.info? t).map (fun i => (i.zero, i.size, i.bytes)) = some (some z, s, b)) : ∃ i, P.info? t = some i ∧ i.zero = some z ∧ i.size = s ∧ i.bytes = b := by
  cases hi : P.info? t with
  | none => rw [hi] at h; cases h
  | some i => rw [hi] at h; simp at h; exact ⟨i, rfl, h.1, h.2.1, h.2.2⟩
/-- The first n of M numbers are v. -/
def fill (v : Int) (M n : Nat) : List Value := List.replicate n (.int .i64 v) ++ List.replicate (M - n) (.int .i64 0)
theorem fill_splice (v : Int) {M n k : Nat} (hn : n + k ≤ M) : splice (fill v M n) n (List.replicate k (.int .i64 v)) = fill v M (n + k) := by
  unfold splice fill
  have e1 : (List.replicate n (Value.int .i64 v) ++ List.replicate (M - n) (Value.int .i64 0)).take n = List.replicate n (.int .i64 v) := by
    rw [List.take_append_of_le_length (by simp)]; simp
  have e2 : (List.replicate n (Value.int .i64 v) ++ List.replicate (M - n) (Value.int .i64 0)).drop (n + k) = List.replicate (M - (n + k)) (.int .i64 0) := by
    rw [List.drop_append]
    simp
    omega
  simp only [List.length_replicate]
  rw [e1, e2, ← List.append_assoc, List.replicate_append_replicate]
theorem fill_len (v : Int) {M n : Nat} (h : n ≤ M) : (fill v M n).length = M := by unfold fill; simp; omega
theorem fill_get (v : Int) {M n j : Nat} (h : j < n) : (fill v M n)[j]? = some (.int .i64 v) := by
  unfold fill
  rw [List.getElem?_append_left (by simpa using h)]
  simp [List.getElem?_replicate, h]
theorem rep_get {α : Type} {v u : α} {k j : Nat} (h : (List.replicate k v)[j]? = some u) : j < k ∧ u = v := by
  rw [List.getElem?_replicate] at h
  split at h
  · rename_i hj; simp at h; exact ⟨hj, h.symm⟩
  · cases h
set_option maxHeartbeats 4000000 in
set_option maxRecDepth 100000 in
theorem repeat_any (v : Int) (M : Nat) (h1 : 1 ≤ M) (h2 : M ≤ 65536) (ba : Nat) (w : World) (hx : Bx w ba 3 [.int .i64 v]) :
    Calls Try.prog 23 #[.slice (some ⟨ba, 0, none⟩) 1 1, .int .i64 M] w fun e w' => ∃ g, e = .returned (.slice (some ⟨g, 0, none⟩) M M) ∧ Bx w' g 3 (List.replicate M (.int .i64 v)) ∧ w.heap.size ≤ g ∧ Gr w w' := by
  obtain ⟨i0, hi, hz0, hz1, hz2⟩ := info_parts infoI
  have hsz : (Try.prog.info? 3).map (·.size) = some 1 := by rw [hi]; simp [hz1]
  have d1 : decide ((M : Int) < 0) = false := by simp
  have u1 : IntKind.u64.wrap (M : Int) = (M : Int) := wrapU M (by omega)
  have d2 : decide ((9223372036854775807 : Int) < (M : Int)) = false := by simp; omega
  have HX := Lib.hid hx
  clear hx
  go_enter Try.func23, Try.ntmps23
  go_wp2_with fail
  refine (mul_one M h2 _).mono ?_
  rintro e w' ⟨rfl, rfl⟩
  go_wp2_with (first | (refine wpList_make_full _ rfl (.tmp 29) (.tmp 29) 25 rfl w.heap.size 3 i0 (.int .i64 0) 1 Try.underlying25 hi hz0 hz1 .i64 .i64 _ _ M rfl rfl ?c1 ?c2 ?c3 ?c4 ?c5 ?_))
  case c1 => rfl
  case c2 => rfl
  case c3 => first | omega | (rw [hz2]; omega)
  case c4 => unfold maxLen; omega
  try case c5 => simp
  intro w1 hown hgrow
  have hG : Gr w w1 := Below.grown (Gr.refl _) hgrow (Nat.le_refl _) (fun k hk => by simp at hk)
  have hB : Bx w1 w.heap.size 3 (fill v M 0) := by
    have := own_bx hown
    rw [toList_madeCells_one] at this
    simpa [fill] using this
  have hX1 := HX.out.gr hG
  have HG := Lib.hid hG; have HB := Lib.hid hB; have HX1 := Lib.hid hX1
  clear hown hgrow hG hB hX1
  have hs1 : splice (fill v M 0) 0 [.int .i64 v] = fill v M 1 := by have := fill_splice v (M := M) (n := 0) (k := 1) (by omega); simpa using this
  have HS1 := Lib.hid hs1
  clear hs1
  go_wp2_with (first | (refine wpList_copy_splice rfl (.tmp 31) (.tmp 32) 25 25 rfl 3 Try.underlying25 hsz _ _ _ _ _ _ rfl rfl w.heap.size 0 (fill v M 0) 3 HB.out [.int .i64 v] ?d1 ?d2 ?d3 ?d4 w.heap.size w HG.out (Nat.le_refl _) ?_))
  case d1 => exact (Nat.min_eq_left h1).symm
  case d2 =>
    intro j u hj
    match j, hj with
    | 0, hj => simp at hj; subst hj; exact HX1.out.blk.cell 0 rfl
  case d3 => rw [fill_len v (by omega)]; simp; omega
  case d4 => intro z hz; simp at hz; subst hz; rfl
  intro w2 hb2 hg2
  rw [HS1.out] at hb2
  have HG2 := Lib.hid hg2
  clear hg2
  go_wp2_with fail
  go_loopw [8] (fun v8 wr => ∃ n : Nat, 1 ≤ n ∧ n ≤ M ∧ v8 = .int .i64 n ∧ Bx wr w.heap.size 3 (fill v M n) ∧ Below w.heap.size w wr) (fun v8 _ => M - (intOf v8).toNat)
  case atStart => exact ⟨1, by omega, by omega, rfl, hb2, HG2.out⟩
  case round =>
    clear hb2
    obtain ⟨n, hn1, hn2, rfl, hb, hg⟩ := hrel
    have HBB := Lib.hid hb; have HGG := Lib.hid hg
    clear hb hg
    by_cases hlt : n < M
    · have b1 : (0 : Int) ≤ (n : Int) := by omega
      have b2 : (n : Int) ≤ (M : Int) := by omega
      have b3 : ¬ M = n := by omega
      have hk : (List.replicate (min n (M - n)) (Value.int .i64 v)).length = Nat.min n (M - n) := by simp
      have hsp := fill_splice v (M := M) (n := n) (k := min n (M - n)) (by omega)
      have hfl : n + (List.replicate (min n (M - n)) (Value.int .i64 v)).length ≤ (fill v M n).length := by rw [fill_len v hn2]; simp; omega
      have HSP := Lib.hid hsp; have HK := Lib.hid hk; have HFL := Lib.hid hfl
      clear hsp hk hfl
      have hcell : ∀ j u, (List.replicate (min n (M - n)) (Value.int .i64 v))[j]? = some u → wr.drew.cell? ((⟨w.heap.size, 0, none⟩ : Addr).add j) = some u := by
        intro j u hj
        obtain ⟨hj', rfl⟩ := rep_get hj
        rw [add_none, Nat.zero_add]
        exact HBB.out.blk.cell j (fill_get v (by omega))
      have HC := Lib.hid hcell
      clear hcell
      go_wp2_with fail
      go_region_law (refine step_copy_splice (by rfl) (.tmp 41) (.tmp 44) 25 25 (by rfl) 3 Try.underlying25 hsz _ _ _ _ _ _ (by rfl) (by rfl) w.heap.size n (fill v M n) 3 (show wr.drew.heap[w.heap.size]? = _ from HBB.out) (List.replicate (min n (M - n)) (.int .i64 v)) HK.out (fun _ => ⟨by first | rfl | simp, ⟨w.heap.size, 0, none⟩, by first | rfl | simp, HC.out⟩) HFL.out (fun z hz => by rw [(List.mem_replicate.1 hz).2]; rfl) w.heap.size w HGG.out.drew (Nat.le_refl _) ?_; intro w4 hg4 hb4)
      have hB4 : Bx w4 w.heap.size 3 (fill v M (n + min n (M - n))) := by have := hg4.out; rw [HSP.out] at this; exact this
      have hwr : IntKind.i64.wrap ((n : Int) + ((min n (M - n) : Nat) : Int)) = ((n + min n (M - n) : Nat) : Int) := by rw [← Int.natCast_add]; exact IntWalk.i64_in _ (by omega)
      have hmin : 1 ≤ min n (M - n) := by omega
      have hle : n + min n (M - n) ≤ M := by omega
      have hgt : n < n + min n (M - n) := by omega
      have HB4 := Lib.hid hB4; have HG4 := Lib.hid hb4
      clear hB4 hb4 hg4
      generalize n + min n (M - n) = n' at *
      generalize min n (M - n) = k at *
      go_simp
      go_wp2
      go_roundw
      case rel => exact ⟨n', by omega, by omega, rfl, HB4.out, HG4.out⟩
      case measure => simp [intOf, hwr]; omega
    · have hMn : n = M := by omega
      subst hMn
      have hb : Bx wr w.heap.size 3 (List.replicate n (.int .i64 v)) := by have := HBB.out; simpa [fill] using this
      have HBB := Lib.hid hb
      clear hb
      go_wp2_with fail
      go_ret
      exact ⟨_, rfl, HBB.out, Nat.le_refl _, HGG.out⟩
end Mt
end Go.Proofs.Ytfkgjpdipdllhaa
/- Marks of ranges over functions among a frame's deferred calls. -/
set_option linter.unusedVariables false
namespace Go.Proofs.Ytfkgjpdipdllhaa
open Go.RowKit Go.Shelf
namespace Mt
/-- Marks that stand, each of its own block. -/
def Marks (B : Nat) : List Deferred → World → Prop
  | [], _ => True
  | d :: ds, w => (∃ r, d = { target := .collected r, args := #[] } ∧ B ≤ r ∧ w.heap[r]? = some (.deferred (some [])) ∧ ∀ d' ∈ ds, d' ≠ { target := .collected r, args := #[] }) ∧ Marks B ds w
theorem Marks.ks {B : Nat} {S : Nat → Prop} {w w' : World} (hk : Ks S w w') (hS : ∀ r, S r → w.heap[r]? ≠ some (.deferred (some []))) : ∀ {ds : List Deferred}, Marks B ds w → Marks B ds w'
  | [], _ => trivial
  | d :: ds, ⟨⟨r, e, hb, hh, hn⟩, h⟩ => ⟨⟨r, e, hb, (hk.block r (Array.getElem?_eq_some_iff.1 hh).1 (fun h => hS r h hh)).trans hh, hn⟩, Marks.ks hk hS h⟩
theorem Marks.lt {B : Nat} {w : World} : ∀ {ds : List Deferred}, Marks B ds w → ∀ d ∈ ds, ∃ r, d = { target := .collected r, args := #[] } ∧ r < w.heap.size
  | [], _, d, h => by cases h
  | d :: ds, ⟨⟨r, e, hb, hh, hn⟩, h⟩, d', hd => by
    rcases List.mem_cons.1 hd with rfl | hd
    · exact ⟨r, e, (Array.getElem?_eq_some_iff.1 hh).1⟩
    · exact Marks.lt h d' hd
theorem Marks.put {B r : Nat} {w : World} {o : Obj} : ∀ {ds : List Deferred}, Marks B ds w → (∀ d' ∈ ds, d' ≠ { target := .collected r, args := #[] }) → Marks B ds (w.putObj r o)
  | [], _, _ => trivial
  | d :: ds, ⟨⟨r', e, hb, hh, hn⟩, h⟩, hne => by
    have hr : r' ≠ r := fun er => hne d (by simp) (by rw [e, er])
    exact ⟨⟨r', e, hb, (World.putObj_heap_other hr).trans hh, hn⟩, Marks.put h (fun d' hd => hne d' (by simp [hd]))⟩
theorem leaves_marks {F : Fence} {n : Nat} {P : Program} {fn : Func} {tmps : Array Value} {R : Ending → World → Prop} {v : Value} {B : Nat} {S : Nat → Prop} (hres : ∀ w, (results fn tmps).run P w = .ok v w) :
    ∀ (ds : List Deferred) (w : World), Marks B ds w → (∀ r, B ≤ r → w.heap[r]? = some (.deferred (some [])) → S r) → (∀ w', Ks S w w' → R (.returned v) w') → LeavesInM F n P fn tmps R ds .returning w
  | [], w, _, _, hR => ⟨v, hres w, hR w (Ks.refl _ _)⟩
  | d :: ds, w, ⟨⟨r, e, hb, hh, hn⟩, h⟩, hS, hR => by
    refine ⟨by simp, .inl ⟨r, w.putObj r (.deferred none), by rw [e], run_takeDeferred hh, ?_⟩⟩
    have hlt := (Array.getElem?_eq_some_iff.1 hh).1
    refine leaves_marks (S := S) hres ds _ (Marks.put h hn) ?_ ?_
    · intro r' hb' hh'
      by_cases er : r' = r
      · subst er
        rw [World.putObj_heap_same hlt] at hh'
        simp at hh'
      · rw [World.putObj_heap_other er] at hh'
        exact hS r' hb' hh'
    · intro w' hk
      exact hR w' ((Ks.put (S := S) (hS r hb hh) _).trans hk)
end Mt
end Go.Proofs.Ytfkgjpdipdllhaa
/- Chapter 19: raster.Owners, walked. -/
set_option linter.unusedVariables false
set_option linter.unusedSimpArgs false
namespace Go.Proofs.Ytfkgjpdipdllhaa
open Go.RowKit Go.Shelf
attribute [local go_sem] Oper.semAt_some
namespace Mt
open Ro
theorem covers_raw (x y t0 t1 t2 t3 t4 t5 : Int) (w : World) : Calls Try.prog 16 #[.int .i64 x, .int .i64 y, .agg #[.int .i64 t0, .int .i64 t1, .int .i64 t2, .int .i64 t3, .int .i64 t4, .int .i64 t5]] w fun e w' => e = .returned (.tuple #[.bool (cov [t0, t1, t2, t3, t4, t5] x y), .int .i64 (Sx.fi 66 0 [x, y, t0, t1, t2, t3, t4, t5])]) ∧ Gr w w' :=
  Sx.flat_run (Sx.c_cov w) rfl [x, y, t0, t1, t2, t3, t4, t5] rfl trivial
/-- An element of six numbers, opened. -/
theorem rows6_at {w : World} {a : Option Addr} {len i : Nat} {zs : List (List Int)} (h : Oi.IsRows 6 w a len zs) (hi : i < len) : ∃ b off t0 t1 t2 t3 t4 t5, a = some ⟨b, off, none⟩ ∧ b < w.heap.size ∧ zs.getD i [] = [t0, t1, t2, t3, t4, t5] ∧
    w.cell? ⟨b, off + i * 6, none⟩ = some (.int .i64 t0) ∧ w.cell? ⟨b, off + i * 6 + 1, none⟩ = some (.int .i64 t1) ∧ w.cell? ⟨b, off + i * 6 + 2, none⟩ = some (.int .i64 t2) ∧ w.cell? ⟨b, off + i * 6 + 3, none⟩ = some (.int .i64 t3) ∧ w.cell? ⟨b, off + i * 6 + 4, none⟩ = some (.int .i64 t4) ∧ w.cell? ⟨b, off + i * 6 + 5, none⟩ = some (.int .i64 t5) := by
  obtain ⟨h1, h2, h3, h4⟩ := h
  obtain ⟨b, off, e, hc⟩ := h4 (by omega)
  have hm := h3 (zs.getD i []) (by rw [List.getD_eq_getElem?_getD, List.getElem?_eq_getElem (by omega)]; exact List.getElem_mem _)
  have c0 := hc i 0 hi (by omega); have c1 := hc i 1 hi (by omega); have c2 := hc i 2 hi (by omega); have c3 := hc i 3 hi (by omega); have c4 := hc i 4 hi (by omega); have c5 := hc i 5 hi (by omega)
  generalize zs.getD i [] = z at hm c0 c1 c2 c3 c4 c5
  obtain ⟨x0, l0, rfl, e0⟩ := Sx.cut1 hm.1
  obtain ⟨x1, l1, rfl, e1⟩ := Sx.cut1 e0
  obtain ⟨x2, l2, rfl, e2⟩ := Sx.cut1 e1
  obtain ⟨x3, l3, rfl, e3⟩ := Sx.cut1 e2
  obtain ⟨x4, l4, rfl, e4⟩ := Sx.cut1 e3
  obtain ⟨x5, l5, rfl, e5⟩ := Sx.cut1 e4
  obtain rfl := Sx.cut0 e5
  exact ⟨b, off, x0, x1, x2, x3, x4, x5, e, lt_of_cell c0, rfl, c0, c1, c2, c3, c4, c5⟩
theorem rows3_blk {w : World} {b : Nat} {t0 t1 t2 t3 t4 t5 : Int} (h : Blk w b [.int .i64 t0, .int .i64 t1, .int .i64 t2, .int .i64 t3, .int .i64 t4, .int .i64 t5]) (hI : ∀ x ∈ [t0, t1, t2, t3, t4, t5], I x) : Oi.IsRows 2 w (some ⟨b, 0, none⟩) 3 [[t0, t1], [t2, t3], [t4, t5]] := by
  refine ⟨rfl, by omega, ?_, fun _ => ⟨b, 0, rfl, ?_⟩⟩
  · intro z hz
    simp only [List.mem_cons, List.not_mem_nil, or_false] at hz
    rcases hz with rfl | rfl | rfl
    all_goals exact ⟨rfl, fun x hx => hI x (by simp only [List.mem_cons, List.not_mem_nil, or_false] at hx ⊢; rcases hx with rfl | rfl <;> simp)⟩
  · intro i j hi hj
    match i, j, hi, hj with
    | 0, 0, _, _ => exact h.cell 0 rfl
    | 0, 1, _, _ => exact h.cell 1 rfl
    | 1, 0, _, _ => exact h.cell 2 rfl
    | 1, 1, _, _ => exact h.cell 3 rfl
    | 2, 0, _, _ => exact h.cell 4 rfl
    | 2, 1, _, _ => exact h.cell 5 rfl
theorem any3 (W H t0 t1 t2 t3 t4 t5 : Int) : [[t0, t1], [t2, t3], [t4, t5]].any (oddZ W H) = (oddB W H t0 t1 || (oddB W H t2 t3 || oddB W H t4 t5)) := by
  simp [oddZ]
theorem owE_siz {W H : Int} {zs : List (List Int)} (h : sizB W H = false) : owE W H zs = 1 ∧ owL W H zs = [] := by
  have e : owE W H zs = 1 := by unfold owE; rw [if_neg (by rw [h]; simp)]
  exact ⟨e, by unfold owL; rw [if_neg (by rw [e]; omega)]⟩
theorem owE_bad {W H : Int} {zs : List (List Int)} {k : Nat} (hk : k < zs.length) (h : badT W H (zs.getD k []) = true) : owE W H zs = 1 ∧ owL W H zs = [] := by
  have ha : zs.any (badT W H) = true := by
    rw [List.any_eq_true]
    refine ⟨zs.getD k [], ?_, h⟩
    rw [List.getD_eq_getElem?_getD, List.getElem?_eq_getElem hk]
    exact List.getElem_mem _
  have e : owE W H zs = 1 := by unfold owE; rw [if_neg (by rw [ha]; simp)]
  exact ⟨e, by unfold owL; rw [if_neg (by rw [e]; omega)]⟩
theorem owE_ok {W H : Int} {zs : List (List Int)} (hs : sizB W H = true) (h : ∀ j, j < zs.length → badT W H (zs.getD j []) = false) : owE W H zs = 0 ∧ owL W H zs = outL zs W.toNat H.toNat zs.length := by
  have ha : zs.any (badT W H) = false := by
    rw [List.any_eq_false]
    intro z hz
    obtain ⟨j, hj⟩ := List.getElem?_of_mem hz
    have hjl : j < zs.length := (List.getElem?_eq_some_iff.1 hj).1
    have := h j hjl
    rw [List.getD_eq_getElem?_getD, hj] at this
    simpa using this
  have e : owE W H zs = 0 := by unfold owE; rw [if_pos ⟨hs, ha⟩]
  exact ⟨e, by unfold owL; rw [if_pos e]⟩
end Mt
end Go.Proofs.Ytfkgjpdipdllhaa
