/- Texts that stood alone before, in one. -/
import Derived.Test.YtfpnkcmplmkghaaOr
import Derived.Test.YtfpnkcmplmkghaaEk
import Derived.Test.YtfpnkcmplmkghaaCn
import Derived.WalkKit
import Derived.WalkSpells
import Derived.Deep.QuietTactic
import Derived.BigQuiet
import Derived.Lib.Hide
import Derived.Test.YtfpnkcmplmkghaaQ8
import Derived.Deep.RegionLaw
import Derived.Deep.RegionHeld3
/- Rows of elements of m numbers each: their cells, what is owned, what is cut off. -/
set_option linter.unusedVariables false
namespace Go.Proofs.Ytfpnkcmplmkghaa
open Go.RowKit
namespace Ro
/-- The cells of rows, one behind the other. -/
def fl (zs : List (List Int)) : List Value := zs.flatMap fun z => z.map (Value.int .i64)
theorem fl_cons (z : List Int) (zs : List (List Int)) : fl (z :: zs) = z.map (Value.int .i64) ++ fl zs := by simp [fl]
theorem fl_append (xs ys : List (List Int)) : fl (xs ++ ys) = fl xs ++ fl ys := by simp [fl]
theorem fl_one1 (z : List Int) : fl [z] = z.map (Value.int .i64) := by simp [fl]
theorem fl_len {m : Nat} : ∀ (zs : List (List Int)), (∀ z ∈ zs, z.length = m) → (fl zs).length = zs.length * m
  | [], _ => by simp [fl]
  | z :: zs, h => by
    have h1 := h z (by simp)
    have h2 := fl_len zs (fun y hy => h y (by simp [hy]))
    rw [fl_cons, List.length_append, h2, List.length_map, h1, List.length_cons, Nat.add_mul]; omega
theorem fl_get {m : Nat} : ∀ (zs : List (List Int)), (∀ z ∈ zs, z.length = m) → ∀ i j, i < zs.length → j < m → (fl zs)[i * m + j]? = some (.int .i64 ((zs.getD i []).getD j 0))
  | [], _, i, j, hi, _ => by simp at hi
  | z :: zs, h, i, j, hi, hj => by
    have h1 := h z (by simp)
    rw [fl_cons]
    cases i with
    | zero =>
      rw [Nat.zero_mul, Nat.zero_add, List.getElem?_append_left (by simp; omega)]
      simp [List.getD, List.getElem?_eq_getElem (show j < z.length by omega)]
    | succ i =>
      have e : (i + 1) * m + j = m + (i * m + j) := by rw [Nat.add_mul]; omega
      rw [e, List.getElem?_append_right (by simp; omega)]
      have := fl_get zs (fun y hy => h y (by simp [hy])) i j (by simpa using hi) hj
      rw [show m + (i * m + j) - (z.map (Value.int .i64)).length = i * m + j by simp; omega, this]
      rfl
theorem fl_one {zs : List (List Int)} : ∀ u ∈ fl zs, u.oneCell' = true := by
  intro u hu
  unfold fl at hu
  rw [List.mem_flatMap] at hu
  obtain ⟨z, _, hz⟩ := hu
  rw [List.mem_map] at hz
  obtain ⟨x, _, rfl⟩ := hz
  rfl
theorem fl_at {m : Nat} (hm : 0 < m) {zs : List (List Int)} (h : ∀ z ∈ zs, z.length = m) {j : Nat} {u : Value} (hj : (fl zs)[j]? = some u) : j / m < zs.length ∧ u = .int .i64 ((zs.getD (j / m) []).getD (j % m) 0) := by
  have hlt : j < zs.length * m := by
    have := (List.getElem?_eq_some_iff.1 hj).1
    rwa [fl_len zs h] at this
  have h1 : j / m < zs.length := (Nat.div_lt_iff_lt_mul hm).2 hlt
  have h2 := fl_get zs h (j / m) (j % m) h1 (Nat.mod_lt _ hm)
  rw [Nat.div_add_mod' j m, hj] at h2
  exact ⟨h1, Option.some.inj h2⟩
theorem rows_owned {m : Nat} {w : World} {base : Nat} {e : TypeId} {v : Value} {zs : List (List Int)} (h : w.ownsRow base e m v zs.length (fl zs)) (hl : zs.length ≤ 9223372036854775807) (hz : ∀ z ∈ zs, z.length = m ∧ ∀ x ∈ z, I x) :
    ∃ a cap, v = .slice a zs.length cap ∧ Oi.IsRows m w a zs.length zs ∧ zs.length ≤ cap ∧ (a = none → cap = 0) := by
  have h' := h
  obtain ⟨h1, h2⟩ := h
  rcases h2 with ⟨hv, h0⟩ | ⟨g, cap, cur, hv, hb, hh, hnc, hrest⟩
  · have : zs = [] := List.eq_nil_of_length_eq_zero h0
    subst this
    exact ⟨none, 0, hv, Oi.IsRows.nil _ _ _, Nat.le_refl _, fun _ => rfl⟩
  · refine ⟨some ⟨g, 0, none⟩, cap, hv, ⟨rfl, hl, hz, fun _ => ⟨_, _, rfl, fun i j hi hj => ?_⟩⟩, hnc, fun h => by cases h⟩
    have hc : ∀ j u, (fl zs)[j]? = some u → w.cell? ((⟨g, 0, none⟩ : Addr).add j) = some u := World.ownsRow.cells h' (by rw [hv]; rfl)
    have := hc (i * m + j) _ (fl_get zs (fun z hz' => (hz z hz').1) i j hi hj)
    rw [add_none] at this
    exact this
/-- Where a row's cells lie, as the laws on append ask it. -/
theorem rows_cells {m : Nat} {w : World} {a : Option Addr} {len : Nat} {zs : List (List Int)} (hm : 0 < m) (h : Oi.IsRows m w a len zs) : ∀ ad, a = some ad → ∀ j u, (fl zs)[j]? = some u → w.cell? (ad.add j) = some u := by
  intro ad ha j u hj
  obtain ⟨h1, h2, h3, h4⟩ := h
  obtain ⟨k1, k2⟩ := fl_at hm (fun z hz => (h3 z hz).1) hj
  rw [h1] at k1
  obtain ⟨b, off, e, hc⟩ := h4 (Nat.lt_of_le_of_lt (Nat.zero_le _) k1)
  rw [ha] at e
  obtain rfl := Option.some.inj e
  have := hc (j / m) (j % m) k1 (Nat.mod_lt _ hm)
  rw [Nat.div_add_mod' j m] at this
  rw [add_none, this, k2]
theorem rows_len {m : Nat} {w : World} {a : Option Addr} {len : Nat} {zs : List (List Int)} (h : Oi.IsRows m w a len zs) : (fl zs).length = len * m := by
  rw [fl_len zs (fun z hz => (h.2.2.1 z hz).1), h.1]
/-- 'l[i:]'. -/
theorem rows_drop {m : Nat} {w : World} {b off len cap i : Nat} {zs : List (List Int)} (h : Oi.IsRows m w (some ⟨b, off, none⟩) len zs) (hi : i ≤ len) (hc : len ≤ cap) {ao : Option Addr} (hao : ¬ cap = i → ao = some ⟨b, off + i * m, none⟩) : Oi.IsRows m w ao (len - i) (zs.drop i) := by
  obtain ⟨h1, h2, h3, h4⟩ := h
  refine ⟨by rw [List.length_drop, h1], by omega, fun z hz => h3 z (List.mem_of_mem_drop hz), fun hp => ?_⟩
  obtain ⟨b', off', e, hcell⟩ := h4 (by omega)
  obtain ⟨rfl, rfl⟩ : b = b' ∧ off = off' := by injection e with e; injection e with e1 e2; exact ⟨e1, e2⟩
  refine ⟨b, off + i * m, hao (by omega), fun k j hk hj => ?_⟩
  have := hcell (i + k) j (by omega) hj
  rw [Nat.add_mul] at this
  rw [show off + i * m + (k * m + j) = off + (i * m + k * m + j) by omega, this]
  simp [List.getD]
/-- 'l[:i]'. -/
theorem rows_take {m : Nat} {w : World} {a : Option Addr} {len i : Nat} {zs : List (List Int)} (h : Oi.IsRows m w a len zs) (hi : i ≤ len) : Oi.IsRows m w a i (zs.take i) := by
  obtain ⟨h1, h2, h3, h4⟩ := h
  refine ⟨by rw [List.length_take]; omega, by omega, fun z hz => h3 z (List.mem_of_mem_take hz), fun hp => ?_⟩
  obtain ⟨b, off, e, hcell⟩ := h4 (by omega)
  refine ⟨b, off, e, fun k j hk hj => ?_⟩
  rw [hcell k j (by omega) hj]
  simp [List.getD, hk]
theorem rows_at {m : Nat} {w : World} {a : Option Addr} {len i : Nat} {zs : List (List Int)} (h : Oi.IsRows m w a len zs) (hi : i < len) : (zs.getD i []).length = m ∧ (∀ x ∈ zs.getD i [], I x) ∧ ∃ b off, a = some ⟨b, off, none⟩ ∧ b < w.heap.size ∨ m = 0 := by
  obtain ⟨h1, h2, h3, h4⟩ := h
  have hm := h3 (zs.getD i []) (by rw [List.getD_eq_getElem?_getD, List.getElem?_eq_getElem (by omega)]; exact List.getElem_mem _)
  refine ⟨hm.1, hm.2, ?_⟩
  obtain ⟨b, off, e, hc⟩ := h4 (by omega)
  by_cases h0 : m = 0
  · exact ⟨0, 0, .inr h0⟩
  · exact ⟨b, off, .inl ⟨e, lt_of_cell (hc i 0 hi (by omega))⟩⟩
/-- An element of two numbers, opened. -/
theorem rows2_at {w : World} {a : Option Addr} {len i : Nat} {zs : List (List Int)} (h : Oi.IsRows 2 w a len zs) (hi : i < len) : ∃ b off x y, a = some ⟨b, off, none⟩ ∧ b < w.heap.size ∧ zs.getD i [] = [x, y] ∧ w.cell? ⟨b, off + i * 2, none⟩ = some (.int .i64 x) ∧ w.cell? ⟨b, off + i * 2 + 1, none⟩ = some (.int .i64 y) ∧ I x ∧ I y := by
  obtain ⟨h1, h2, h3, h4⟩ := h
  obtain ⟨b, off, e, hc⟩ := h4 (by omega)
  have hm := h3 (zs.getD i []) (by rw [List.getD_eq_getElem?_getD, List.getElem?_eq_getElem (by omega)]; exact List.getElem_mem _)
  have c0 := hc i 0 hi (by omega)
  have c1 := hc i 1 hi (by omega)
  generalize zs.getD i [] = z at hm c0 c1
  obtain ⟨x, l1, rfl, e1⟩ := Sx.cut1 hm.1
  obtain ⟨y, l2, rfl, e2⟩ := Sx.cut1 e1
  obtain rfl := Sx.cut0 e2
  exact ⟨b, off, x, y, e, lt_of_cell c0, rfl, c0, c1, hm.2 x (by simp), hm.2 y (by simp)⟩
end Ro
end Go.Proofs.Ytfpnkcmplmkghaa
/- Sorting, without the program: merging sorted halves is putting one behind the other, each behind all that are no greater. -/
set_option linter.unusedVariables false
set_option linter.unusedSimpArgs false
set_option linter.unusedSectionVars false
namespace Go.Proofs.Ytfpnkcmplmkghaa.So
section
variable {α : Type} (le : α → α → Bool)
def mrg : List α → List α → List α
  | [], ys => ys
  | x :: xs, [] => x :: xs
  | x :: xs, y :: ys => if le x y then x :: mrg xs (y :: ys) else y :: mrg (x :: xs) ys
termination_by xs ys => xs.length + ys.length
theorem mrg_nil_l (ys : List α) : mrg le [] ys = ys := by unfold mrg; rfl
theorem mrg_nil_r (xs : List α) : mrg le xs [] = xs := by cases xs <;> (unfold mrg; rfl)
theorem mrg_le {x y : α} (h : le x y = true) (xs ys : List α) : mrg le (x :: xs) (y :: ys) = x :: mrg le xs (y :: ys) := by rw [mrg, if_pos h]
theorem mrg_gt {x y : α} (h : le x y = false) (xs ys : List α) : mrg le (x :: xs) (y :: ys) = y :: mrg le (x :: xs) ys := by rw [mrg, if_neg (by simp [h])]
theorem mrg_mem {z : α} : ∀ xs ys : List α, z ∈ mrg le xs ys ↔ z ∈ xs ∨ z ∈ ys
  | [], ys => by simp [mrg_nil_l]
  | x :: xs, [] => by simp [mrg_nil_r]
  | x :: xs, y :: ys => by
    cases h : le x y
    · rw [mrg_gt le h, List.mem_cons, mrg_mem (x :: xs) ys]; simp only [List.mem_cons]; grind
    · rw [mrg_le le h, List.mem_cons, mrg_mem xs (y :: ys)]; simp only [List.mem_cons]; grind
termination_by xs ys => xs.length + ys.length
theorem mrg_len : ∀ xs ys : List α, (mrg le xs ys).length = xs.length + ys.length
  | [], ys => by simp [mrg_nil_l]
  | x :: xs, [] => by simp [mrg_nil_r]
  | x :: xs, y :: ys => by
    cases h : le x y
    · rw [mrg_gt le h, List.length_cons, mrg_len (x :: xs) ys]; simp only [List.length_cons]; omega
    · rw [mrg_le le h, List.length_cons, mrg_len xs (y :: ys)]; simp only [List.length_cons]; omega
termination_by xs ys => xs.length + ys.length
def msort (l : List α) : List α := if h : l.length < 2 then l else mrg le (msort (l.take (l.length / 2))) (msort (l.drop (l.length / 2)))
termination_by l.length
decreasing_by
  · simp only [List.length_take]; omega
  · simp only [List.length_drop]; omega
theorem msort_short {l : List α} (h : l.length < 2) : msort le l = l := by rw [msort, dif_pos h]
theorem msort_long {l : List α} (h : ¬ l.length < 2) : msort le l = mrg le (msort le (l.take (l.length / 2))) (msort le (l.drop (l.length / 2))) := by rw [msort, dif_neg h]
theorem msort_len (l : List α) : (msort le l).length = l.length := by
  by_cases h : l.length < 2
  · rw [msort_short le h]
  · rw [msort_long le h, mrg_len, msort_len, msort_len, List.length_take, List.length_drop]; omega
termination_by l.length
decreasing_by
  · simp only [List.length_take]; omega
  · simp only [List.length_drop]; omega
theorem msort_mem {z : α} (l : List α) : z ∈ msort le l ↔ z ∈ l := by
  by_cases h : l.length < 2
  · rw [msort_short le h]
  · rw [msort_long le h, mrg_mem, msort_mem, msort_mem, ← List.mem_append, List.take_append_drop]
termination_by l.length
decreasing_by
  · simp only [List.length_take]; omega
  · simp only [List.length_drop]; omega
def ins (x : α) (l : List α) : List α := l.takeWhile (fun z => le z x) ++ x :: l.dropWhile (fun z => le z x)
def isort (l : List α) : List α := l.foldl (fun out x => ins le x out) []

def Rise (l : List α) : Prop := l.Pairwise fun x y => le x y = true
variable (tot : ∀ x y, le x y = true ∨ le y x = true) (tr : ∀ x y z, le x y = true → le y z = true → le x z = true)
include tot tr
theorem mrg_rise : ∀ {xs ys : List α}, Rise le xs → Rise le ys → Rise le (mrg le xs ys)
  | [], ys, _, h => by rw [mrg_nil_l]; exact h
  | x :: xs, [], h, _ => by rw [mrg_nil_r]; exact h
  | x :: xs, y :: ys, hx, hy => by
    have hx' := List.pairwise_cons.1 hx
    have hy' := List.pairwise_cons.1 hy
    cases h : le x y
    · have hyx : le y x = true := (tot x y).resolve_left (by simp [h])
      rw [mrg_gt le h]
      refine List.pairwise_cons.2 ⟨fun z hz => ?_, mrg_rise hx hy'.2⟩
      rcases (mrg_mem le _ _).1 hz with h1 | h1
      · rcases List.mem_cons.1 h1 with rfl | h2
        · exact hyx
        · exact tr _ _ _ hyx (hx'.1 z h2)
      · exact hy'.1 z h1
    · rw [mrg_le le h]
      refine List.pairwise_cons.2 ⟨fun z hz => ?_, mrg_rise hx'.2 hy⟩
      rcases (mrg_mem le _ _).1 hz with h1 | h1
      · exact hx'.1 z h1
      · rcases List.mem_cons.1 h1 with rfl | h2
        · exact h
        · exact tr _ _ _ h (hy'.1 z h2)
termination_by xs ys => xs.length + ys.length
def eqv (c z : α) : Bool := le z c && le c z
theorem mrg_filter (c : α) : ∀ {xs ys : List α}, Rise le xs → Rise le ys → (mrg le xs ys).filter (eqv le c) = xs.filter (eqv le c) ++ ys.filter (eqv le c)
  | [], ys, _, _ => by rw [mrg_nil_l]; rfl
  | x :: xs, [], _, _ => by rw [mrg_nil_r]; simp
  | x :: xs, y :: ys, hx, hy => by
    have hx' := List.pairwise_cons.1 hx
    have hy' := List.pairwise_cons.1 hy
    cases h : le x y
    · rw [mrg_gt le h, List.filter_cons, mrg_filter c hx hy'.2]
      cases hp : eqv le c y
      · simp [List.filter_cons, hp]
      · have he : (x :: xs).filter (eqv le c) = [] := by
          rw [List.filter_eq_nil_iff]
          intro z hz hzc
          simp only [eqv, Bool.and_eq_true] at hp hzc
          have h1 : le x z = true := by
            rcases List.mem_cons.1 hz with rfl | h2
            · exact (tot z z).elim id id
            · exact hx'.1 z h2
          have := tr _ _ _ h1 (tr _ _ _ hzc.1 hp.2)
          rw [h] at this; cases this
        rw [he]; simp [List.filter_cons, hp]
    · rw [mrg_le le h, List.filter_cons, mrg_filter c hx'.2 hy]
      cases hp : eqv le c x <;> simp [List.filter_cons, hp]
termination_by xs ys => xs.length + ys.length
theorem msort_rise (l : List α) : Rise le (msort le l) := by
  by_cases h : l.length < 2
  · rw [msort_short le h]
    match l, h with
    | [], _ => exact List.Pairwise.nil
    | [x], _ => exact List.pairwise_singleton _ _
    | _ :: _ :: _, h => simp at h; omega
  · rw [msort_long le h]; exact mrg_rise le tot tr (msort_rise _) (msort_rise _)
termination_by l.length
decreasing_by
  · simp only [List.length_take]; omega
  · simp only [List.length_drop]; omega
theorem msort_filter (c : α) (l : List α) : (msort le l).filter (eqv le c) = l.filter (eqv le c) := by
  by_cases h : l.length < 2
  · rw [msort_short le h]
  · rw [msort_long le h, mrg_filter le tot tr c (msort_rise le tot tr _) (msort_rise le tot tr _), msort_filter c, msort_filter c, ← List.filter_append, List.take_append_drop]
termination_by l.length
decreasing_by
  · simp only [List.length_take]; omega
  · simp only [List.length_drop]; omega
omit tot tr in
theorem takeWhile_all (p : α → Bool) : ∀ (l : List α) z, z ∈ l.takeWhile p → p z = true
  | [], z, h => by cases h
  | x :: l, z, h => by
    rw [List.takeWhile_cons] at h
    cases hp : p x
    · simp [hp] at h
    · simp only [hp, if_true, List.mem_cons] at h
      rcases h with rfl | h
      · exact hp
      · exact takeWhile_all p l z h
theorem drop_gt (x : α) : ∀ {l : List α}, Rise le l → ∀ z ∈ l.dropWhile (fun z => le z x), le z x = false
  | [], _, z, h => by cases h
  | y :: l, hr, z, h => by
    have hr' := List.pairwise_cons.1 hr
    rw [List.dropWhile_cons] at h
    cases hp : le y x
    · simp only [hp, Bool.false_eq_true, if_false, List.mem_cons] at h
      rcases h with rfl | h
      · exact hp
      · cases hz : le z x with
        | false => rfl
        | true => rw [tr _ _ _ (hr'.1 z h) hz] at hp; cases hp
    · simp only [hp, if_true] at h
      exact drop_gt x hr'.2 z h
theorem ins_rise {x : α} {l : List α} (hl : Rise le l) : Rise le (ins le x l) := by
  have h1 := takeWhile_all (fun z => le z x) l
  have h2 := drop_gt le tot tr x hl
  have h3 : Rise le (l.takeWhile (fun z => le z x) ++ l.dropWhile (fun z => le z x)) := by rw [List.takeWhile_append_dropWhile]; exact hl
  obtain ⟨k1, k2, k3⟩ := List.pairwise_append.1 h3
  refine List.pairwise_append.2 ⟨k1, List.pairwise_cons.2 ⟨fun z hz => (tot x z).resolve_right (by simp [h2 z hz]), k2⟩, fun a ha b hb => ?_⟩
  rcases List.mem_cons.1 hb with rfl | hb
  · exact h1 a ha
  · exact k3 a ha b hb
theorem ins_filter (c : α) {x : α} {l : List α} (hl : Rise le l) : (ins le x l).filter (eqv le c) = l.filter (eqv le c) ++ [x].filter (eqv le c) := by
  have h2 := drop_gt le tot tr x hl
  unfold ins
  rw [List.filter_append]
  cases hp : eqv le c x
  · have e : l.filter (eqv le c) = (l.takeWhile (fun z => le z x) ++ l.dropWhile (fun z => le z x)).filter (eqv le c) := by rw [List.takeWhile_append_dropWhile]
    rw [e, List.filter_append]; simp [List.filter_cons, hp]
  · have he : (l.dropWhile (fun z => le z x)).filter (eqv le c) = [] := by
      rw [List.filter_eq_nil_iff]
      intro z hz hzc
      simp only [eqv, Bool.and_eq_true] at hp hzc
      have := tr _ _ _ hzc.1 hp.2
      rw [h2 z hz] at this; cases this
    have e : l.filter (eqv le c) = (l.takeWhile (fun z => le z x) ++ l.dropWhile (fun z => le z x)).filter (eqv le c) := by rw [List.takeWhile_append_dropWhile]
    rw [e, List.filter_append, he]; simp [List.filter_cons, hp, he]
theorem foldl_ins : ∀ (l out : List α), Rise le out → Rise le (l.foldl (fun out x => ins le x out) out) ∧ ∀ c, (l.foldl (fun out x => ins le x out) out).filter (eqv le c) = out.filter (eqv le c) ++ l.filter (eqv le c)
  | [], out, h => ⟨h, fun c => by simp⟩
  | x :: l, out, h => by
    obtain ⟨h1, h2⟩ := foldl_ins l (ins le x out) (ins_rise le tot tr h)
    refine ⟨h1, fun c => ?_⟩
    rw [List.foldl_cons, h2 c, ins_filter le tot tr c h, List.append_assoc, ← List.filter_append]; rfl
theorem isort_rise (l : List α) : Rise le (isort le l) := (foldl_ins le tot tr l [] List.Pairwise.nil).1
theorem isort_filter (c : α) (l : List α) : (isort le l).filter (eqv le c) = l.filter (eqv le c) := by
  rw [isort, (foldl_ins le tot tr l [] List.Pairwise.nil).2 c]; rfl
theorem stable_one : ∀ {l m : List α}, Rise le l → Rise le m → (∀ c, l.filter (eqv le c) = m.filter (eqv le c)) → l = m
  | [], [], _, _, _ => rfl
  | [], b :: m, _, _, h => by
    have hb : le b b = true := (tot b b).elim id id
    have := h b
    simp [eqv, hb] at this
  | a :: l, [], _, _, h => by
    have hb : le a a = true := (tot a a).elim id id
    have := h a
    simp [eqv, hb] at this
  | a :: l, b :: m, hl, hm, h => by
    have hl' := List.pairwise_cons.1 hl
    have hm' := List.pairwise_cons.1 hm
    have ha : le a a = true := (tot a a).elim id id
    have hb : le b b = true := (tot b b).elim id id
    have hba : le b a = true := by
      have : a ∈ (b :: m).filter (eqv le a) := by rw [← h a]; simp [eqv, ha]
      rcases List.mem_cons.1 (List.mem_filter.1 this).1 with e | e
      · rw [← e]; exact ha
      · exact hm'.1 a e
    have hab : le a b = true := by
      have : b ∈ (a :: l).filter (eqv le b) := by rw [h b]; simp [eqv, hb]
      rcases List.mem_cons.1 (List.mem_filter.1 this).1 with e | e
      · rw [← e]; exact hb
      · exact hl'.1 b e
    have hh := h a
    rw [List.filter_cons, List.filter_cons, if_pos (by simp [eqv, ha]), if_pos (by simp [eqv, hab, hba])] at hh
    have e : a = b := (List.cons.inj hh).1
    subst e
    have : l = m := stable_one hl'.2 hm'.2 fun c => by
      have hc := h c
      rw [List.filter_cons, List.filter_cons] at hc
      split at hc
      · exact (List.cons.inj hc).2
      · exact hc
    rw [this]
theorem msort_isort (l : List α) : msort le l = isort le l :=
  stable_one le tot tr (msort_rise le tot tr l) (isort_rise le tot tr l) fun c => by rw [msort_filter le tot tr, isort_filter le tot tr]
theorem msort_sorted {l : List α} (h : Rise le l) : msort le l = l :=
  stable_one le tot tr (msort_rise le tot tr l) h fun c => msort_filter le tot tr c l
/-- The index of the first least one, as both look for it. -/
def least (l : List α) (d : α) : Nat := (List.range l.length).foldl (fun best i => if le (l.getD best d) (l.getD i d) then best else i) 0
theorem least_upto (l : List α) (d : α) : ∀ n, n ≤ l.length → ∀ b, b = (List.range n).foldl (fun best i => if le (l.getD best d) (l.getD i d) then best else i) 0 →
    (b < n ∨ b = 0) ∧ (∀ i, i < n → le (l.getD b d) (l.getD i d) = true) ∧ ∀ i, i < b → le (l.getD i d) (l.getD b d) = false
  | 0, _, b, hb => ⟨.inr (by subst hb; rfl), fun i h => absurd h (by omega), fun i h => by subst hb; simp at h⟩
  | n + 1, hn, b, hb => by
    obtain ⟨h0, h1, h2⟩ := least_upto l d n (by omega) _ rfl
    rw [List.range_succ, List.foldl_append] at hb
    simp only [List.foldl_cons, List.foldl_nil] at hb
    generalize (List.range n).foldl (fun best i => if le (l.getD best d) (l.getD i d) then best else i) 0 = B at h0 h1 h2 hb
    cases h : le (l.getD B d) (l.getD n d)
    · rw [if_neg (by rw [h]; simp)] at hb
      subst hb
      have hnB : le (l.getD b d) (l.getD B d) = true := (tot _ _).resolve_left (by rw [h]; simp)
      refine ⟨.inl (by omega), fun i hi => ?_, fun i hi => ?_⟩
      · by_cases hin : i = b
        · subst hin; exact (tot _ _).elim id id
        · exact tr _ _ _ hnB (h1 i (by omega))
      · cases hz : le (l.getD i d) (l.getD b d) with
        | false => rfl
        | true =>
          have h3 := tr _ _ _ (h1 i hi) hz
          rw [h] at h3; cases h3
    · rw [if_pos h] at hb
      subst hb
      refine ⟨by omega, fun i hi => ?_, h2⟩
      · by_cases hin : i = n
        · subst hin; exact h
        · exact h1 i (by omega)
theorem least_head (l : List α) (d : α) (hl : 0 < l.length) : least le l d < l.length ∧ l.getD (least le l d) d = (msort le l).getD 0 d := by
  obtain ⟨h0, h1, h2⟩ := least_upto le tot tr l d l.length (Nat.le_refl _) _ rfl
  have hlt : least le l d < l.length := by unfold least; omega
  refine ⟨hlt, ?_⟩
  unfold least at hlt
  unfold least
  generalize (List.range l.length).foldl (fun best i => if le (l.getD best d) (l.getD i d) then best else i) 0 = B at h0 h1 h2 hlt
  have hB : l.getD B d = l[B] := by simp [List.getD, List.getElem?_eq_getElem hlt]
  have hself : le l[B] l[B] = true := (tot _ _).elim id id
  have hf := msort_filter le tot tr l[B] l
  have hr := msort_rise le tot tr l
  have hml : (msort le l).length = l.length := msort_len le l
  have e : l.filter (eqv le l[B]) = l[B] :: (l.drop (B + 1)).filter (eqv le l[B]) := by
    have h3 : l = l.take B ++ l[B] :: l.drop (B + 1) := by rw [← List.drop_eq_getElem_cons hlt, List.take_append_drop]
    have h4 : (l.take B).filter (eqv le l[B]) = [] := by
      rw [List.filter_eq_nil_iff]
      intro z hz hzc
      obtain ⟨i, hi, rfl⟩ := List.getElem_of_mem hz
      simp only [List.length_take] at hi
      have h5 := h2 i (by omega)
      rw [hB] at h5
      simp only [List.getElem_take] at hzc
      have : l.getD i d = l[i] := by simp [List.getD, List.getElem?_eq_getElem (show i < l.length by omega)]
      rw [this] at h5
      simp [eqv, h5] at hzc
    have h6 : (l.take B ++ l[B] :: l.drop (B + 1)).filter (eqv le l[B]) = l[B] :: (l.drop (B + 1)).filter (eqv le l[B]) := by
      rw [List.filter_append, h4, List.filter_cons, if_pos (by simp [eqv, hself])]; rfl
    rw [← h3] at h6
    exact h6
  rw [e] at hf
  rw [hB]
  cases hm : msort le l with
  | nil => rw [hm] at hml; simp at hml; omega
  | cons x m =>
    rw [hm] at hf hr
    have hr' := List.pairwise_cons.1 hr
    have hxl : x ∈ l := (msort_mem le l).1 (by rw [hm]; simp)
    obtain ⟨i, hi, hxi⟩ := List.getElem_of_mem hxl
    have hBx : le l[B] x = true := by
      have := h1 i hi
      rw [hB] at this
      simpa [List.getD, List.getElem?_eq_getElem hi, hxi] using this
    have hxB : le x l[B] = true := by
      have : l[B] ∈ x :: m := by rw [← hm]; exact (msort_mem le l).2 (List.getElem_mem _)
      rcases List.mem_cons.1 this with h | h
      · rw [h]; exact (tot _ _).elim id id
      · exact hr'.1 _ h
    rw [List.filter_cons, if_pos (by simp [eqv, hBx, hxB])] at hf
    simp only [List.getD_cons_zero]
    exact (List.cons.inj hf).1.symm
omit tot tr in
theorem mrg_count [BEq α] [LawfulBEq α] (c : α) : ∀ xs ys : List α, (mrg le xs ys).count c = xs.count c + ys.count c
  | [], ys => by simp [mrg_nil_l]
  | x :: xs, [] => by simp [mrg_nil_r]
  | x :: xs, y :: ys => by
    cases h : le x y
    · rw [mrg_gt le h, List.count_cons, mrg_count c (x :: xs) ys]; simp only [List.count_cons]; omega
    · rw [mrg_le le h, List.count_cons, mrg_count c xs (y :: ys)]; simp only [List.count_cons]; omega
termination_by xs ys => xs.length + ys.length
omit tot tr in
theorem msort_count [BEq α] [LawfulBEq α] (c : α) (l : List α) : (msort le l).count c = l.count c := by
  by_cases h : l.length < 2
  · rw [msort_short le h]
  · rw [msort_long le h, mrg_count, msort_count c, msort_count c, ← List.count_append, List.take_append_drop]
termination_by l.length
decreasing_by
  · simp only [List.length_take]; omega
  · simp only [List.length_drop]; omega
end
end Go.Proofs.Ytfpnkcmplmkghaa.So
/- The least of some fractions: package frac's and the reference's. -/
set_option linter.unusedVariables false
namespace Go.Proofs.Ytfpnkcmplmkghaa
open Go.RowKit
namespace Fa
/-- One fraction is no greater than another one. -/
def le (x y : List Int) : Bool := decide (Sx.fcmp [x.getD 0 0, x.getD 1 0, y.getD 0 0, y.getD 1 0] ≤ 0)
theorem le_tot (x y : List Int) : le x y = true ∨ le y x = true := by
  simp only [le, decide_eq_true_eq]
  have := Sx.fcmp_anti (x.getD 0 0) (x.getD 1 0) (y.getD 0 0) (y.getD 1 0)
  omega
theorem le_tr (x y z : List Int) : le x y = true → le y z = true → le x z = true := by
  simp only [le, decide_eq_true_eq]
  exact (Sx.fcmp_trans _ _ _ _ _ _).1
theorem le_two (a b c d : Int) : le [a, b] [c, d] = decide (Sx.fcmp [a, b, c, d] ≤ 0) := rfl
theorem cmp_any (a b c d : Int) (w : World) : Calls Try.prog 50 #[.agg #[.int .i64 a, .int .i64 b], .agg #[.int .i64 c, .int .i64 d]] w
      fun e w' => e = .returned (.int .i64 (Sx.fcmp [a, b, c, d])) ∧ Gr w w' := Sx.flat_run (Sx.c_fcmp w) rfl [a, b, c, d] rfl trivial
theorem to_any (a b c d : Int) (w : World) : Calls Try.prog 94 #[.agg #[.int .i64 a, .int .i64 b], .agg #[.int .i64 c, .int .i64 d]] w
      fun e w' => e = .returned (.int .i64 (Sx.fcmp [a, b, c, d])) ∧ Gr w w' := Sx.flat_run (Sx.c_fto w) rfl [a, b, c, d] rfl trivial
def upto (zs : List (List Int)) (n : Nat) : Nat := (List.range n).foldl (fun best i => if le (zs.getD best []) (zs.getD i []) then best else i) 0
theorem upto_succ (zs : List (List Int)) (n : Nat) : upto zs (n + 1) = if le (zs.getD (upto zs n) []) (zs.getD n []) then upto zs n else n := by
  unfold upto; rw [List.range_succ, List.foldl_append]; rfl
theorem upto_lt (zs : List (List Int)) (n : Nat) : upto zs n < n ∨ upto zs n = 0 := by
  induction n with
  | zero => exact .inr rfl
  | succ n ih => rw [upto_succ]; split <;> omega
theorem step (a b c d : Int) : (Sx.fcmp [a, b, c, d] < 0) ↔ le [c, d] [a, b] = false := by
  rw [le_two, Sx.fcmp_anti a b c d]; simp
set_option maxHeartbeats 4000000 in
theorem least_any (p : Option Addr) (len cap : Nat) (zs : List (List Int)) (w : World) (hr : Oi.IsRows 2 w p len zs) :
    Calls Try.prog 42 #[.slice p len cap] w
      fun e w' => e = .returned (.tuple #[.int .i64 (upto zs len), .bool (decide (0 < len))]) ∧ Gr w w' := by
  have hm := hr.2.1
  have HR := Lib.hid hr
  clear hr
  go_enter Try.func42, Try.ntmps42
  go_wp2_with fail
  go_loopw [4, 10] (fun v4 v10 wr => ∃ k : Nat, k ≤ len ∧ v10 = .int .i64 k ∧ v4 = .int .i64 (upto zs k) ∧ Gr w wr) (fun _ i _ => len - (intOf i).toNat)
  case atStart => exact ⟨0, Nat.zero_le _, rfl, rfl, Gr.refl w⟩
  case round =>
    obtain ⟨k, hk, rfl, rfl, hg⟩ := hrel
    by_cases hlt : k < len
    · have hB : upto zs k < len := by have := upto_lt zs k; omega
      have hs := upto_succ zs k
      obtain ⟨b, off, x, y, rfl, hbl, ez, cx, cy, hx, hy⟩ := Ro.rows2_at (HR.out.later hg) hlt
      obtain ⟨b2, off2, x2, y2, e2, hbl2, ez2, cx2, cy2, hx2, hy2⟩ := Ro.rows2_at (HR.out.later hg) hB
      obtain ⟨rfl, rfl⟩ : b = b2 ∧ off = off2 := by injection e2 with e; injection e with e1 e2; exact ⟨e1, e2⟩
      clear e2
      rw [ez, ez2] at hs
      have st := step x y x2 y2
      generalize hBB : upto zs k = B at *
      have HG := Lib.hid hg; have HS := Lib.hid hs; have ST := Lib.hid st; have HBB := Lib.hid hBB
      have hBn : (B : Int) < len := by omega
      clear hg hs st hBB hx hy hx2 hy2 ez ez2
      go_wp2_with fail
      refine (to_any x y x2 y2 _).mono ?_; rintro e w2 ⟨rfl, hg2⟩
      have hgw : Gr wr w2 := ((Gr.refl wr).alloc _).trans hg2
      have HG2 := Lib.hid hgw; clear hg2 hgw cx cy cx2 cy2
      by_cases hlt2 : Sx.fcmp [x, y, x2, y2] < 0
      · have hs : upto zs (k + 1) = k := by rw [HS.out, if_neg (by rw [ST.out.1 hlt2]; simp)]
        have HS2 := Lib.hid hs; clear hs
        go_wp2
        go_roundw
        case rel => exact ⟨k + 1, by omega, by go_num, by rw [HS2.out], HG.out.trans HG2.out⟩
        case measure => simp [intOf]; omega
      · have hs : upto zs (k + 1) = B := by
          rw [HS.out, if_pos]
          cases h : le [x2, y2] [x, y] with
          | true => rfl
          | false => exact absurd (ST.out.2 h) hlt2
        have HS2 := Lib.hid hs; clear hs
        go_wp2
        go_roundw
        case rel => exact ⟨k + 1, by omega, by go_num, by rw [HS2.out], HG.out.trans HG2.out⟩
        case measure => simp [intOf]; omega
    · have hkl : k = len := by omega
      subst hkl
      have HG := Lib.hid hg
      clear hg
      generalize hB : upto zs k = B
      have HB := Lib.hid hB; clear hB
      go_wp2
      go_ret2
      exact ⟨by rw [HB.out]; rfl, HG.out⟩
set_option maxHeartbeats 4000000 in
theorem rleast_any (hc : ∀ (a b c d : Int) (w : World), Calls Try.prog 51 #[.agg #[.int .i64 a, .int .i64 b], .agg #[.int .i64 c, .int .i64 d]] w
      fun e w' => e = .returned (.int .i64 (Sx.fcmp [a, b, c, d])) ∧ Gr w w') (p : Option Addr) (len cap : Nat) (zs : List (List Int)) (w : World) (hr : Oi.IsRows 2 w p len zs) :
    Calls Try.prog 43 #[.slice p len cap] w
      fun e w' => e = .returned (.tuple #[.int .i64 (upto zs len), .bool (decide (0 < len))]) ∧ Gr w w' := by
  have hm := hr.2.1
  have HR := Lib.hid hr
  have HC := Lib.hid hc
  clear hr hc
  go_enter Try.func43, Try.ntmps43
  go_wp2_with fail
  go_loopw [4, 5] (fun v4 v5 wr => ∃ k : Nat, 0 < k ∧ (k ≤ len ∨ k = 1) ∧ v5 = .int .i64 k ∧ v4 = .int .i64 (upto zs k) ∧ Gr w wr) (fun _ i _ => len - (intOf i).toNat)
  case atStart => exact ⟨1, by omega, .inr rfl, rfl, by rw [upto_succ]; simp [upto], Gr.refl w⟩
  case round =>
    obtain ⟨k, hk0, hk, rfl, rfl, hg⟩ := hrel
    by_cases hlt : k < len
    · have hB : upto zs k < len := by have := upto_lt zs k; omega
      have hs := upto_succ zs k
      obtain ⟨b, off, x, y, rfl, hbl, ez, cx, cy, hx, hy⟩ := Ro.rows2_at (HR.out.later hg) hlt
      obtain ⟨b2, off2, x2, y2, e2, hbl2, ez2, cx2, cy2, hx2, hy2⟩ := Ro.rows2_at (HR.out.later hg) hB
      obtain ⟨rfl, rfl⟩ : b = b2 ∧ off = off2 := by injection e2 with e; injection e with e1 e2; exact ⟨e1, e2⟩
      clear e2
      rw [ez, ez2] at hs
      have st := step x y x2 y2
      generalize hBB : upto zs k = B at *
      have HG := Lib.hid hg; have HS := Lib.hid hs; have ST := Lib.hid st; have HBB := Lib.hid hBB
      have hBn : (B : Int) < len := by omega
      have gx : ∀ z : GW wr, z.val.cell? ⟨b, off + k * 2, none⟩ = some (.int .i64 x) := fun z => (z.gr.cell (lt_of_cell cx)).trans cx
      have gy : ∀ z : GW wr, z.val.cell? ⟨b, off + k * 2 + 1, none⟩ = some (.int .i64 y) := fun z => (z.gr.cell (lt_of_cell cy)).trans cy
      have gx2 : ∀ z : GW wr, z.val.cell? ⟨b, off + B * 2, none⟩ = some (.int .i64 x2) := fun z => (z.gr.cell (lt_of_cell cx2)).trans cx2
      have gy2 : ∀ z : GW wr, z.val.cell? ⟨b, off + B * 2 + 1, none⟩ = some (.int .i64 y2) := fun z => (z.gr.cell (lt_of_cell cy2)).trans cy2
      clear hg hs st hBB hx hy hx2 hy2 ez ez2 cx cy cx2 cy2
      go_wp2_with fail
      refine wp_region_gr (W := wr) (by kernel_rfl) (by kernel_rfl) (Gr.refl _) ?_
      repeat (go_big_quiet_step (fail))
      go_big_quiet_want; go_big_quiet_op
      go_big_quiet_call (exact Calls.cw (HC.out x y x2 y2 _))
      repeat (go_big_quiet_step (fail))
      refine wpQuiet_nil ?_
      rintro _ ⟨z, rfl⟩
      have hg3 := z.gr
      generalize z.val = w2 at *
      clear z gx gy gx2 gy2
      have HG2 := Lib.hid hg3; clear hg3
      by_cases hlt2 : Sx.fcmp [x, y, x2, y2] < 0
      · have hs : upto zs (k + 1) = k := by rw [HS.out, if_neg (by rw [ST.out.1 hlt2]; simp)]
        have HS2 := Lib.hid hs; clear hs
        go_wp2
        go_roundw
        case rel => exact ⟨k + 1, by omega, .inl (by omega), by go_num, by rw [HS2.out], HG.out.trans HG2.out⟩
        case measure => simp [intOf]; omega
      · have hs : upto zs (k + 1) = B := by
          rw [HS.out, if_pos]
          cases h : le [x2, y2] [x, y] with
          | true => rfl
          | false => exact absurd (ST.out.2 h) hlt2
        have HS2 := Lib.hid hs; clear hs
        go_wp2
        go_roundw
        case rel => exact ⟨k + 1, by omega, .inl (by omega), by go_num, by rw [HS2.out], HG.out.trans HG2.out⟩
        case measure => simp [intOf]; omega
    · have HG := Lib.hid hg
      have hu : upto zs k = upto zs len := by
        rcases hk with hk | rfl
        · rw [show k = len by omega]
        · by_cases h1 : len = 1
          · rw [h1]
          · rw [show len = 0 by omega, upto_succ]; simp [upto]
      clear hg
      rw [hu]; clear hu
      generalize hB : upto zs len = B
      have HB := Lib.hid hB; clear hB
      go_wp2
      go_ret2
      exact ⟨by rw [HB.out]; rfl, HG.out⟩
end Fa
end Go.Proofs.Ytfpnkcmplmkghaa
/- Merging and sorting of fractions, as package frac does it. -/
set_option linter.unusedVariables false
namespace Go.Proofs.Ytfpnkcmplmkghaa
open Go.RowKit
namespace Fa
open Ro
theorem owns_gr {w w' : World} {base : Nat} {e : TypeId} {size : Nat} {v : Value} {n : Nat} {xs : List Value} (h : w.ownsRow base e size v n xs) (hg : Gr w w') : w'.ownsRow base e size v n xs := by
  obtain ⟨h1, h2⟩ := h
  refine ⟨h1, ?_⟩
  rcases h2 with h2 | ⟨g, cap, cur, hv, hb, hh, hr⟩
  · exact .inl h2
  · have hlt : g < w.heap.size := (Array.getElem?_eq_some_iff.1 hh).1
    exact .inr ⟨g, cap, cur, hv, hb, (Below.block hg g hlt).trans hh, hr⟩
theorem own_mono {w : World} {base base' : Nat} {e : TypeId} {size : Nat} {v : Value} {n : Nat} {xs : List Value} (h : w.ownsRow base e size v n xs) (hb : base' ≤ base) : w.ownsRow base' e size v n xs := by
  obtain ⟨h1, h2 | ⟨g, cap, cur, hv, hg, hr⟩⟩ := h
  · exact ⟨h1, .inl h2⟩
  · exact ⟨h1, .inr ⟨g, cap, cur, hv, Nat.le_trans hb hg, hr⟩⟩
def sl : Value → Nat
  | .slice _ n _ => n
  | _ => 0
theorem infoF : (Try.prog.info? 54).map (fun i => (i.zero, i.size, i.bytes)) = some (some (.agg #[.int .i64 0, .int .i64 0]), 2, 16) := by kernel_rfl
def Row2 (w : World) (p : Option Addr) (len cap : Nat) (zs : List (List Int)) : Prop := Oi.IsRows 2 w p len zs ∧ len ≤ cap ∧ (p = none → cap = 0)
theorem Row2.later {w w' : World} {p : Option Addr} {len cap : Nat} {zs : List (List Int)} (h : Row2 w p len cap zs) (g : Gr w w') : Row2 w' p len cap zs := ⟨h.1.later g, h.2⟩
theorem step_append_fits {P : Program} {ops : Array Oper} {o : Oper} {a : Act} {w : World} {K : Act → World → Prop} {Q : Exit → Act → World → Prop} {E : Prop}
    (hg : o.guard = none) (s x : Operand) (t : TypeId) (hop : o.op = Op.call { callee := Callee.builtin Builtin.append, args := #[s, x], argTypes := #[t, t] })
    (base : Nat) (e : TypeId) (i : TypeInfo) (size : Nat) (h1 : P.underlying t = some (.slice e)) (h2 : P.info? e = some i) (h4 : i.size = size)
    (g k cap : Nat) (xs : List Value) (hs : a.eval s = .slice (some ⟨g, 0, none⟩) k cap) (hown : w.ownsRow base e size (.slice (some ⟨g, 0, none⟩) k cap) k xs) (ad : Addr) (m c : Nat) (news : List Value) (hx : a.eval x = .slice (some ad) m c) (hn : news.length = m * size)
    (hc : ∀ j u, news[j]? = some u → w.cell? (ad.add j) = some u) (h1c : ∀ u ∈ news, u.oneCell' = true) (b1 : k + m ≤ cap)
    (hK : ∀ w', w'.ownsRow base e size (.slice (some ⟨g, 0, none⟩) (k + m) cap) (k + m) (xs ++ news) → w.grownBy w' (some g) → K (a.put o.dst (.slice (some ⟨g, 0, none⟩) (k + m) cap)) w') :
    if Region.wanted o (yielded ops a.tmps) = true then Oper.wp P o a w K Q else E := by
  have hw : Region.wanted o (yielded ops a.tmps) = true := by simp [Region.wanted, hg]
  rw [if_pos hw]
  obtain ⟨w', hrun, r1, r2⟩ := run_append_fits (P := P) w base t o.type e i size h1 h2 h4 g k cap xs hown ad m c news hn hc h1c b1
  unfold Oper.wp
  simp [execOp, hop, resolve, invoke, builtin, hs, hx, hrun, Result.andThen]
  exact hK w' r1 r2
theorem end_eq {xs A B C : List (List Int)} (h : xs ++ So.mrg le A B = C) (h0 : A = [] ∨ B = []) : fl xs ++ fl A ++ fl B = fl C := by
  rw [← h]
  rcases h0 with rfl | rfl
  · rw [So.mrg_nil_l]; simp [fl]
  · rw [So.mrg_nil_r]; simp [fl]
theorem rows_head {w : World} {p : Option Addr} {len : Nat} {zs : List (List Int)} {z : List Int} (h : Oi.IsRows 2 w p len zs) (hl : 0 < len) (e : zs.getD 0 [] = z) : zs = z :: zs.drop 1 := by
  cases zs with
  | nil => have := h.1; simp at this; omega
  | cons x l => simp at e; simp [e]
theorem mrg_left {A B : List (List Int)} {x y u v : Int} (ha : A = [x, y] :: A.drop 1) (hb : B = [u, v] :: B.drop 1) (h : Sx.fcmp [x, y, u, v] ≤ 0) : [[x, y]] ++ So.mrg le (A.drop 1) B = So.mrg le A B := by
  have := So.mrg_le le (x := [x, y]) (y := [u, v]) (by rw [le_two]; simpa using h) (A.drop 1) (B.drop 1)
  rw [← ha, ← hb] at this
  rw [this]; rfl
theorem mrg_right {A B : List (List Int)} {x y u v : Int} (ha : A = [x, y] :: A.drop 1) (hb : B = [u, v] :: B.drop 1) (h : ¬ Sx.fcmp [x, y, u, v] ≤ 0) : [[u, v]] ++ So.mrg le A (B.drop 1) = So.mrg le A B := by
  have := So.mrg_gt le (x := [x, y]) (y := [u, v]) (by rw [le_two]; simpa using h) (A.drop 1) (B.drop 1)
  rw [← ha, ← hb] at this
  rw [this]; rfl
set_option maxHeartbeats 8000000 in
set_option maxRecDepth 100000 in
theorem merge_any (pa : Option Addr) (la ca : Nat) (A : List (List Int)) (pb : Option Addr) (lb cb : Nat) (B : List (List Int)) (w : World) (ha : Row2 w pa la ca A) (hb : Row2 w pb lb cb B) (hl : la + lb ≤ 1000) :
    Calls Try.prog 129 #[.slice pa la ca, .slice pb lb cb, .func (.func 50) #[] #[]] w
      fun e w' => ∃ p' c', e = .returned (.slice p' (la + lb) c') ∧ Row2 w' p' (la + lb) c' (So.mrg le A B) ∧ Gr w w' ∧ w'.ownsRow w.heap.size 54 2 (.slice p' (la + lb) c') (la + lb) (fl (So.mrg le A B)) := by
  obtain ⟨i0, hi, hz0, hz1, hz2⟩ := info_parts infoF
  have HA := Lib.hid ha; have HB := Lib.hid hb
  clear ha hb
  go_enter Try.func129, Try.ntmps129
  go_wp2_with (at_make; refine wpList_make_own _ rfl _ _ 55 rfl w.heap.size 54 i0 (.agg #[.int .i64 0, .int .i64 0]) 2 Try.underlying55 hi hz0 hz1 _ _ _ (la + lb) rfl rfl (by omega) ?b2 ?b3 (Nat.le_refl _) ?_)
  case b2 => rw [hz2]; omega
  case b3 => unfold maxLen; omega
  intro w0 hown0 hgrow0
  go_wp2
  go_loopw [0, 1, 7] (fun v0 v1 v7 wr => ∃ (pa' : Option Addr) (la' ca' : Nat) (A' : List (List Int)) (pb' : Option Addr) (lb' cb' : Nat) (B' : List (List Int)) (n : Nat) (xs : List (List Int)),
      v0 = .slice pa' la' ca' ∧ v1 = .slice pb' lb' cb' ∧ v7 = .slice (some ⟨w.heap.size, 0, none⟩) n (la + lb) ∧ Row2 w pa' la' ca' A' ∧ Row2 w pb' lb' cb' B' ∧
      wr.ownsRow w.heap.size 54 2 (.slice (some ⟨w.heap.size, 0, none⟩) n (la + lb)) n (fl xs) ∧ xs ++ So.mrg le A' B' = So.mrg le A B ∧ n + la' + lb' = la + lb ∧ Below w.heap.size w wr)
    (fun v0 v1 _ _ => sl v0 + sl v1)
  case atStart => exact ⟨_, _, _, _, _, _, _, _, 0, [], rfl, rfl, rfl, HA.out, HB.out, hown0, rfl, by omega, (Below.refl _ _).grown hgrow0 (Nat.le_refl _) (fun k h => by cases h)⟩
  case round =>
    clear hown0 hgrow0
    obtain ⟨pa', la', ca', A', pb', lb', cb', B', n, xs, rfl, rfl, rfl, ra, rb, hown, hx, hn, hnx⟩ := hrel
    have RA := Lib.hid ra; have RB := Lib.hid rb; have HO := Lib.hid hown; have HX := Lib.hid hx; have HNX := Lib.hid hnx
    clear ra rb hown hx hnx
    by_cases hab : 0 < la' ∧ 0 < lb'
    · obtain ⟨h1, h2⟩ := hab
      obtain ⟨ba, oa, x, y, rfl, hba, eza, ca0, ca1, hx0, hx1⟩ := Ro.rows2_at (RA.out.1.later (HNX.out : Gr w wr)) h1
      obtain ⟨bb, ob, u, v, rfl, hbb, ezb, cb0, cb1, hu0, hu1⟩ := Ro.rows2_at (RB.out.1.later (HNX.out : Gr w wr)) h2
      have HXY := Lib.hid (And.intro hx0 hx1); have HUV := Lib.hid (And.intro hu0 hu1); clear hx0 hx1 hu0 hu1
      simp only [Nat.zero_mul, Nat.add_zero] at ca0 ca1 cb0 cb1
      have ga0 : ∀ z : GW wr, z.val.cell? ⟨ba, oa, none⟩ = some (.int .i64 x) := fun z => (z.gr.cell (lt_of_cell ca0)).trans ca0
      have ga1 : ∀ z : GW wr, z.val.cell? ⟨ba, oa + 1, none⟩ = some (.int .i64 y) := fun z => (z.gr.cell (lt_of_cell ca1)).trans ca1
      have gb0 : ∀ z : GW wr, z.val.cell? ⟨bb, ob, none⟩ = some (.int .i64 u) := fun z => (z.gr.cell (lt_of_cell cb0)).trans cb0
      have gb1 : ∀ z : GW wr, z.val.cell? ⟨bb, ob + 1, none⟩ = some (.int .i64 v) := fun z => (z.gr.cell (lt_of_cell cb1)).trans cb1
      have EA := Lib.hid eza; have EB := Lib.hid ezb
      clear ca0 ca1 cb0 cb1 eza ezb
      have hcA : la' ≤ ca' := RA.out.2.1
      have hcB : lb' ≤ cb' := RB.out.2.1
      have hi1 : (1 : Int) ≤ (la' : Int) := by omega
      have hj1 : (1 : Int) ≤ (lb' : Int) := by omega
      go_wp2_with fail
      refine wp_region_gr (W := wr) (by kernel_rfl) (by kernel_rfl) (Gr.refl _) ?_
      repeat (go_big_quiet_step (fail))
      go_big_quiet_want; go_big_quiet_op
      go_big_quiet_call (exact Calls.cw (cmp_any x y u v _))
      repeat (go_big_quiet_step (fail))
      refine wpQuiet_nil ?_
      rintro _ ⟨z, rfl⟩
      have hg3 := z.gr
      have da0 := ga0 z; have da1 := ga1 z; have db0 := gb0 z; have db1 := gb1 z
      clear ga0 ga1 gb0 gb1
      generalize z.val = w2 at *
      clear z
      have HG2 := Lib.hid hg3
      have hown2 := owns_gr HO.out hg3
      have HO2 := Lib.hid hown2; clear hg3 hown2
      by_cases hle : Sx.fcmp [x, y, u, v] ≤ 0
      · go_wp2_with fail
        go_region_law (refine step_append_fits rfl (.tmp 31) (.tmp 35) 55 rfl w.heap.size 54 i0 2 Try.underlying55 hi hz1 w.heap.size n (la + lb) _ rfl (HO2.out.drew.alloc _) ⟨w2.heap.size, 0, none⟩ 1 1 [.int .i64 x, .int .i64 y] rfl rfl (by intro t z ht; match t, ht with | 0, ht => simp at ht; subst ht; simp [Addr.add] | 1, ht => simp at ht; subst ht; simp [Addr.add]) (by intro z hz; simp at hz; rcases hz with rfl | rfl <;> rfl) (by omega) ?_; intro w1 hown1 hgrow1)
        generalize hP : (if ca' = 1 then some (⟨ba, oa, none⟩ : Addr) else some ⟨ba, oa + 2, none⟩) = P'
        have hPn : P' = none → ca' - 1 = 0 := fun h => by rw [h] at hP; split at hP <;> cases hP
        have hrow := Ro.rows_drop RA.out.1 (i := 1) h1 RA.out.2.1 (ao := P') (by intro h; rw [← hP, if_neg h])
        have hmx : xs ++ [[x, y]] ++ So.mrg le (A'.drop 1) B' = So.mrg le A B := by
          rw [← HX.out, List.append_assoc, mrg_left (rows_head RA.out.1 h1 EA.out) (rows_head RB.out.1 h2 EB.out) (by simpa using hle)]
        have hw1 : Below w.heap.size w w1 := ((Below.trans HNX.out (Below.mono HG2.out.drew HNX.out.size)).alloc (Nat.le_trans HNX.out.size HG2.out.size) _).grown hgrow1 (by simp; exact Nat.le_trans HNX.out.size (Nat.le_trans HG2.out.size (Nat.le_succ _))) (fun k hk => by cases hk; exact Nat.le_refl _)
        have ho1 : w1.ownsRow w.heap.size 54 2 (.slice (some ⟨w.heap.size, 0, none⟩) (n + 1) (la + lb)) (n + 1) (fl (xs ++ [[x, y]])) := by rw [fl_append]; exact hown1
        have HROW := Lib.hid hrow; have HMX := Lib.hid hmx; have HW1 := Lib.hid hw1; have HO1 := Lib.hid ho1; have HPN := Lib.hid hPn
        clear hP hPn hrow hmx hw1 ho1 hown1 hgrow1 da0 da1 db0 db1
        go_simp
        go_wp2
        go_roundw
        case rel => exact ⟨_, _, _, _, _, _, _, _, n + 1, xs ++ [[x, y]], rfl, rfl, rfl, ⟨HROW.out, by omega, HPN.out⟩, RB.out, HO1.out, HMX.out, by omega, HW1.out⟩
        case measure => simp [sl]; omega
      · go_wp2_with fail
        go_region_law (refine step_append_fits rfl (.tmp 39) (.tmp 43) 55 rfl w.heap.size 54 i0 2 Try.underlying55 hi hz1 w.heap.size n (la + lb) _ rfl (HO2.out.drew.alloc _) ⟨w2.heap.size, 0, none⟩ 1 1 [.int .i64 u, .int .i64 v] rfl rfl (by intro t z ht; match t, ht with | 0, ht => simp at ht; subst ht; simp [Addr.add] | 1, ht => simp at ht; subst ht; simp [Addr.add]) (by intro z hz; simp at hz; rcases hz with rfl | rfl <;> rfl) (by omega) ?_; intro w1 hown1 hgrow1)
        generalize hP : (if cb' = 1 then some (⟨bb, ob, none⟩ : Addr) else some ⟨bb, ob + 2, none⟩) = P'
        have hPn : P' = none → cb' - 1 = 0 := fun h => by rw [h] at hP; split at hP <;> cases hP
        have hrow := Ro.rows_drop RB.out.1 (i := 1) h2 RB.out.2.1 (ao := P') (by intro h; rw [← hP, if_neg h])
        have hmx : xs ++ [[u, v]] ++ So.mrg le A' (B'.drop 1) = So.mrg le A B := by
          rw [← HX.out, List.append_assoc, mrg_right (rows_head RA.out.1 h1 EA.out) (rows_head RB.out.1 h2 EB.out) (by simpa using hle)]
        have hw1 : Below w.heap.size w w1 := ((Below.trans HNX.out (Below.mono HG2.out.drew HNX.out.size)).alloc (Nat.le_trans HNX.out.size HG2.out.size) _).grown hgrow1 (by simp; exact Nat.le_trans HNX.out.size (Nat.le_trans HG2.out.size (Nat.le_succ _))) (fun k hk => by cases hk; exact Nat.le_refl _)
        have ho1 : w1.ownsRow w.heap.size 54 2 (.slice (some ⟨w.heap.size, 0, none⟩) (n + 1) (la + lb)) (n + 1) (fl (xs ++ [[u, v]])) := by rw [fl_append]; exact hown1
        have HROW := Lib.hid hrow; have HMX := Lib.hid hmx; have HW1 := Lib.hid hw1; have HO1 := Lib.hid ho1; have HPN := Lib.hid hPn
        clear hP hPn hrow hmx hw1 ho1 hown1 hgrow1 da0 da1 db0 db1
        go_simp
        go_wp2
        go_roundw
        case rel => exact ⟨_, _, _, _, _, _, _, _, n + 1, xs ++ [[u, v]], rfl, rfl, rfl, RA.out, ⟨HROW.out, by omega, HPN.out⟩, HO1.out, HMX.out, by omega, HW1.out⟩
        case measure => simp [sl]; omega
    · have h0 : A' = [] ∨ B' = [] := by
        have e1 := RA.out.1.1; have e2 := RB.out.1.1
        by_cases h : la' = 0
        · exact .inl (List.eq_nil_of_length_eq_zero (by omega))
        · exact .inr (List.eq_nil_of_length_eq_zero (by omega))
      have hcA : la' ≤ ca' := RA.out.2.1
      have hcB : lb' ≤ cb' := RB.out.2.1
      have hend := end_eq HX.out h0
      have HE := Lib.hid hend; clear hend h0
      have hrA := rows_len RA.out.1; have hrB := rows_len RB.out.1
      have HRA := Lib.hid hrA; have HRB := Lib.hid hrB; clear hrA hrB
      have hcA := Ro.rows_cells (by decide) (RA.out.1.later (HNX.out : Gr w wr))
      have HCA := Lib.hid hcA; clear hcA
      go_wp2_with (first
        | (at_builtin; refine wpList_append_fits_any _ rfl (.tmp 47) (.tmp 48) 55 rfl w.heap.size 54 i0 2 Try.underlying55 hi hz1 w.heap.size n (la + lb) _ rfl HO.out pa' la' ca' (fl A') rfl HRA.out (fun h => ⟨by have := RA.out.2.2 h; have := RA.out.2.1; omega, RA.out.2.2 h⟩) HCA.out fl_one (by omega) ?_; intro w1 hown1 hgrow1)
        | (at_builtin; refine wpList_append_fits_any _ rfl (.tmp 49) (.tmp 50) 55 rfl w.heap.size 54 i0 2 Try.underlying55 hi hz1 w.heap.size (n + la') (la + lb) _ rfl hown1 pb' lb' cb' (fl B') rfl HRB.out (fun h => ⟨by have := RB.out.2.2 h; have := RB.out.2.1; omega, RB.out.2.2 h⟩) (Ro.rows_cells (by decide) (RB.out.1.later ((HNX.out.grown hgrow1 HNX.out.size (fun k hk => by cases hk; exact Nat.le_refl _)) : Gr w w1))) fl_one (by omega) ?_; intro w2 hown2 hgrow2))
      all_goals
        go_ret
        have hlen : (So.mrg le A B).length = la + lb := by rw [So.mrg_len, HA.out.1.1, HB.out.1.1]
        have e : n + la' + lb' = la + lb := hn
        rw [HE.out, e, ← hlen] at hown2
        obtain ⟨a, cap, hv, hrow, hc, hnn⟩ := rows_owned (m := 2) hown2 (by omega) (fun z hz => by
          rcases (So.mrg_mem le _ _).1 hz with h | h
          · exact HA.out.1.2.2.1 z h
          · exact HB.out.1.2.2.1 z h)
        rw [hlen] at hv hrow hc hown2
        injection hv with e1 e2 e3
        subst e1 e3
        exact ⟨_, _, rfl, ⟨hrow, hc, hnn⟩, (HNX.out.grown hgrow1 HNX.out.size (fun k hk => by cases hk; exact Nat.le_refl _)).grown hgrow2 (Nat.le_trans HNX.out.size hgrow1.size) (fun k hk => by cases hk; exact Nat.le_refl _), hown2⟩
end Fa
end Go.Proofs.Ytfpnkcmplmkghaa
/- Sorting of fractions, as package frac does it: half by half. -/
set_option linter.unusedVariables false
namespace Go.Proofs.Ytfpnkcmplmkghaa
open Go.RowKit
namespace Fa
open Ro
theorem rows_of {w w1 : World} {p1 p2 p : Option Addr} {l1 l2 l c1 c2 c : Nat} {z1 z2 z : List (List Int)} (h1 : Row2 w p1 l1 c1 z1) (h2 : Row2 w p2 l2 c2 z2) (hg : Gr w w1) (h : (p = p1 ∧ l = l1 ∧ c = c1 ∧ z = z1) ∨ (p = p2 ∧ l = l2 ∧ c = c2 ∧ z = z2)) : Row2 w1 p l c z := by
  rcases h with ⟨rfl, rfl, rfl, rfl⟩ | ⟨rfl, rfl, rfl, rfl⟩
  · exact h1.later hg
  · exact h2.later hg
set_option maxHeartbeats 800000 in
set_option maxRecDepth 100000 in
theorem sorted_any : ∀ (n : Nat) (p : Option Addr) (len cap : Nat) (zs : List (List Int)) (w : World), len ≤ n → Row2 w p len cap zs → len ≤ 1000 →
    Calls Try.prog 95 #[.slice p len cap, .func (.func 50) #[] #[]] w
      fun e w' => ∃ p' c', e = .returned (.slice p' len c') ∧ Row2 w' p' len c' (So.msort le zs) ∧ Gr w w' ∧ w'.ownsRow w.heap.size 54 2 (.slice p' len c') len (fl (So.msort le zs))
  | n, p, len, cap, zs, w, hn, hr, hl => by
    obtain ⟨i0, hi, hz0, hz1, hz2⟩ := info_parts infoF
    by_cases h2 : len < 2
    · rw [So.msort_short le (by rw [hr.1.1]; exact h2)]
      cases p with
      | none =>
        have hcap := hr.2.2 rfl
        have hlen : len = 0 := by have := hr.2.1; omega
        subst hcap hlen
        have : zs = [] := List.eq_nil_of_length_eq_zero hr.1.1
        subst this
        clear hr
        go_enter Try.func95, Try.ntmps95
        go_wp2
        go_ret
        exact ⟨none, 0, rfl, ⟨Oi.IsRows.nil _ _ _, Nat.le_refl _, fun _ => rfl⟩, Gr.refl _, World.ownsRow_nil _ _ _ _⟩
      | some x =>
        have HR := Lib.hid hr; clear hr
        go_enter Try.func95, Try.ntmps95
        go_wp2_with (first
          | (at_builtin; refine wpList_append_own _ rfl _ _ 55 rfl w.heap.size 54 i0 (.agg #[.int .i64 0, .int .i64 0]) 2 16 Try.underlying55 hi hz0 hz1 hz2 rfl (by decide) _ 0 [] rfl (World.ownsRow_nil _ _ _ _) x len cap (fl zs) rfl ?c1 ?c2 ?c3 ?c4 ?c5 ?c6 ?_))
        case c1 => exact rows_len HR.out.1
        case c2 => exact Ro.rows_cells (by decide) HR.out.1 x rfl
        case c3 => exact fl_one
        case c4 => unfold maxLen; omega
        case c5 => omega
        case c6 => exact Nat.le_refl _
        intro v' w1 hown hgrow _
        have hg : Gr w w1 := (Below.refl _ _).grown hgrow (Nat.le_refl _) (fun k hk => by simp [Value.ownBlock] at hk)
        obtain ⟨a', cap', rfl, hrow, hc, hnn⟩ := rows_owned (m := 2) (zs := zs) (by rw [HR.out.1.1]; simpa using hown) (by rw [HR.out.1.1]; omega) HR.out.1.2.2.1
        have HG := Lib.hid hg; have HW := Lib.hid hrow; have HO := Lib.hid (show w1.ownsRow w.heap.size 54 2 (.slice a' zs.length cap') len (fl zs) by simpa using hown)
        clear hg hrow hown hgrow
        go_wp2
        go_ret
        exact ⟨a', cap', by rw [HR.out.1.1]; rfl, by have h := HW.out; rw [HR.out.1.1] at h hc; exact ⟨h, hc, hnn⟩, HG.out, by have h := HO.out; rw [HR.out.1.1] at h; exact h⟩
    · match n with
      | 0 => exact absurd hn (by omega)
      | n + 1 =>
        rw [So.msort_long le (by rw [hr.1.1]; exact h2), hr.1.1]
        obtain ⟨b, off, x, y, rfl, hbl, ez, cx, cy, hx, hy⟩ := Ro.rows2_at hr.1 (i := 0) (by omega)
        clear ez cx cy hx hy
        obtain ⟨m, hmd⟩ : ∃ m, m = len / 2 := ⟨_, rfl⟩
        have hm1 : 1 ≤ m := by omega
        have hm2 : m < len := by omega
        have hml : len - m ≤ n := by omega
        have hmn : m ≤ n := by omega
        have hq : (len : Int) / 2 = (m : Int) := by omega
        rw [← hmd]
        have hm3 : m ≤ 1000 := by omega
        have hcl := hr.2.1
        have r1 : Row2 w (some ⟨b, off, none⟩) m cap (zs.take m) := ⟨Ro.rows_take hr.1 (by omega), by omega, fun h => by cases h⟩
        have r2 : Row2 w (some ⟨b, off + m * 2, none⟩) (len - m) (cap - m) (zs.drop m) := ⟨Ro.rows_drop hr.1 (by omega) hcl (fun _ => rfl), by omega, fun h => by cases h⟩
        have HR1 := Lib.hid r1; have HR2 := Lib.hid r2
        have hcm : ¬ cap = m := by omega
        have hb0 : (0 : Int) ≤ (m : Int) := by omega
        have hb1 : (m : Int) ≤ (cap : Int) := by omega
        have hb2 : (m : Int) ≤ (len : Int) := by omega
        have HQ := Lib.hid hq
        clear r1 r2 hr hq hmd hn
        go_enter Try.func95, Try.ntmps95
        go_wp2_with fail
        rw [HQ.out]
        go_region_held3 (fun z => Gr w z)
            (first | exact (Gr.refl _).drew | exact Gr.trans (by with_reducible assumption) hg)
            (first
              | (go_at_call 95; refine (sorted_any n _ _ _ _ _ (by omega) (rows_of HR1.out HR2.out (by with_reducible assumption) (by first | exact .inl ⟨rfl, rfl, rfl, rfl⟩ | exact .inr ⟨rfl, rfl, rfl, rfl⟩)) (by omega)).mono ?_; rintro e w1 ⟨p1, c1, rfl, k1, hg, -⟩)
              | (go_at_call 129; refine (merge_any _ _ _ _ _ _ _ _ _ (Row2.later (by with_reducible assumption) (by with_reducible assumption)) (by with_reducible assumption) (by omega)).mono ?_; rintro e w3 ⟨p3, c3, rfl, k3, hg, ko⟩; have ko2 := own_mono (base' := w.heap.size) ko (Gr.size (by with_reducible assumption)); clear ko))
        have hh : Gr w w3 := by with_reducible assumption
        have e : m + (len - m) = len := by omega
        have K3 := Lib.hid k3; have HH := Lib.hid hh; have KO := Lib.hid ko2
        clear k3 hh ko2
        go_wp2
        go_ret
        exact ⟨p3, c3, show Ending.returned (.slice p3 (m + (len - m)) c3) = _ by rw [e], by have h := K3.out; rw [e] at h; exact h, HH.out, by have h := KO.out; rw [e] at h; exact h⟩
theorem sort_own (p : Option Addr) (len cap : Nat) (zs : List (List Int)) (w : World) (hr : Row2 w p len cap zs) (hl : len ≤ 1000) :
    Calls Try.prog 44 #[.slice p len cap] w fun e w' => ∃ p' c', e = .returned (.slice p' len c') ∧ Row2 w' p' len c' (So.msort le zs) ∧ Gr w w' ∧ w'.ownsRow w.heap.size 54 2 (.slice p' len c') len (fl (So.msort le zs)) := by
  have HR := Lib.hid hr; clear hr
  go_enter Try.func44, Try.ntmps44
  go_wp2_with fail
  refine (sorted_any len p len cap zs _ (Nat.le_refl _) HR.out hl).mono ?_
  rintro e w1 ⟨p', c', rfl, hr1, hg, ho⟩
  have HR1 := Lib.hid hr1; have HG := Lib.hid hg; have HO := Lib.hid ho; clear hr1 hg ho
  go_wp2
  go_ret
  exact ⟨p', c', rfl, HR1.out, HG.out, HO.out⟩
theorem sort_any (p : Option Addr) (len cap : Nat) (zs : List (List Int)) (w : World) (hr : Row2 w p len cap zs) (hl : len ≤ 1000) :
    Calls Try.prog 44 #[.slice p len cap] w fun e w' => ∃ p' c', e = .returned (.slice p' len c') ∧ Row2 w' p' len c' (So.msort le zs) ∧ Gr w w' :=
  (sort_own p len cap zs w hr hl).mono fun e w' ⟨p', c', h1, h2, h3, _⟩ => ⟨p', c', h1, h2, h3⟩
end Fa
end Go.Proofs.Ytfpnkcmplmkghaa
/- The reference's Own and Same of chapter 3. -/
set_option linter.unusedVariables false
namespace Go.Proofs.Ytfpnkcmplmkghaa
open Go.RowKit
namespace Fa
open Ro
theorem own_any (p : Option Addr) (len cap : Nat) (zs : List (List Int)) (w : World) (hr : Row2 w p len cap zs) (hl : len ≤ 1000) :
    Calls Try.prog 37 #[.slice p len cap] w fun e w' => ∃ p' c', e = .returned (.slice p' len c') ∧ Row2 w' p' len c' zs ∧ Gr w w' := by
  obtain ⟨i0, hi, hz0, hz1, hz2⟩ := info_parts infoF
  cases p with
  | none =>
    have hcap := hr.2.2 rfl
    have hlen : len = 0 := by have := hr.2.1; omega
    subst hcap hlen
    have : zs = [] := List.eq_nil_of_length_eq_zero hr.1.1
    subst this
    clear hr
    go_enter Try.func37, Try.ntmps37
    go_wp2
    go_ret
    exact ⟨none, 0, rfl, ⟨Oi.IsRows.nil _ _ _, Nat.le_refl _, fun _ => rfl⟩, Gr.refl _⟩
  | some x =>
    have HR := Lib.hid hr; clear hr
    go_enter Try.func37, Try.ntmps37
    go_wp2_with (first
      | (at_builtin; refine wpList_append_own _ rfl _ _ 55 rfl w.heap.size 54 i0 (.agg #[.int .i64 0, .int .i64 0]) 2 16 Try.underlying55 hi hz0 hz1 hz2 rfl (by decide) _ 0 [] rfl (World.ownsRow_nil _ _ _ _) x len cap (fl zs) rfl ?c1 ?c2 ?c3 ?c4 ?c5 ?c6 ?_))
    case c1 => exact rows_len HR.out.1
    case c2 => exact Ro.rows_cells (by decide) HR.out.1 x rfl
    case c3 => exact fl_one
    case c4 => unfold maxLen; omega
    case c5 => omega
    case c6 => exact Nat.le_refl _
    intro v' w1 hown hgrow _
    have hg : Gr w w1 := (Below.refl _ _).grown hgrow (Nat.le_refl _) (fun k hk => by simp [Value.ownBlock] at hk)
    obtain ⟨a', cap', rfl, hrow, hc, hnn⟩ := rows_owned (m := 2) (zs := zs) (by rw [HR.out.1.1]; simpa using hown) (by rw [HR.out.1.1]; omega) HR.out.1.2.2.1
    have HG := Lib.hid hg; have HW := Lib.hid hrow
    clear hg hrow hown hgrow
    go_wp2
    go_ret
    exact ⟨a', cap', by rw [HR.out.1.1]; rfl, by have h := HW.out; rw [HR.out.1.1] at h hc; exact ⟨h, hc, hnn⟩, HG.out⟩
set_option maxHeartbeats 4000000 in
set_option maxRecDepth 100000 in
theorem same_any (a a2 : Option Addr) (len cap cap2 : Nat) (zs : List (List Int)) (w : World) (hr : Oi.IsRows 2 w a len zs) (hr2 : Oi.IsRows 2 w a2 len zs) :
    Calls Try.prog 45 #[.slice a len cap, .slice a2 len cap2] w fun e w' => e = .returned (.bool true) ∧ Gr w w' := by
  have hm := hr.2.1
  have HR := Lib.hid hr; have HR2 := Lib.hid hr2
  clear hr hr2
  go_enter Try.func45, Try.ntmps45
  go_wp2
  go_loopw [5] (fun i wr => ∃ k : Nat, k ≤ len ∧ i = .int .i64 k ∧ Gr w wr) (fun i _ => len - (intOf i).toNat)
  case atStart => exact ⟨0, Nat.zero_le _, rfl, Gr.refl _⟩
  case round =>
    obtain ⟨k, hk, rfl, hg⟩ := hrel
    by_cases hlt : k < len
    · obtain ⟨b, off, x, y, rfl, hbl, ez, cx, cy, hx, hy⟩ := Ro.rows2_at (HR.out.later hg) hlt
      obtain ⟨b2, off2, x2, y2, rfl, hbl2, ez2, cx2, cy2, hx2, hy2⟩ := Ro.rows2_at (HR2.out.later hg) hlt
      rw [ez] at ez2
      obtain ⟨rfl, rfl⟩ : x = x2 ∧ y = y2 := by simpa using ez2
      have HG := Lib.hid hg
      clear ez ez2 hx hy hx2 hy2 hg
      go_wp2_with fail
      refine wp_region_quiet_lit (by kernel_rfl) (by kernel_rfl) ?_
      repeat (go_big_quiet_step (fail))
      refine wpQuiet_nil ?_
      rintro _ ⟨n', rfl⟩
      go_wp2
      go_roundw
      case rel => exact ⟨k + 1, by omega, by go_num, HG.out.dn _⟩
      case measure => simp [intOf]; omega
    · have HG := Lib.hid hg
      clear hg
      go_wp2
      go_ret
      exact ⟨rfl, HG.out⟩
end Fa
end Go.Proofs.Ytfpnkcmplmkghaa
