/- Numbers in digits, plain: sums, differences and which is longer. Nothing of the program. -/
import Derived.Test.YtfpnkcmplmkghaaBg
set_option linter.unusedVariables false
namespace Go.Proofs.Ytfpnkcmplmkghaa.Bg
theorem val_take_succ : ∀ (l : List Int) (k : Nat), val (l.take (k + 1)) = val (l.take k) + p10 k * l.getD k 0
  | [], k => by simp [val]
  | d :: l, 0 => by simp [val, p10]
  | d :: l, k + 1 => by
    have := val_take_succ l k
    simp only [List.take_succ_cons, val, p10, List.getD_cons_succ] at *
    rw [this]; grind
theorem val_split : ∀ (l : List Int) (k : Nat), val l = val (l.take k) + p10 k * val (l.drop k)
  | [], k => by simp [val]
  | d :: l, 0 => by simp [val, p10]
  | d :: l, k + 1 => by
    have := val_split l k
    simp only [List.take_succ_cons, List.drop_succ_cons, val, p10] at *
    grind
theorem drop_val : ∀ (l : List Int) (k : Nat), val (l.drop k) = l.getD k 0 + 10 * val (l.drop (k + 1))
  | [], k => by simp [val]
  | d :: l, 0 => by simp [val]
  | d :: l, k + 1 => by
    have := drop_val l k
    simpa using this
theorem Dg.dig {l : List Int} (h : Dg l) (k : Nat) : 0 ≤ l.getD k 0 ∧ l.getD k 0 ≤ 9 := by
  by_cases hk : k < l.length
  · have e : l.getD k 0 = l[k] := by simp [List.getD, List.getElem?_eq_getElem hk]
    rw [e]; exact h _ (List.getElem_mem _)
  · have e : l.getD k 0 = 0 := by simp [List.getD, List.getElem?_eq_none (show l.length ≤ k by omega)]
    rw [e]; omega
theorem take_lt {l : List Int} (h : Dg l) (k : Nat) : val (l.take k) < p10 k := by
  have h1 := val_lt (h.take k)
  have h2 := p10_mono (show (l.take k).length ≤ k by rw [List.length_take]; omega)
  omega
theorem lt_of_drop {l m : List Int} (hl : Dg l) (hm : Dg m) (k : Nat) (h : val (l.drop k) < val (m.drop k)) : val l < val m := by
  have h1 := val_split l k; have h2 := val_split m k
  have h3 := take_lt hl k; have h4 := val_nn (hm.take k)
  have h5 : p10 k * (val (l.drop k) + 1) ≤ p10 k * val (m.drop k) := Int.mul_le_mul_of_nonneg_left (by omega) (by have := p10_pos k; omega)
  rw [Int.mul_add] at h5
  omega
theorem dig_lt {l m : List Int} (hl : Dg l) (hm : Dg m) (k : Nat) (h : val (l.drop (k + 1)) = val (m.drop (k + 1))) (hd : l.getD k 0 < m.getD k 0) : val l < val m := by
  refine lt_of_drop hl hm k ?_
  rw [drop_val l k, drop_val m k, h]; omega
theorem tqr (x : Int) : x = x.tmod 10 + 10 * x.tdiv 10 := (Int.tmod_add_mul_tdiv x 10).symm
theorem plus_step {out za zb : List Int} {k : Nat} {c : Int} (h : val out + p10 k * c = val (za.take k) + val (zb.take k)) (hl : out.length = k) (x : Int) (hx : x = za.getD k 0 + zb.getD k 0 + c) :
    val (out ++ [x % 10]) + p10 (k + 1) * (x / 10) = val (za.take (k + 1)) + val (zb.take (k + 1)) := by
  rw [val_snoc, hl, val_take_succ, val_take_succ]
  have e : x = x % 10 + 10 * (x / 10) := by omega
  generalize x % 10 = r at *
  generalize x / 10 = q at *
  simp only [p10]
  grind
theorem plus_end {out za zb : List Int} {k : Nat} {c : Int} (h : val out + p10 k * c = val (za.take k) + val (zb.take k)) (ho : Dg out) (ha : Dg za) (hb : Dg zb) (hc : 0 ≤ c) (h1 : za.length < k) (h2 : zb.length < k) : val out = val za + val zb := by
  rw [List.take_of_length_le (by omega), List.take_of_length_le (by omega)] at h
  obtain ⟨j, rfl⟩ : ∃ j, k = j + 1 := ⟨k - 1, by omega⟩
  have h3 := val_lt ha; have h4 := val_lt hb
  have h5 := p10_mono (show za.length ≤ j by omega); have h6 := p10_mono (show zb.length ≤ j by omega)
  have h7 := val_nn ho
  have h8 := p10_pos j
  have : c = 0 := by
    apply Classical.byContradiction; intro hn
    have h9 : p10 (j + 1) * 1 ≤ p10 (j + 1) * c := Int.mul_le_mul_of_nonneg_left (by omega) (by have := p10_pos (j + 1); omega)
    simp only [p10] at h9 h
    omega
  subst this
  omega
theorem minus_step {out za zb : List Int} {k : Nat} {c c' d : Int} (h : val out - p10 k * c = val (za.take k) - val (zb.take k)) (hl : out.length = k) (hx : d - 10 * c' = za.getD k 0 - zb.getD k 0 - c) :
    val (out ++ [d]) - p10 (k + 1) * c' = val (za.take (k + 1)) - val (zb.take (k + 1)) := by
  rw [val_snoc, hl, val_take_succ, val_take_succ]
  simp only [p10]
  grind
theorem minus_end {out za zb : List Int} {c : Int} (h : val out - p10 za.length * c = val (za.take za.length) - val (zb.take za.length)) (ho : Dg out) (hl : out.length = za.length) (hc : 0 ≤ c) (h1 : zb.length ≤ za.length) (h2 : val zb ≤ val za) : val out = val za - val zb := by
  rw [List.take_of_length_le (by omega), List.take_of_length_le (by omega)] at h
  have h3 := val_lt ho
  rw [hl] at h3
  have : c = 0 := by
    apply Classical.byContradiction; intro hn
    have h9 : p10 za.length * 1 ≤ p10 za.length * c := Int.mul_le_mul_of_nonneg_left (by omega) (by have := p10_pos za.length; omega)
    omega
  subst this
  omega
theorem len_of_val {za zb : List Int} (hb : Canon zb) (ha : Dg za) (h : val zb ≤ val za) : zb.length ≤ za.length := hb.len_le (by have := val_lt ha; omega)
/-- Which of two is longer. -/
def sz (x y : Int) : Int := if x < y then -1 else if y < x then 1 else 0
end Go.Proofs.Ytfpnkcmplmkghaa.Bg
