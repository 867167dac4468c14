/- Numbers in digits, plain: products. Nothing of the program. -/
import Derived.Test.YtfpnkcmplmkghaaBq
set_option linter.unusedVariables false
namespace Go.Proofs.Ytfpnkcmplmkghaa.Bg
theorem val_set : ∀ (l : List Int) (j : Nat) (v : Int), j < l.length → val (l.set j v) = val l + p10 j * (v - l.getD j 0)
  | [], j, v, h => by simp at h
  | d :: l, 0, v, _ => by simp [val, p10]; omega
  | d :: l, j + 1, v, h => by
    have := val_set l j v (by simpa using h)
    simp only [List.set_cons_succ, val, p10, List.getD_cons_succ, this]
    grind
theorem getD_set (l : List Int) (i j : Nat) (v : Int) (h : i < l.length) : (l.set i v).getD j 0 = if j = i then v else l.getD j 0 := by
  by_cases e : j = i
  · subst e; simp [List.getD, h]
  · rw [if_neg e]; simp [List.getD, List.getElem?_set_ne (Ne.symm e)]
/-- The row while row i's digit k is at hand. -/
structure Mid (N lb i k : Nat) (os : List Int) : Prop where
  len : os.length = N
  low : ∀ j, 0 ≤ os.getD j 0
  most : ∀ j, j ≠ i + k → os.getD j 0 ≤ 9
  here : os.getD (i + k) 0 ≤ 18
  past : k < lb → ∀ j, i + lb ≤ j → os.getD j 0 = 0
  past1 : ∀ j, i + lb < j → os.getD j 0 = 0
  full : k = lb → os.getD (i + k) 0 ≤ 9
theorem Mid.nine {N lb i k : Nat} {os : List Int} (h : Mid N lb i k os) (hk : k = 0 ∨ k = lb) (h0 : k = 0 → os.getD (i + k) 0 ≤ 9) : ∀ j, os.getD j 0 ≤ 9 := fun j => by
  by_cases e : j = i + k
  · subst e
    rcases hk with q | q
    · exact h0 q
    · exact h.full q
  · exact h.most j e
def stp (os : List Int) (J : Nat) (x : Int) : List Int := ((os.set J x).set (J + 1) (os.getD (J + 1) 0 + x / 10)).set J (x % 10)
theorem stp_get (os : List Int) (J : Nat) (x : Int) (h : J + 1 < os.length) (j : Nat) : (stp os J x).getD j 0 = if j = J then x % 10 else if j = J + 1 then os.getD (J + 1) 0 + x / 10 else os.getD j 0 := by
  unfold stp
  rw [getD_set _ _ _ _ (by simp; omega), getD_set _ _ _ _ (by simp; omega), getD_set _ _ _ _ (by omega)]
  by_cases e : j = J
  · rw [if_pos e, if_pos e]
  · rw [if_neg e, if_neg e, if_neg e]
theorem stp_len (os : List Int) (J : Nat) (x : Int) : (stp os J x).length = os.length := by simp [stp]
theorem stp_val (os : List Int) (J : Nat) (x : Int) (h : J + 1 < os.length) : val (stp os J x) = val os + p10 J * (x - os.getD J 0) := by
  unfold stp
  have a1 := val_set os J x (by omega)
  have a2 := val_set (os.set J x) (J + 1) (os.getD (J + 1) 0 + x / 10) (by rw [List.length_set]; omega)
  have a3 := val_set ((os.set J x).set (J + 1) (os.getD (J + 1) 0 + x / 10)) J (x % 10) (by rw [List.length_set, List.length_set]; omega)
  rw [getD_set os J (J + 1) x (by omega), if_neg (by omega)] at a2
  rw [getD_set (os.set J x) (J + 1) J _ (by rw [List.length_set]; omega), if_neg (by omega), getD_set os J J x (by omega), if_pos rfl] at a3
  rw [a3, a2, a1]
  have e : x = x % 10 + 10 * (x / 10) := by omega
  generalize x % 10 = r at *
  generalize x / 10 = q at *
  simp only [p10]
  grind
theorem Mid.step {N lb i k : Nat} {os : List Int} (h : Mid N lb i k os) (hk : k < lb) (hN : i + lb + 1 ≤ N) {a b : Int} (ha : 0 ≤ a ∧ a ≤ 9) (hb : 0 ≤ b ∧ b ≤ 9) :
    Mid N lb i (k + 1) (stp os (i + k) (os.getD (i + k) 0 + a * b)) := by
  have hL : i + k + 1 < os.length := by rw [h.len]; omega
  have hab : 0 ≤ a * b ∧ a * b ≤ 81 := by
    have h1 : 0 ≤ a * b := Int.mul_nonneg ha.1 hb.1
    have h2 : a * b ≤ 9 * 9 := Int.mul_le_mul ha.2 hb.2 hb.1 (by omega)
    omega
  have h3 := h.low (i + k); have h4 := h.here; have h5 := h.most (i + k + 1) (by omega); have h6 := h.low (i + k + 1)
  generalize a * b = p at *
  have hg := stp_get os (i + k) (os.getD (i + k) 0 + p) hL
  refine ⟨by rw [stp_len, h.len], fun j => ?_, fun j hj => ?_, ?_, fun hk1 j hj => ?_, fun j hj => ?_, fun hk1 => ?_⟩
  · rw [hg]
    have := h.low j
    split
    · omega
    · split <;> omega
  · rw [hg]
    split
    · omega
    · split
      · omega
      · exact h.most j (by omega)
  · rw [hg, if_neg (by omega), if_pos (by omega)]; omega
  · rw [hg, if_neg (by omega), if_neg (by omega)]; exact h.past hk j hj
  · rw [hg, if_neg (by omega), if_neg (by omega)]; exact h.past1 j hj
  · rw [hg, if_neg (by omega), if_pos (by omega)]
    have := h.past hk (i + k + 1) (by omega)
    omega
/-- Between the rows. -/
theorem Mid.next {N lb i : Nat} {os : List Int} (h : Mid N lb i lb os) : Mid N lb (i + 1) 0 os := by
  have h9 := h.nine (.inr rfl) (fun e => by have := h.full rfl; exact this)
  exact ⟨h.len, h.low, fun j _ => h9 j, by have := h9 (i + 1 + 0); omega, fun _ j hj => h.past1 j (by omega), fun j hj => h.past1 j (by omega), fun _ => h9 _⟩
theorem Mid.first (N lb : Nat) : Mid N lb 0 0 (List.replicate N 0) := by
  have e : ∀ j, (List.replicate N (0 : Int)).getD j 0 = 0 := fun j => by
    by_cases h : j < N
    · simp [List.getD, h]
    · simp [List.getD, h]
  exact ⟨by simp, fun j => by rw [e]; omega, fun j _ => by rw [e]; omega, by rw [e]; omega, fun _ j _ => e j, fun j _ => e j, fun _ => by rw [e]; omega⟩
theorem Mid.dg {N lb i : Nat} {os : List Int} (h : Mid N lb i 0 os) (h9 : ∀ j, os.getD j 0 ≤ 9) : Dg os := fun d hd => by
  obtain ⟨j, hj, rfl⟩ := List.getElem_of_mem hd
  have e : os.getD j 0 = os[j] := by simp [List.getD, List.getElem?_eq_getElem hj]
  rw [← e]; exact ⟨h.low j, h9 j⟩
theorem val_rep (N : Nat) : val (List.replicate N 0) = 0 := val_zero (fun d h => (List.mem_replicate.1 h).2)
/-- One digit more of the second one. -/
theorem inner_val {za zb os : List Int} {i k : Nat} (h : val os = val (za.take i) * val zb + p10 i * za.getD i 0 * val (zb.take k)) (hL : i + k + 1 < os.length) :
    val (stp os (i + k) (os.getD (i + k) 0 + za.getD i 0 * zb.getD k 0)) = val (za.take i) * val zb + p10 i * za.getD i 0 * val (zb.take (k + 1)) := by
  rw [stp_val _ _ _ hL, h, val_take_succ, p10_add]
  grind
theorem outer_val {za zb os : List Int} {i : Nat} (h : val os = val (za.take i) * val zb + p10 i * za.getD i 0 * val (zb.take zb.length)) : val os = val (za.take (i + 1)) * val zb := by
  rw [h, val_take_succ, List.take_length]
  grind
/-- The last pass turns nothing. -/
theorem same_set {os : List Int} {j : Nat} {v : Int} (h : v = os.getD j 0) : os.set j v = os := by
  subst h
  by_cases hj : j < os.length
  · refine List.ext_getElem (by simp) fun n h1 h2 => ?_
    by_cases e : j = n
    · subst e; simp [List.getD, List.getElem?_eq_getElem hj]
    · simp [List.getElem_set_ne e]
  · exact List.set_eq_of_length_le (by omega)
theorem sign_mul {m n : Int} (h : m * n ≠ 0) : (!(decide (m < 0) == decide (n < 0))) = decide (m * n < 0) := by
  have h1 : m ≠ 0 := fun e => h (by rw [e, Int.zero_mul])
  have h2 : n ≠ 0 := fun e => h (by rw [e, Int.mul_zero])
  by_cases hm : m < 0 <;> by_cases hn : n < 0
  · have := Int.mul_pos_of_neg_of_neg hm hn
    have h3 : ¬ m * n < 0 := by omega
    simp [hm, hn, h3]
  · have := Int.mul_neg_of_neg_of_pos hm (show 0 < n by omega)
    simp [hm, hn, this]
  · have := Int.mul_neg_of_pos_of_neg (show 0 < m by omega) hn
    simp [hm, hn, this]
  · have := Int.mul_pos (show 0 < m by omega) (show 0 < n by omega)
    have h3 : ¬ m * n < 0 := by omega
    simp [hm, hn, h3]
end Go.Proofs.Ytfpnkcmplmkghaa.Bg
