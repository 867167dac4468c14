/- Numbers in digits, plain: rows of digits, the last one first. Nothing of the program. -/
import Derived.Test.YtfpnkcmplmkghaaCm
set_option linter.unusedVariables false
namespace Go.Proofs.Ytfpnkcmplmkghaa.Bg

def val : List Int → Int
  | [] => 0
  | d :: l => d + 10 * val l
def Dg (l : List Int) : Prop := ∀ d ∈ l, 0 ≤ d ∧ d ≤ 9
def p10 : Nat → Int
  | 0 => 1
  | n + 1 => 10 * p10 n
theorem p10_pos : ∀ n, 0 < p10 n
  | 0 => by decide
  | n + 1 => by have := p10_pos n; simp only [p10]; omega
theorem p10_mono : ∀ {m n : Nat}, m ≤ n → p10 m ≤ p10 n
  | 0, n, _ => by have := p10_pos n; simp only [p10]; omega
  | m + 1, 0, h => by omega
  | m + 1, n + 1, h => by have := p10_mono (show m ≤ n by omega); simp only [p10]; omega
theorem p10_add (m : Nat) : ∀ n, p10 (m + n) = p10 m * p10 n
  | 0 => by simp [p10]
  | n + 1 => by rw [← Nat.add_assoc]; simp only [p10]; rw [p10_add m n]; grind
theorem Dg.tail {d : Int} {l : List Int} (h : Dg (d :: l)) : Dg l := fun x hx => h x (by simp [hx])
theorem Dg.nil : Dg [] := fun x hx => by simp at hx
theorem Dg.append {l m : List Int} (h : Dg l) (k : Dg m) : Dg (l ++ m) := fun x hx => by
  rcases List.mem_append.1 hx with q | q
  · exact h x q
  · exact k x q
theorem Dg.one {d : Int} (h : 0 ≤ d ∧ d ≤ 9) : Dg [d] := fun x hx => by simp at hx; subst hx; exact h
theorem Dg.take {l : List Int} (h : Dg l) (n : Nat) : Dg (l.take n) := fun x hx => h x (List.mem_of_mem_take hx)
theorem val_nn : ∀ {l : List Int}, Dg l → 0 ≤ val l
  | [], _ => by simp [val]
  | d :: l, h => by have := val_nn h.tail; have := h d (by simp); simp only [val]; omega
theorem val_lt : ∀ {l : List Int}, Dg l → val l < p10 l.length
  | [], _ => by simp [val, p10]
  | d :: l, h => by have := val_lt h.tail; have := h d (by simp); simp only [val, p10, List.length_cons]; omega
theorem val_append : ∀ (l m : List Int), val (l ++ m) = val l + p10 l.length * val m
  | [], m => by simp [val, p10]
  | d :: l, m => by simp only [List.cons_append, val, val_append l m, List.length_cons, p10]; grind
theorem val_snoc (l : List Int) (d : Int) : val (l ++ [d]) = val l + p10 l.length * d := by rw [val_append]; simp [val]
theorem val_zero : ∀ {l : List Int}, (∀ d ∈ l, d = 0) → val l = 0
  | [], _ => rfl
  | d :: l, h => by
    have h1 := h d (by simp)
    have h2 := val_zero (l := l) (fun x hx => h x (by simp [hx]))
    simp only [val, h1, h2]; omega
theorem val_take {l : List Int} (n : Nat) (h : ∀ d ∈ l.drop n, d = 0) : val (l.take n) = val l := by
  have e : l = l.take n ++ l.drop n := (List.take_append_drop n l).symm
  rw [e, val_append, val_zero h]
  simp
/-- No 0 ahead of others. -/
def Canon (l : List Int) : Prop := Dg l ∧ ∀ (h : l ≠ []), l.getLast h ≠ 0
theorem Canon.nil : Canon [] := ⟨Dg.nil, fun h => absurd rfl h⟩
theorem Canon.tail {d : Int} {l : List Int} (h : Canon (d :: l)) : Canon l := by
  refine ⟨h.1.tail, fun hl => ?_⟩
  have := h.2 (by simp)
  rwa [List.getLast_cons hl] at this
theorem Canon.pos : ∀ {l : List Int}, Canon l → l ≠ [] → 0 < val l
  | [d], h, _ => by
    have h1 := h.2 (by simp)
    have h2 := h.1 d (by simp)
    simp at h1
    simp [val]; omega
  | d :: e :: l, h, _ => by
    have := Canon.pos h.tail (by simp)
    have := h.1 d (by simp)
    simp only [val] at *; omega
theorem Canon.uniq : ∀ {l m : List Int}, Canon l → Canon m → val l = val m → l = m
  | [], [], _, _, _ => rfl
  | [], e :: m, _, hm, h => by have := hm.pos (by simp); simp [val] at h this; omega
  | d :: l, [], hl, _, h => by have := hl.pos (by simp); simp [val] at h this; omega
  | d :: l, e :: m, hl, hm, h => by
    have h1 := hl.1 d (by simp); have h2 := hm.1 e (by simp)
    simp only [val] at h
    have e1 : d = e := by omega
    have e2 : val l = val m := by omega
    rw [e1, Canon.uniq hl.tail hm.tail e2]
theorem Canon.len : ∀ {l : List Int}, Canon l → l ≠ [] → p10 (l.length - 1) ≤ val l
  | [d], h, _ => by have := h.pos (by simp); simp [p10]; omega
  | d :: e :: l, h, _ => by
    have h1 := Canon.len h.tail (by simp)
    have h2 := h.1 d (by simp)
    have e3 : (d :: e :: l).length - 1 = ((e :: l).length - 1) + 1 := by simp
    rw [e3]
    simp only [p10]
    have e4 : val (d :: e :: l) = d + 10 * val (e :: l) := rfl
    rw [e4]; omega
theorem Canon.len_le {l : List Int} (h : Canon l) {n : Nat} (hv : val l < p10 n) : l.length ≤ n := by
  apply Classical.byContradiction; intro hn
  have h1 := h.len (by intro e; subst e; simp at hn)
  have := p10_mono (show n ≤ l.length - 1 by omega)
  omega
/-- The first ones of which the last is no 0, the others being 0. -/
theorem canon_take {l : List Int} {n : Nat} (hd : Dg l) (hn : n ≤ l.length) (hz : ∀ d ∈ l.drop n, d = 0) (hl : n = 0 ∨ l.getD (n - 1) 0 ≠ 0) : Canon (l.take n) ∧ val (l.take n) = val l := by
  refine ⟨⟨hd.take n, fun hne => ?_⟩, val_take n hz⟩
  rcases hl with h0 | h0
  · subst h0; simp at hne
  · have hpos : 0 < n := by
      apply Classical.byContradiction; intro hc
      have : n = 0 := by omega
      subst this; simp at hne
    rw [List.getLast_eq_getElem]
    have hlen : (l.take n).length = n := by rw [List.length_take]; omega
    have e : (l.take n)[(l.take n).length - 1]'(by omega) = l.getD (n - 1) 0 := by
      rw [List.getElem_take]
      simp only [hlen]
      simp [List.getD, List.getElem?_eq_getElem (show n - 1 < l.length by omega)]
    rw [e]; exact h0
theorem drop_zero {l : List Int} {n : Nat} (hn : n < l.length) (hz : ∀ d ∈ l.drop (n + 1), d = 0) (h0 : l.getD n 0 = 0) : ∀ d ∈ l.drop n, d = 0 := by
  intro d hd
  rw [List.drop_eq_getElem_cons hn] at hd
  rcases List.mem_cons.1 hd with h | h
  · rw [h]; simpa [List.getD, List.getElem?_eq_getElem hn] using h0
  · exact hz d h
theorem wf_dg {l : List Int} (h : Dg l) : ∀ n ∈ l, (Lit.int .i64 n).wf = true := fun n hn => wf_of_I (by have := h n hn; unfold I; omega)
/-- A number as it lies in memory: below 0 or not, its digits. -/
def NumV (b : Bool) (a : Option Addr) (len cap : Nat) : Value := .agg #[.bool b, .slice a len cap]
def IsNum (w : World) (v : Value) (m : Int) : Prop :=
  ∃ a len cap zs, v = NumV (decide (m < 0)) a len cap ∧ IsRow .i64 w a len zs ∧ Canon zs ∧ val zs = (m.natAbs : Int) ∧ len ≤ cap ∧ (a = none → cap = 0)
theorem IsNum.gr {w w' : World} {v : Value} {m : Int} (h : IsNum w v m) (g : Gr w w') : IsNum w' v m := by
  obtain ⟨a, len, cap, zs, h1, h2, h3, h4, h5⟩ := h
  exact ⟨a, len, cap, zs, h1, h2.later g, h3, h4, h5⟩
end Go.Proofs.Ytfpnkcmplmkghaa.Bg
