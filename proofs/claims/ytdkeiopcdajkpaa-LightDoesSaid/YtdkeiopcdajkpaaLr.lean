/- Lights: plain numbers; the contracts of units, handed to the reckoner for chapter 25. -/
import Derived.Test.YtdkeiopcdajkpaaFq
import Derived.Test.YtdkeiopcdajkpaaM1
set_option linter.unusedVariables false
namespace Go.Proofs.Ytdkeiopcdajkpaa.Sx
open Go.RowKit

theorem home_bd {x : Int} (h : home x = true) : -8192 ≤ x ∧ x ≤ 8192 := by simpa [home] using h
theorem ss_bd' {x : Int} (h : ss x = true) : -16384 ≤ x ∧ x ≤ 16384 := by simpa [ss] using h
structure Lt (a0 a1 a2 a3 a4 a5 a6 a7 a8 : Int) : Prop where
  k : 1 ≤ a0 ∧ a0 ≤ 3
  p : 0 ≤ a7 ∧ a7 ≤ 255
  c : 0 ≤ a8 ∧ a8 ≤ 1024
  b1 : -16384 ≤ a1 ∧ a1 ≤ 16384
  b2 : -16384 ≤ a2 ∧ a2 ≤ 16384
  b3 : -16384 ≤ a3 ∧ a3 ≤ 16384
  b4 : -16384 ≤ a4 ∧ a4 ≤ 16384
  b5 : -16384 ≤ a5 ∧ a5 ≤ 16384
  b6 : -16384 ≤ a6 ∧ a6 ≤ 16384
  d : a0 = 2 ∨ ¬ (a4 = 0 ∧ a5 = 0 ∧ a6 = 0)
theorem lr_iff {a0 a1 a2 a3 a4 a5 a6 a7 a8 : Int} : lr [a0, a1, a2, a3, a4, a5, a6, a7, a8] = true ↔ Lt a0 a1 a2 a3 a4 a5 a6 a7 a8 := by
  have e : lr [a0, a1, a2, a3, a4, a5, a6, a7, a8] = true ↔ (((1 ≤ a0 ∧ a0 ≤ 3 ∧ 0 ≤ a7 ∧ a7 ≤ 255 ∧ 0 ≤ a8 ∧ a8 ≤ 1024 ∧ (-16384 ≤ a1 ∧ a1 ≤ 16384) ∧ (-16384 ≤ a2 ∧ a2 ≤ 16384) ∧ (-16384 ≤ a3 ∧ a3 ≤ 16384) ∧ (-16384 ≤ a4 ∧ a4 ≤ 16384) ∧ (-16384 ≤ a5 ∧ a5 ≤ 16384) ∧ (-16384 ≤ a6 ∧ a6 ≤ 16384)) ∧ (a0 = 2 ∨ ¬ (a4 = 0 ∧ a5 = 0 ∧ a6 = 0)))) := by
    simp [lr, ss, z3, List.take, List.drop]
    intros; omega
  rw [e]
  constructor
  · rintro ⟨⟨h1, h2, h3, h4, h5, h6, h7, h8, h9, h10, h11, h12⟩, h13⟩
    exact ⟨⟨h1, h2⟩, ⟨h3, h4⟩, ⟨h5, h6⟩, h7, h8, h9, h10, h11, h12, h13⟩
  · rintro ⟨⟨h1, h2⟩, ⟨h3, h4⟩, ⟨h5, h6⟩, h7, h8, h9, h10, h11, h12, h13⟩
    exact ⟨⟨h1, h2, h3, h4, h5, h6, h7, h8, h9, h10, h11, h12⟩, h13⟩
/-- The unit of a light's way. -/
theorem lt_dir {a0 a1 a2 a3 a4 a5 a6 a7 a8 : Int} (h : Lt a0 a1 a2 a3 a4 a5 a6 a7 a8) (h2 : a0 ≠ 2) : ue [a4, a5, a6] = 0 := by
  have := h.b4; have := h.b5; have := h.b6
  exact ue_zero (by omega) (by omega) (by omega) (h.d.resolve_left h2)
theorem bd_I {x : Int} (h : -1048576 ≤ x ∧ x ≤ 1048576) : I x := ⟨by omega, by omega⟩
theorem getD_take {l : List Int} {k n : Nat} (h : k < n) : (l.take n).getD k 0 = l.getD k 0 := by
  simp [List.getD_eq_getElem?_getD, h]
theorem getD_drop {l : List Int} {k n : Nat} : (l.drop n).getD k 0 = l.getD (n + k) 0 := by
  simp [List.getD_eq_getElem?_getD, List.getElem?_drop]
theorem lr_at {l : List Int} (h : lr l = true) (k : Nat) (hk : k < 9) : -16384 ≤ l.getD k 0 ∧ l.getD k 0 ≤ 16384 := by
  unfold lr at h
  simp only [Bool.and_eq_true, decide_eq_true_eq] at h
  obtain ⟨⟨h1, h2, h3, h4, h5, h6, h7⟩, -⟩ := h
  have g := fun k => ss_bd' (all_getD (p := ss) (by decide) h7 k)
  match k, hk with
  | 0, _ => omega
  | 7, _ => omega
  | 8, _ => omega
  | 1, _ => have := g 0; rw [getD_take (by decide), getD_drop] at this; exact this
  | 2, _ => have := g 1; rw [getD_take (by decide), getD_drop] at this; exact this
  | 3, _ => have := g 2; rw [getD_take (by decide), getD_drop] at this; exact this
  | 4, _ => have := g 3; rw [getD_take (by decide), getD_drop] at this; exact this
  | 5, _ => have := g 4; rw [getD_take (by decide), getD_drop] at this; exact this
  | 6, _ => have := g 5; rw [getD_take (by decide), getD_drop] at this; exact this
theorem we_at {l : List Int} (h : we l = 0) (k : Nat) : -16384 ≤ l.getD k 0 ∧ l.getD k 0 ≤ 16384 := by
  unfold we at h
  split at h
  case isFalse => cases h
  rename_i h1
  split at h
  case isFalse => cases h
  rename_i h2
  by_cases hk : k < 9
  · have := lr_at h1 k hk; rw [getD_take hk] at this; exact this
  · have := home_bd (all_getD (p := home) (by decide) h2 (k - 9)); rw [getD_drop, show 9 + (k - 9) = k by omega] at this; omega
theorem uv_bd' (a b c : Int) (k : Nat) : I (0 - uv k [a, b, c]) ∧ I (4 * (0 - uv k [a, b, c])) := by
  by_cases hk : k < 3
  · have := uv_bd a b c k hk
    exact ⟨⟨by omega, by omega⟩, ⟨by omega, by omega⟩⟩
  · have : uv k [a, b, c] = 0 := by
      unfold uv; split
      · unfold uq
        have e : ([a, b, c] : List Int).getD k 0 = 0 := by
          match k, hk with
          | k + 3, _ => simp
        rw [e]; unfold Wh.fq; split <;> simp
      · rfl
    rw [this]; exact ⟨⟨by decide, by decide⟩, ⟨by decide, by decide⟩⟩
theorem uv_bd2 (a b c : Int) (k : Nat) : -1024 ≤ uv k [a, b, c] ∧ uv k [a, b, c] ≤ 1024 := by
  by_cases hk : k < 3
  · exact uv_bd a b c k hk
  · have : uv k [a, b, c] = 0 := by
      unfold uv; split
      · unfold uq
        have e : ([a, b, c] : List Int).getD k 0 = 0 := by
          match k, hk with
          | k + 3, _ => simp
        rw [e]; unfold Wh.fq; split <;> simp
      · rfl
    rw [this]; exact ⟨by decide, by decide⟩
theorem wv_bd (k : Nat) (l : List Int) : -1024 ≤ wv k l ∧ wv k l ≤ 1024 := by
  unfold wv
  split
  · split
    · have := uv_bd2 (l.getD 4 0) (l.getD 5 0) (l.getD 6 0) k; unfold ldir; omega
    · exact uv_bd2 _ _ _ k
  · exact ⟨by decide, by decide⟩
theorem wp_I (k : Nat) (l : List Int) : I (wp k l) := by
  unfold wp
  split
  · rename_i h
    have g := we_at h
    split
    · have := uv_bd2 (l.getD 4 0) (l.getD 5 0) (l.getD 6 0) k
      have g' := g (k + 9)
      unfold ldir
      exact ⟨by omega, by omega⟩
    · have := g (k + 1); exact ⟨by omega, by omega⟩
  · exact ⟨by decide, by decide⟩
theorem we_I (l : List Int) : I (we l) := by unfold we; (repeat' split) <;> exact ⟨by decide, by decide⟩
theorem f44_I (k : Nat) (l : List Int) : I (fi 44 k l) := by
  match k with
  | 0 => have := wv_bd 0 l; exact ⟨by show _ ≤ wv 0 l; omega, by show wv 0 l ≤ _; omega⟩
  | 1 => have := wv_bd 1 l; exact ⟨by show _ ≤ wv 1 l; omega, by show wv 1 l ≤ _; omega⟩
  | 2 => have := wv_bd 2 l; exact ⟨by show _ ≤ wv 2 l; omega, by show wv 2 l ≤ _; omega⟩
  | 3 => exact wp_I 0 l
  | 4 => exact wp_I 1 l
  | 5 => exact wp_I 2 l
  | 6 => exact we_I l
  | k + 7 => exact wp_I (k + 4) l
def ok2 (n : Nat) : Bool := okId n || Nat.beq n 44
theorem ok2_I (f k : Nat) (l : List Int) (h : ok2 f = true) : I (E.fi f k l) := by
  unfold ok2 at h
  simp only [Bool.or_eq_true] at h
  rcases h with h | h
  · exact okId_I f k l h
  · have := Nat.eq_of_beq_eq_true h; subst this; exact f44_I k l
theorem ty_beams : TyOk Try.prog 78 ⟨.func #[81] #[23, 23, 26] false, 1, [.nilFunc]⟩ := ⟨by kernel_rfl, by kernel_rfl⟩
noncomputable def ck0 : Cx := ⟨(78, ⟨.func #[81] #[23, 23, 26] false, 1, [.nilFunc]⟩) :: cm1.ty, cm1.fn, cm1.con, cm1.inl, cm1.eqs⟩
theorem ck0_ok (W : World) : ∀ l, AllI l → CxOk Try.prog (E.at l) W ck0 := fun l h => ⟨List.forall_mem_cons.2 ⟨ty_beams, (cm1_ok W l h).ty⟩, (cm1_ok W l h).fn, (cm1_ok W l h).con, (cm1_ok W l h).eqs, (cm1_ok W l h).mixed⟩
noncomputable def ck1 : Cx := ⟨ck0.ty, ck0.fn, [flatCon 13 [.g 3] [.g 3, .i] 40 (rangesOk ok2), flatCon 14 [.g 3] [.g 3, .i] 40 (rangesOk ok2), flatCon 19 [.g 3, .g 3] [.i, .i] 43 (rangesOk ok2), flatCon 20 [.g 3, .g 3] [.i, .i] 43 (rangesOk ok2)] ++ ck0.con, ck0.inl, ck0.eqs⟩
theorem ck1_ok (W : World) : ∀ l, AllI l → CxOk Try.prog (E.at l) W ck1 :=
  cx_more (fun l h => ck0_ok W l h) (List.forall_mem_cons.2 ⟨flat_conI ok2_I (c_unit W), List.forall_mem_cons.2 ⟨flat_conI ok2_I (c_runit W), List.forall_mem_cons.2 ⟨flat_conI ok2_I (c_lambert W), List.forall_mem_cons.2 ⟨flat_conI ok2_I (c_rlambert W), (fun _ h => by cases h)⟩⟩⟩⟩)
end Go.Proofs.Ytdkeiopcdajkpaa.Sx
