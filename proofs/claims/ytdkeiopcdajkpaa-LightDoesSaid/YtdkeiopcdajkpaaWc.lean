/- The contracts of package whole, handed to the reckoner. -/
import Derived.Test.YtdkeiopcdajkpaaL5
import Derived.Test.YtdkeiopcdajkpaaRs
import Derived.Test.YtdkeiopcdajkpaaFp
set_option linter.unusedVariables false
namespace Go.Proofs.Ytdkeiopcdajkpaa.Sx
open Go.RowKit

theorem c_floor (W : World) : Flat Try.prog E W AllI 64 [.i, .i] fun l => tupleV (resV E 30 l [.i, .i, .i] 0 0) := by
  refine flat_calls rfl fun l w hl hI => ?_
  obtain ⟨a, l1, rfl, h1⟩ := cut1 hl
  obtain ⟨b, l2, rfl, h2⟩ := cut1 h1
  obtain rfl := cut0 h2
  refine (Wh.floor_any a b (hI a (by simp)) (hI b (by simp)) w).mono ?_
  rintro e w' ⟨rfl, hd⟩
  exact ⟨rfl, hd.gr⟩
theorem c_rfloor (W : World) : Flat Try.prog E W AllI 66 [.i, .i] fun l => tupleV (resV E 30 l [.i, .i, .i] 0 0) := by
  refine flat_calls rfl fun l w hl hI => ?_
  obtain ⟨a, l1, rfl, h1⟩ := cut1 hl
  obtain ⟨b, l2, rfl, h2⟩ := cut1 h1
  obtain rfl := cut0 h2
  refine (Wh.rfloor_any a b (hI a (by simp)) (hI b (by simp)) w).mono ?_
  rintro e w' ⟨rfl, rfl⟩
  exact ⟨rfl, Gr.refl _⟩
theorem c_sqrt (W : World) : Flat Try.prog E W AllI 36 [.i] fun l => tupleV (resV E 31 l [.i, .i] 0 0) := by
  refine flat_calls rfl fun l w hl hI => ?_
  obtain ⟨a, l1, rfl, h1⟩ := cut1 hl
  obtain rfl := cut0 h1
  by_cases h : a < 0
  · refine (Wh.sqrt_neg a h w).mono ?_
    rintro e w' ⟨rfl, hd⟩
    exact ⟨by simp [tupleV, resV, E, fi, h], hd⟩
  · have hm : ¬ 9223372036854775807 < a := by have := (hI a (by simp)).2; omega
    refine (Wh.sqrt_any a (by omega) (hI a (by simp)).2 w).mono ?_
    rintro e w' ⟨rfl, hd⟩
    exact ⟨by simp [tupleV, resV, E, fi, h, hm, Wh.rt_sqC (show 0 ≤ a by omega) (hI a (by simp)).2], hd⟩
theorem c_rsqrt (W : World) : Flat Try.prog E W AllI 43 [.i] fun l => tupleV (resV E 31 l [.i, .i] 0 0) := by
  refine flat_calls rfl fun l w hl hI => ?_
  obtain ⟨a, l1, rfl, h1⟩ := cut1 hl
  obtain rfl := cut0 h1
  by_cases h : a < 0
  · refine (Wh.rsqrt_neg a h w).mono ?_
    rintro e w' ⟨rfl, rfl⟩
    exact ⟨by simp [tupleV, resV, E, fi, h], Gr.refl _⟩
  · have hm : ¬ 9223372036854775807 < a := by have := (hI a (by simp)).2; omega
    refine (Wh.rsqrt_any a (by omega) (hI a (by simp)).2 w).mono ?_
    rintro e w' ⟨rfl, rfl⟩
    exact ⟨by simp [tupleV, resV, E, fi, h, hm, Wh.rt_sqC (show 0 ≤ a by omega) (hI a (by simp)).2], Gr.refl _⟩
def okId (n : Nat) : Bool := Nat.beq n 31 || (Nat.beq n 40 || Nat.beq n 6)
theorem okId_I (f k : Nat) (l : List Int) (h : okId f = true) : I (E.fi f k l) := by
  unfold okId at h
  simp only [Bool.or_eq_true] at h
  rcases h with h | h | h
  case inr.inl => have := Nat.eq_of_beq_eq_true h; subst this; exact f40_I k l
  case inr.inr => have := Nat.eq_of_beq_eq_true h; subst this; exact x3_I k l
  have := Nat.eq_of_beq_eq_true h; subst this
  show I (fi 31 k l)
  cases k with
  | zero =>
    simp only [fi]
    split
    · exact I_zero
    · split
      · exact I_zero
      · have := Wh.rt_le (n := l.getD 0 0) (by omega) (by omega)
        rw [Wh.rt_sqC (by omega) (by omega)] at this
        exact ⟨by omega, by omega⟩
  | succ k =>
    simp only [fi]
    split
    · exact ⟨by decide, by decide⟩
    · exact I_zero
noncomputable def cx6 : Cx := ⟨cx5.ty, cx5.fn, [flatCon 64 [.i, .i] [.i, .i, .i] 30 (rangesOk okId), flatCon 66 [.i, .i] [.i, .i, .i] 30 (rangesOk okId), flatCon 36 [.i] [.i, .i] 31 (rangesOk okId), flatCon 43 [.i] [.i, .i] 31 (rangesOk okId)] ++ cx5.con, cx5.inl, cx5.eqs⟩
theorem cx6_ok (W : World) : ∀ l, AllI l → CxOk Try.prog (E.at l) W cx6 :=
  cx_more (fun l h => cx5_ok W l trivial) (List.forall_mem_cons.2 ⟨flat_conI okId_I (c_floor W), List.forall_mem_cons.2 ⟨flat_conI okId_I (c_rfloor W), List.forall_mem_cons.2 ⟨flat_conI okId_I (c_sqrt W), List.forall_mem_cons.2 ⟨flat_conI okId_I (c_rsqrt W), (fun _ h => by cases h)⟩⟩⟩⟩)
end Go.Proofs.Ytdkeiopcdajkpaa.Sx
