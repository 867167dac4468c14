/- Plain facts on greatest divisors of rows, for WholeGcd. -/
import Derived.Test.YtgfcbpofbckncaaGc
set_option linter.unusedVariables false
namespace Go.Proofs.Ytgfcbpofbckncaa
open Go.RowKit
namespace Wh

theorem dvd_fold (d : Nat) : ∀ (l : List Int) (g : Nat), d ∣ l.foldl (fun g n => Nat.gcd g n.natAbs) g ↔ d ∣ g ∧ ∀ x ∈ l, d ∣ x.natAbs
  | [], g => by simp
  | x :: l, g => by
    rw [List.foldl_cons, dvd_fold d l, Nat.dvd_gcd_iff]
    simp [and_assoc]

theorem dvd_gl (d : Nat) (l : List Int) : d ∣ gl l ↔ ∀ x ∈ l, d ∣ x.natAbs := by
  unfold gl; rw [dvd_fold]; simp

theorem gl_reverse (l : List Int) : gl l.reverse = gl l := by
  apply Nat.dvd_antisymm
  · rw [dvd_gl]; intro x hx; exact (dvd_gl _ _).1 (Nat.dvd_refl _) x (by simpa using hx)
  · rw [dvd_gl]; intro x hx; exact (dvd_gl _ _).1 (Nat.dvd_refl _) x (by simpa using hx)

theorem natAbs_part {z : Int} {g : Nat} (hg : 0 < g) (h : g ∣ z.natAbs) : z.natAbs = (z.tdiv g).natAbs * g := by
  have h1 : (z.tdiv g).natAbs = z.natAbs / g := by rw [Int.natAbs_tdiv]; rfl
  rw [h1, Nat.div_mul_cancel h]

theorem fold_parts {g : Nat} (hg : 0 < g) : ∀ (l : List Int) (a : Nat), (∀ x ∈ l, g ∣ x.natAbs) →
    l.foldl (fun g n => Nat.gcd g n.natAbs) (a * g) = (l.map (fun x => x.tdiv g)).foldl (fun g n => Nat.gcd g n.natAbs) a * g
  | [], a, _ => rfl
  | x :: l, a, h => by
    rw [List.foldl_cons, List.map_cons, List.foldl_cons]
    rw [natAbs_part hg (h x List.mem_cons_self), Nat.gcd_mul_right]
    rw [Int.natAbs_tdiv]
    have e : (x.tdiv g).natAbs = x.natAbs / (g : Int).natAbs := Int.natAbs_tdiv _ _
    have := fold_parts hg l (Nat.gcd a (x.natAbs / (g : Int).natAbs)) (fun y hy => h y (List.mem_cons_of_mem _ hy))
    exact this

theorem gl_parts {l : List Int} (hg : 0 < gl l) : gl (l.map (fun x => x.tdiv (gl l : Int))) = 1 := by
  have h := fold_parts hg l 0 ((dvd_gl _ _).1 (Nat.dvd_refl _))
  rw [Nat.zero_mul] at h
  have h2 : gl l = gl (l.map (fun x => x.tdiv (gl l : Int))) * gl l := h
  have h3 : 1 * gl l = gl (l.map (fun x => x.tdiv (gl l : Int))) * gl l := by rw [Nat.one_mul]; exact h2
  exact (Nat.eq_of_mul_eq_mul_right hg h3).symm

/-- What has been gone through where m are left, the last one first. -/
def D (zs : List Int) (m : Nat) : List Int := (zs.drop m).reverse
theorem D_none (zs : List Int) : D zs zs.length = [] := by simp [D]
theorem D_all (zs : List Int) : D zs 0 = zs.reverse := by simp [D]
theorem D_step (zs : List Int) (k : Nat) (h : k < zs.length) : D zs k = D zs (k + 1) ++ [zs.getD k 0] := by
  unfold D
  rw [List.drop_eq_getElem_cons h, List.reverse_cons]
  simp [List.getD, List.getElem?_eq_getElem h]
theorem D_length (zs : List Int) (m : Nat) : (D zs m).length = zs.length - m := by simp [D]
theorem D_mem {zs : List Int} {m : Nat} {x : Int} (h : x ∈ D zs m) : x ∈ zs := by
  unfold D at h; rw [List.mem_reverse] at h; exact List.mem_of_mem_drop h

/-- Does d divide all of these? -/
def A (d : Int) (l : List Int) : Bool := decide (0 < d) && l.all (fun x => x.tmod d == 0)
theorem A_snoc (d : Int) (l : List Int) (x : Int) : A d (l ++ [x]) = (A d l && (x.tmod d == 0)) := by
  unfold A; rw [List.all_append]; simp [Bool.and_assoc]
theorem A_gcd {d : Int} {zs : List Int} (h : A d zs.reverse = true) : 0 < d ∧ ((gl zs : Int)) % d = 0 := by
  unfold A at h
  simp only [Bool.and_eq_true, decide_eq_true_eq, List.all_eq_true, beq_iff_eq, List.mem_reverse] at h
  obtain ⟨h0, h1⟩ := h
  refine ⟨h0, ?_⟩
  have h2 : d.natAbs ∣ gl zs := by
    rw [dvd_gl]
    intro x hx
    have := Int.dvd_of_tmod_eq_zero (h1 x hx)
    exact Int.natAbs_dvd_natAbs.2 this
  have h3 : d ∣ (gl zs : Int) := by
    have := Int.natAbs_dvd_natAbs (a := d) (b := (gl zs : Int))
    rw [Int.natAbs_natCast] at this
    exact this.1 h2
  exact Int.emod_eq_zero_of_dvd h3
end Wh
end Go.Proofs.Ytgfcbpofbckncaa
