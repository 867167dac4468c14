/- Chapter 10: the reference's 'greatest' at a given edge. -/
import Derived.Test.YtfpnkcmplmkghaaMc
import Derived.KernelRfl
set_option linter.unusedVariables false
set_option linter.unusedSimpArgs false
namespace Go.Proofs.Ytfpnkcmplmkghaa.Sx
open Go.RowKit
def replA (j : Nat) (e : Int) : List AV → List AV
  | [] => []
  | .int (.var i) :: r => (bif Nat.beq i j then .int (.lit e) else .int (.var i)) :: replA j e r
  | x :: r => x :: replA j e r
theorem relL_repl {σ : Env} {ρ : Nat → Option Nat} {l : List Int} {j : Nat} {e : Int} (h : l.getD j 0 = e) : ∀ {vs : List AV} {us : List Value}, relL (σ.at l) ρ vs us → relL (σ.at l) ρ (replA j e vs) us
  | [], us, hr => hr
  | v :: vs, us, hr => by
    obtain ⟨u, us', rfl, h1, h2⟩ := hr
    have h3 := relL_repl h h2
    unfold replA
    split
    · rename_i heq; cases heq
    · rename_i i r heq
      obtain ⟨rfl, rfl⟩ := List.cons.inj heq
      refine ⟨u, us', rfl, ?_, h3⟩
      cases hb : Nat.beq i j
      · exact h1
      · have e1 := Nat.eq_of_beq_eq_true hb
        subst e1
        have h1 : u = .int .i64 (l.getD i 0) := h1
        show u = .int .i64 e
        rw [h1, h]
    · rename_i x r hne heq
      obtain ⟨rfl, rfl⟩ := List.cons.inj heq
      exact ⟨u, us', rfl, h1, h3⟩
theorem flat_lit {P : Program} {σ : Env} {W : World} {G : List Int → Prop} {cx : Cx} {d f j : Nat} {e : Int} {sh : List Sh} {F : List Int → Value} {R : AV} {h' : Hp} (hx : ∀ l, G l → CxOk P (σ.at l) W cx) (hG : ∀ l, G l → l.getD j 0 = e)
    (hk : acall cx d false f [] (replA j e (argsG sh 0 0)) (heapG sh 0) = .leaf (R, h')) (hR : ∀ l, l.length = lenSh sh → G l → valOf (σ.at l) R = some (F l)) : Flat P σ W G f sh F := by
  intro l ρ w0 w us hl hgl hW hW0 h0 hv hH hf
  refine ((acall_sound (hx l hgl) d).alone f [] _ _ (R, h') us ρ w0 w (pcOk.nil _) (by rw [hk]; rfl) hW hW0 h0 (relL_repl (hG l hgl) hv) hH hf).mono ?_
  rintro e w' ⟨u, rfl, hu, hg⟩
  exact ⟨by rw [valOf_ok (hR l hl hgl) hu], hg⟩
def litChk (j : Nat) (e : Int) (es : List SE) : Bool := match es[j]? with
  | some (.lit n) => decide (n = e)
  | _ => false
theorem litChk_ok {σ : Env} {j : Nat} {e : Int} {es : List SE} (h : litChk j e es = true) : (es.map σ.i).getD j 0 = e := by
  unfold litChk at h
  split at h
  · rename_i n hn
    have h := of_decide_eq_true h
    subst h
    simp [List.getD, hn, Env.i, den]
  · cases h
theorem flat_conL {P : Program} {σ : Env} {W : World} {f j : Nat} {e : Int} {sh : List Sh} {out : List O} {id : Nat} (hF : Flat P σ W (fun l => l.getD j 0 = e) f sh fun l => tupleV (resV σ id l out 0 0)) {G : List Int → Prop} (l : List Int) (_ : G l) : ConOk P (σ.at l) W (flatCon f sh out id (litChk j e)) :=
  flat_con (σ := σ.at l) (fun es h => litChk_ok h) (at_eq hF l)
theorem mxE (a b : Int) : (if decide (a < b) = true then b else a) = max a b := by
  simp only [decide_eq_true_eq]; split <;> omega
theorem edq_b (t : List Int) (i : Nat) (x y : Int) : -1 ≤ edq t i x y ∧ edq t i x y ≤ 1 := by
  have s : ∀ l, -1 ≤ sdq l ∧ sdq l ≤ 1 := fun l => by unfold sdq sgn; (repeat' split) <;> omega
  exact mul_bd (M := 1) (N := 1) 1 (by decide) (s _) (s _)
theorem edq_w (t : List Int) (i : Nat) (x y : Int) : IntKind.i64.wrap (edq t i x y) = edq t i x y := wr (by have := edq_b t i x y; omega)
end Go.Proofs.Ytfpnkcmplmkghaa.Sx
