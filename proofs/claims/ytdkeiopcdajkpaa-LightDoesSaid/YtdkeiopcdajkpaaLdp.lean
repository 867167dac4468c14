/- What LightDoes hands the reckoner: rows as raw values, their contracts. -/
import Derived.Test.YtdkeiopcdajkpaaLs
import Derived.Test.YtdkeiopcdajkpaaN3
set_option linter.unusedVariables false
namespace Go.Proofs.Ytdkeiopcdajkpaa.Sx
open Go.RowKit

def Er (v0 v1 : Value) : Env := { E with rv := fun n => if n = 0 then v0 else v1 }
theorem conv {f : Nat} {sh : List Sh} {F F' : List Int → Value} {v0 v1 : Value} (h : ∀ W, Flat Try.prog E W AllI f sh F) (hs : noSl sh = true) (e : ∀ l, F l = F' l) (W : World) : Flat Try.prog (Er v0 v1) W AllI f sh F' :=
  flat_calls hs fun l w hl hI => (flat_run (h w) hs l hl hI).mono fun e' w' h => ⟨by rw [h.1, e], h.2⟩

def rawIs : List Nat → List AV → Bool
  | [], [] => true
  | n :: l, .raw m :: vs => Nat.beq n m && rawIs l vs
  | _, _ => false
def rawCon (f : Nat) (pat : List Nat) (r : AV) : Con := ⟨f, fun vs _ => bif rawIs pat vs then some r else none⟩
theorem rawIs_ok {σ : Env} {ρ : Nat → Option Nat} : ∀ {l : List Nat} {vs : List AV} {us : List Value}, rawIs l vs = true → relL σ ρ vs us → us = l.map σ.rv
  | [], [], us, _, h => h
  | [], _ :: _, us, h, _ => by cases h
  | n :: l, [], us, h, _ => by cases h
  | n :: l, v :: vs, us, h, hr => by
    cases v with
    | raw m =>
      simp only [rawIs, Bool.and_eq_true] at h
      obtain ⟨u, us', rfl, h1, h2⟩ := hr
      obtain rfl := Nat.eq_of_beq_eq_true h.1
      rw [rawIs_ok h.2 h2, h1.1]; rfl
    | _ => cases h
theorem rawCon_ok {σ : Env} {W : World} {f : Nat} {pat : List Nat} {r : AV} (h : ∀ w ρ, Gr W w → Calls Try.prog f (pat.map σ.rv).toArray w fun e w' => ∃ u, e = .returned u ∧ rel σ ρ r u ∧ Gr w w') : ConOk Try.prog σ W (rawCon f pat r) := by
  intro vs hp r' us ρ w0 w hr hW hW0 hv hH
  simp only [rawCon] at hr
  cases hb : rawIs pat vs
  · rw [hb] at hr; cases hr
  · rw [hb] at hr
    simp only [cond_true, Option.some.injEq] at hr
    subst hr
    rw [rawIs_ok hb hv]
    exact h w ρ hW

noncomputable def cD : Cx := ⟨cn3.ty, cn3.fn, [flatCon 26 [.g 9, .g 3] [.g 3, .g 3, .i] 44 (rangesOk ok2), flatCon 27 [.g 9, .g 3] [.g 3, .g 3, .i] 44 (rangesOk ok2),
  flatCon 28 [.g 9, .g 3, .g 3] [.i, .i] 45 (rangesOk ok2), flatCon 29 [.g 9, .g 3, .g 3] [.i, .i] 45 (rangesOk ok2),
  flatCon 55 [.g 9] [.b] 46 (rangesOk ok2), flatCon 32 [.g 9] [.b] 46 (rangesOk ok2), flatCon 30 [] [.b] 20 (rangesOk ok2),
  rawCon 33 [0] (.int (.var 15)), rawCon 34 [1] (.int (.var 15)), rawCon 35 [0, 1] (.bool (.blit true))], [], cn3.eqs⟩
theorem cD_ok {W : World} {v0 v1 : Value} {L : List Int} (hL : AllI L)
    (h1 : ∀ w, Gr W w → Calls Try.prog 33 #[v0] w fun e w' => e = .returned (.int .i64 (L.getD 15 0)) ∧ Gr w w')
    (h2 : ∀ w, Gr W w → Calls Try.prog 34 #[v1] w fun e w' => e = .returned (.int .i64 (L.getD 15 0)) ∧ Gr w w')
    (h3 : ∀ w, Gr W w → Calls Try.prog 35 #[v0, v1] w fun e w' => e = .returned (.bool true) ∧ Gr w w') : CxOk Try.prog ((Er v0 v1).at L) W cD := by
  have x := cn3_ok W L hL
  refine ⟨x.ty, x.fn, ?_, x.eqs, x.mixed⟩
  refine List.forall_mem_cons.2 ⟨flat_conI (σ := Er v0 v1) ok2_I (conv c_toward rfl (fun l => rfl) W) L hL, List.forall_mem_cons.2 ⟨flat_conI (σ := Er v0 v1) ok2_I (conv c_rtoward rfl (fun l => rfl) W) L hL,
    List.forall_mem_cons.2 ⟨flat_conI (σ := Er v0 v1) ok2_I (conv c_shine rfl (fun l => rfl) W) L hL, List.forall_mem_cons.2 ⟨flat_conI (σ := Er v0 v1) ok2_I (conv c_rshine rfl (fun l => rfl) W) L hL,
    List.forall_mem_cons.2 ⟨flat_conI (σ := Er v0 v1) ok2_I (conv c_right rfl (fun l => rfl) W) L hL, List.forall_mem_cons.2 ⟨flat_conI (σ := Er v0 v1) ok2_I (conv c_rright rfl (fun l => rfl) W) L hL,
    List.forall_mem_cons.2 ⟨flat_conI (σ := Er v0 v1) ok2_I (conv c_shone rfl (fun l => rfl) W) L hL, List.forall_mem_cons.2 ⟨rawCon_ok fun w ρ hg => ?_, List.forall_mem_cons.2 ⟨rawCon_ok fun w ρ hg => ?_, List.forall_mem_cons.2 ⟨rawCon_ok fun w ρ hg => ?_, fun _ h => by cases h⟩⟩⟩⟩⟩⟩⟩⟩⟩⟩
  · exact (h1 w hg).mono fun e w' h => ⟨_, h.1, rfl, h.2⟩
  · exact (h2 w hg).mono fun e w' h => ⟨_, h.1, rfl, h.2⟩
  · exact (h3 w hg).mono fun e w' h => ⟨_, h.1, rfl, h.2⟩

/- The state behind 'own := Own(k)'. -/
def tailC : Nat → Code → Code
  | 0, c => c
  | n + 1, .seq _ b => tailC n b
  | _, c => c
noncomputable def codeD : Code := match Try.f8.body with
  | some c => tailC 3 c
  | none => .skip
def tmD : List AV := [.any, .any, .any, .raw 0, .ptr (some (0, 0)), .ptr (some (1, 0)), .ptr (some (2, 0)), .any, .bool (.blit false), .raw 1] ++ List.replicate 89 .any
def hpD : Hp := [some ⟨vars 0 9, 44, false⟩, some ⟨vars 9 3, 23, false⟩, some ⟨vars 12 3, 23, false⟩]
noncomputable def runD : Tree (Ex × St) := aexec cD (acall cD 18) 100000 codeD [] ⟨tmD, hpD⟩
def look8 (r : Ex × St) : Bool × Option AV := (match r.1 with | .ret => true | _ => false, r.2.tm[8]?)
end Go.Proofs.Ytdkeiopcdajkpaa.Sx
