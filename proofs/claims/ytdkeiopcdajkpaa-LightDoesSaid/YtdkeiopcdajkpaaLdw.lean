/- The walk of LightDoes: up to 'own := Own(k)' by hand, the rest by the reckoner. -/
import Derived.Test.YtdkeiopcdajkpaaLdp
import Derived.KernelRfl
set_option linter.unusedVariables false
namespace Go.Proofs.Ytdkeiopcdajkpaa
open Go.RowKit
namespace Sx

def eD : SE := (.ite (.app 20 0 .nil) (.ite (.app 46 0 (.cons (.var 0) (.cons (.var 1) (.cons (.var 2) (.cons (.var 3) (.cons (.var 4) (.cons (.var 5) (.cons (.var 6) (.cons (.var 7) (.cons (.var 8) .nil)))))))))) (.app 46 0 (.cons (.var 0) (.cons (.var 1) (.cons (.var 2) (.cons (.var 3) (.cons (.var 4) (.cons (.var 5) (.cons (.var 6) (.cons (.var 7) (.cons (.var 8) .nil)))))))))) (.no (.app 46 0 (.cons (.var 0) (.cons (.var 1) (.cons (.var 2) (.cons (.var 3) (.cons (.var 4) (.cons (.var 5) (.cons (.var 6) (.cons (.var 7) (.cons (.var 8) .nil)))))))))))) (.blit false))
theorem runD_eq : runD.map look8 = .leaf (true, some (.bool eD)) := by kernel_rfl
theorem eD_true (v0 v1 : Value) (L : List Int) : ((Er v0 v1).at L).b eD = true := by
  show (if (true : Bool) = true then (if _ = true then _ else !_) else false) = true
  rw [if_pos rfl]
  split
  · assumption
  · rename_i h
    simpa using h
theorem relL_any {σ : Env} {ρ : Nat → Option Nat} : ∀ (n : Nat) (us : List Value), us.length = n → relL σ ρ (List.replicate n .any) us
  | 0, us, h => List.eq_nil_of_length_eq_zero h
  | n + 1, [], h => by cases h
  | n + 1, u :: us, h => ⟨u, us, rfl, trivial, relL_any n us (by simpa using h)⟩
theorem wp_tail3 {P : Program} {A B C R : Code} {Q : Exit → Act → World → Prop} {a : Act} {w : World} (K : Act → World → Prop)
    (h1 : ∀ R', (∀ a w, K a w → R'.wp P Q a w) → (A.seq (B.seq (C.seq R'))).wp P Q a w) (h2 : ∀ a w, K a w → R.wp P Q a w) : (A.seq (B.seq (C.seq R))).wp P Q a w := h1 R h2
def rhoD (n : Nat) (i : Nat) : Option Nat := if i < 3 then some (n + i) else none
theorem split10 {t : List Value} {x0 x1 x2 x3 x4 x5 x6 x7 x8 x9 : Value} (h : t.take 10 = [x0, x1, x2, x3, x4, x5, x6, x7, x8, x9]) (hl : t.length = 99) : t = [x0, x1, x2, x3, x4, x5, x6, x7, x8, x9] ++ t.drop 10 ∧ (t.drop 10).length = 89 :=
  ⟨by rw [← h, List.take_append_drop], by simp [hl]⟩
theorem heap3 (w : World) (A B C : Obj) : (((w.alloc A).alloc B).alloc C).heap[w.heap.size]? = some A ∧ (((w.alloc A).alloc B).alloc C).heap[w.heap.size + 1]? = some B ∧ (((w.alloc A).alloc B).alloc C).heap[w.heap.size + 2]? = some C ∧ (((w.alloc A).alloc B).alloc C).heap.size = w.heap.size + 3 := by
  have s1 : (w.alloc A).heap.size = w.heap.size + 1 := by simp
  have s2 : ((w.alloc A).alloc B).heap.size = w.heap.size + 2 := by simp
  refine ⟨?_, ?_, ?_, by simp⟩
  · rw [Below.block (((Gr.refl (w.alloc A)).alloc B).alloc C) w.heap.size (by omega)]
    exact (MapKept.heap_alloc w A).1
  · rw [Below.block ((Gr.refl ((w.alloc A).alloc B)).alloc C) (w.heap.size + 1) (by omega), ← s1]
    exact (MapKept.heap_alloc (w.alloc A) B).1
  · rw [← s2]
    exact (MapKept.heap_alloc ((w.alloc A).alloc B) C).1
/-- The three boxes. -/
theorem hrelD (v0 v1 : Value) (a0 a1 a2 a3 a4 a5 a6 a7 a8 a9 a10 a11 a12 a13 a14 s : Int) (w : World) :
    HRel ((Er v0 v1).at [a0, a1, a2, a3, a4, a5, a6, a7, a8, a9, a10, a11, a12, a13, a14, s]) (rhoD w.heap.size) hpD w
      (((w.alloc (.cells #[.int .i64 a0, .int .i64 a1, .int .i64 a2, .int .i64 a3, .int .i64 a4, .int .i64 a5, .int .i64 a6, .int .i64 a7, .int .i64 a8] 44)).alloc (.cells #[.int .i64 a9, .int .i64 a10, .int .i64 a11] 23)).alloc (.cells #[.int .i64 a12, .int .i64 a13, .int .i64 a14] 23)) := by
  refine ⟨fun n B hn => ?_, fun n m b h1 h2 => ?_, fun n b h1 => ?_⟩
  · match n, hn with
    | 0, hn =>
      simp only [hpD, List.getElem?_cons_zero, Option.some.injEq] at hn
      subst hn
      refine ⟨w.heap.size, _, rfl, (heap3 w _ _ _).1, ?_, fun h => by cases h⟩
      exact ⟨_, _, rfl, rfl, _, _, rfl, rfl, _, _, rfl, rfl, _, _, rfl, rfl, _, _, rfl, rfl, _, _, rfl, rfl, _, _, rfl, rfl, _, _, rfl, rfl, _, _, rfl, rfl, rfl⟩
    | 1, hn =>
      simp only [hpD, List.getElem?_cons_succ, List.getElem?_cons_zero, Option.some.injEq] at hn
      subst hn
      refine ⟨w.heap.size + 1, _, rfl, (heap3 w _ _ _).2.1, ?_, fun h => by cases h⟩
      exact ⟨_, _, rfl, rfl, _, _, rfl, rfl, _, _, rfl, rfl, rfl⟩
    | 2, hn =>
      simp only [hpD, List.getElem?_cons_succ, List.getElem?_cons_zero, Option.some.injEq] at hn
      subst hn
      refine ⟨w.heap.size + 2, _, rfl, (heap3 w _ _ _).2.2.1, ?_, fun h => by cases h⟩
      exact ⟨_, _, rfl, rfl, _, _, rfl, rfl, _, _, rfl, rfl, rfl⟩
    | n + 3, hn => simp [hpD] at hn
  · unfold rhoD at h1 h2
    split at h1 <;> split at h2 <;> simp_all <;> omega
  · unfold rhoD at h1
    split at h1
    · simp only [Option.some.injEq] at h1
      rw [(heap3 w _ _ _).2.2.2]; omega
    · cases h1
/-- What holds behind 'own := Own(k)'. -/
def KD (w : World) (p : Option Addr) (len cap : Nat) (zs : List Int) (a0 a1 a2 a3 a4 a5 a6 a7 a8 a9 a10 a11 a12 a13 a14 : Int) (a : Act) (w1 : World) : Prop :=
  ∃ p1 cap1, a.defers = [] ∧ IsRow .i64 w1 p1 len zs ∧
    Gr (((w.alloc (.cells #[.int .i64 a0, .int .i64 a1, .int .i64 a2, .int .i64 a3, .int .i64 a4, .int .i64 a5, .int .i64 a6, .int .i64 a7, .int .i64 a8] 44)).alloc (.cells #[.int .i64 a9, .int .i64 a10, .int .i64 a11] 23)).alloc (.cells #[.int .i64 a12, .int .i64 a13, .int .i64 a14] 23)) w1 ∧
    ∃ x0 x1 x2 x7 rest, a.tmps.toList = [x0, x1, x2, .slice p len cap, .pointer (some ⟨w.heap.size, 0, none⟩), .pointer (some ⟨w.heap.size + 1, 0, none⟩), .pointer (some ⟨w.heap.size + 2, 0, none⟩), x7, .bool false, .slice p1 len cap1] ++ rest ∧ rest.length = 89
theorem restD {w : World} {p : Option Addr} {len cap : Nat} {zs : List Int} (hr : IsRow .i64 w p len zs) {a0 a1 a2 a3 a4 a5 a6 a7 a8 a9 a10 a11 a12 a13 a14 : Int} (hI : AllI [a0, a1, a2, a3, a4, a5, a6, a7, a8, a9, a10, a11, a12, a13, a14])
    {a : Act} {w1 : World} (h : KD w p len cap zs a0 a1 a2 a3 a4 a5 a6 a7 a8 a9 a10 a11 a12 a13 a14 a w1) :
    codeD.wp Try.prog (bodyPost Try.prog Try.f8 fun e w' => e = .returned (.bool true) ∧ Gr w w') a w1 := by
  obtain ⟨p1, cap1, hd, hr1, hg, x0, x1, x2, x7, rest, ht, hl⟩ := h
  have g0 : Gr w (((w.alloc (.cells #[.int .i64 a0, .int .i64 a1, .int .i64 a2, .int .i64 a3, .int .i64 a4, .int .i64 a5, .int .i64 a6, .int .i64 a7, .int .i64 a8] 44)).alloc (.cells #[.int .i64 a9, .int .i64 a10, .int .i64 a11] 23)).alloc (.cells #[.int .i64 a12, .int .i64 a13, .int .i64 a14] 23)) := (((Gr.refl w).alloc _).alloc _).alloc _
  have hw1 : Gr w w1 := g0.trans hg
  have hs := Ls.sm_bd zs
  have hL : AllI [a0, a1, a2, a3, a4, a5, a6, a7, a8, a9, a10, a11, a12, a13, a14, Ls.sm zs] := by
    intro x hx
    have : x ∈ [a0, a1, a2, a3, a4, a5, a6, a7, a8, a9, a10, a11, a12, a13, a14] ∨ x = Ls.sm zs := by simpa [or_assoc] using hx
    rcases this with h | rfl
    · exact hI x h
    · exact ⟨by omega, by omega⟩
  have hx := cD_ok (W := w1) (v0 := .slice p len cap) (v1 := .slice p1 len cap1) hL
    (fun w' hg' => (Ls.sum_any p len cap zs w' (hr.later (hw1.trans hg'))).mono fun e w2 h => ⟨h.1, h.2 ▸ Gr.refl _⟩)
    (fun w' hg' => (Ls.rsum_any p1 len cap1 zs w' (hr1.later hg')).mono fun e w2 h => ⟨h.1, h.2 ▸ Gr.refl _⟩)
    (fun w' hg' => (Ow.same_any p p1 len cap cap1 zs w' (hr.later (hw1.trans hg')) (hr1.later hg')).mono fun e w2 h => by
      obtain ⟨h1, n, rfl⟩ := h
      exact ⟨h1, (Gr.refl _).dn _⟩)
  have hk : (runD.map look8).sel ((Er (.slice p len cap) (.slice p1 len cap1)).at [a0, a1, a2, a3, a4, a5, a6, a7, a8, a9, a10, a11, a12, a13, a14, Ls.sm zs]) = some (true, some (.bool eD)) := by rw [runD_eq]; rfl
  obtain ⟨r, h1, h2⟩ := sel_map hk
  have hsz : w.heap.size ≤ w1.heap.size := hw1.size
  have hrel := (hrelD (.slice p len cap) (.slice p1 len cap1) a0 a1 a2 a3 a4 a5 a6 a7 a8 a9 a10 a11 a12 a13 a14 (Ls.sm zs) w).gr hg
  have hH : HRel ((Er (.slice p len cap) (.slice p1 len cap1)).at [a0, a1, a2, a3, a4, a5, a6, a7, a8, a9, a10, a11, a12, a13, a14, Ls.sm zs]) (rhoD w.heap.size) hpD w1 w1 :=
    ⟨fun n B hn => by
      obtain ⟨b, vs, q1, q2, q3, q4⟩ := hrel.blk n B hn
      refine ⟨b, vs, q1, q2, q3, fun ho => ?_⟩
      match n, hn with
      | 0, hn => simp only [hpD, List.getElem?_cons_zero, Option.some.injEq] at hn; subst hn; cases ho
      | 1, hn => simp only [hpD, List.getElem?_cons_succ, List.getElem?_cons_zero, Option.some.injEq] at hn; subst hn; cases ho
      | 2, hn => simp only [hpD, List.getElem?_cons_succ, List.getElem?_cons_zero, Option.some.injEq] at hn; subst hn; cases ho
      | n + 3, hn => simp [hpD] at hn, hrel.inj, hrel.lt⟩
  have hS : SRel ((Er (.slice p len cap) (.slice p1 len cap1)).at [a0, a1, a2, a3, a4, a5, a6, a7, a8, a9, a10, a11, a12, a13, a14, Ls.sm zs]) (rhoD w.heap.size) ⟨tmD, hpD⟩ a w1 w1 := by
    refine ⟨?_, hH, fun n hn => ?_⟩
    · rw [ht]
      refine relL_append (xs := [.any, .any, .any, .raw 0, .ptr (some (0, 0)), .ptr (some (1, 0)), .ptr (some (2, 0)), .any, .bool (.blit false), .raw 1]) ?_ (relL_any 89 rest hl)
      exact ⟨_, _, rfl, trivial, _, _, rfl, trivial, _, _, rfl, trivial, _, _, rfl, ⟨rfl, rfl⟩, _, _, rfl, ⟨_, rfl, rfl⟩, _, _, rfl, ⟨_, rfl, rfl⟩, _, _, rfl, ⟨_, rfl, rfl⟩, _, _, rfl, trivial, _, _, rfl, rfl, _, _, rfl, ⟨rfl, rfl⟩, rfl⟩
    · have : ¬ n < 3 := by simp [hpD] at hn; omega
      simp [rhoD, this]
  refine (aexec_sound hx (acall_sound hx 18) 100000 codeD (pcOk.nil _) h1 hS (Gr.refl _) (Nat.le_refl _) (Nat.le_refl _) ?_).1
  intro a' w' ρ' k1 k2 k3 k4
  obtain ⟨e, s'⟩ := r
  simp only [look8, Prod.mk.injEq] at h2
  obtain ⟨h3, h4⟩ := h2
  cases e with
  | normal => cases h3
  | exit id => cases h3
  | ret =>
    have ha : aresult cD s' Try.f8.results.toList = some [.bool eD] := by
      show aresult cD s' [.tmp 8] = _
      simp [aresult, h4]
    obtain ⟨u, u1, u2⟩ := results_ok hx k2 ha
    have u3 : u = .bool (((Er (.slice p len cap) (.slice p1 len cap1)).at [a0, a1, a2, a3, a4, a5, a6, a7, a8, a9, a10, a11, a12, a13, a14, Ls.sm zs]).b eD) := u2
    rw [eD_true] at u3
    subst u3
    exact ⟨by rw [k4, hd], _, u1, rfl, hw1.trans k3⟩
end Sx
open Sx
set_option maxHeartbeats 4000000 in
set_option maxRecDepth 100000 in
theorem walk_LightDoes (w : World) (a0 a1 a2 a3 a4 a5 a6 a7 a8 : Int) (_ : I a0) (_ : I a1) (_ : I a2) (_ : I a3) (_ : I a4) (_ : I a5) (_ : I a6) (_ : I a7) (_ : I a8) (a9 a10 a11 : Int) (_ : I a9) (_ : I a10) (_ : I a11) (a12 a13 a14 : Int) (_ : I a12) (_ : I a13) (_ : I a14)
    (p : Option Addr) (len cap : Nat) (zs : List Int) (hr : IsRow .i64 w p len zs) (hn : p = none → cap = 0) :
    Calls Try.prog 8 #[.agg #[.int .i64 a0, .int .i64 a1, .int .i64 a2, .int .i64 a3, .int .i64 a4, .int .i64 a5, .int .i64 a6, .int .i64 a7, .int .i64 a8], .agg #[.int .i64 a9, .int .i64 a10, .int .i64 a11], .agg #[.int .i64 a12, .int .i64 a13, .int .i64 a14], .slice p len cap] w fun e w' => e = .returned (.bool true) ∧ Gr w w' := by
  have hI : AllI [a0, a1, a2, a3, a4, a5, a6, a7, a8, a9, a10, a11, a12, a13, a14] := by
    intro a h; simp only [List.mem_cons, List.not_mem_nil, or_false] at h; rcases h with rfl | rfl | rfl | rfl | rfl | rfl | rfl | rfl | rfl | rfl | rfl | rfl | rfl | rfl | rfl <;> assumption
  have hm := hr.2.1
  by_cases hl : 60 < len
  · clear hr hn hI
    go_enter Try.func8, Try.ntmps8
    go_wp2
    go_ret
    exact ⟨rfl, (((Gr.refl w).alloc _).alloc _).alloc _⟩
  · have HR := Lib.hid hr; have HN := Lib.hid hn; have HI := Lib.hid hI
    have hl2 : len ≤ 1000000 := by omega
    have hz : zs.length = len := hr.1
    clear hr hn hI
    subst hz
    go_enter Try.func8, Try.ntmps8
    refine wp_tail3 (KD w p zs.length cap zs a0 a1 a2 a3 a4 a5 a6 a7 a8 a9 a10 a11 a12 a13 a14) ?_ (fun a w1 h => restD HR.out HI.out h)
    intro R' hR'
    have HR' := Lib.hid hR'; clear hR'
    go_wp2_with fail
    refine (Ow.own_any _ _ _ zs _ (by exact HR.out.later ((((Gr.refl w).alloc _).alloc _).alloc _)) HN.out hl2).mono ?_; rintro e w1 ⟨p1, cap1, rfl, hr1, hg1⟩
    have HR1 := Lib.hid hr1; have HG1 := Lib.hid hg1; clear hr1 hg1
    go_wp2_with fail
    exact HR'.out _ _ ⟨p1, cap1, rfl, HR1.out, HG1.out, _, _, _, _, _, (split10 rfl rfl).1, (split10 rfl rfl).2⟩
end Go.Proofs.Ytdkeiopcdajkpaa
