/- Parts of the proof of TopPoint. No condition of their own. -/
import Derived.Test.YtlfoglklibhbnaaGreatTpC
import Derived.Test.YtlfoglklibhbnaaGreatTpH
import Derived.Laws.Cover1
set_option linter.unusedVariables false
set_option linter.unusedSimpArgs false
namespace Go.Proofs.YtlfoglklibhbnaaGreat
open Go.RowKit
namespace Mt
theorem own_slice {w : World} {base : Nat} {e : TypeId} {size : Nat} {v : Value} {n : Nat} {xs : List Value} (h : w.ownsRow base e size v n xs) : ∃ a cap, v = .slice a n cap := by
 rcases h.2 with ⟨hv, h0⟩ | ⟨g, cap, cur, hv, hb, _, hc, _⟩
 ·subst h0; exact ⟨none, 0, hv⟩
 ·exact ⟨_, cap, hv⟩
theorem own_base {w : World} {base : Nat} {e : TypeId} {size : Nat} {v : Value} {n : Nat} {xs : List Value} (h : w.ownsRow base e size v n xs) : ∀ k, v.ownBlock = some k → base ≤ k := by
 rcases h.2 with ⟨hv, _⟩ | ⟨g, cap, cur, hv, hb, _⟩
 ·intro k hk; subst hv; cases hk
 ·intro k hk; subst hv; simp [Value.ownBlock] at hk; omega
theorem own_lt {w : World} {base : Nat} {e : TypeId} {size : Nat} {v : Value} {n : Nat} {xs : List Value} (h : w.ownsRow base e size v n xs) : ∀ k, v.ownBlock = some k → k < w.heap.size := by
 rcases h.2 with ⟨hv, _⟩ | ⟨g, cap, cur, hv, hb, hh, _⟩
 ·intro k hk; subst hv; cases hk
 ·intro k hk; subst hv; simp [Value.ownBlock] at hk; subst hk; exact (Array.getElem?_eq_some_iff.1 hh).1
theorem own_blk {w : World} {base : Nat} {e : TypeId} {g n cap : Nat} {xs : List Value} (h : w.ownsRow base e 1 (.slice (some ⟨g, 0, none⟩) n cap) n xs) : Blk w g xs := by
 rcases h.2 with ⟨hv, _⟩ | ⟨g', cap', cur, hv, hb, hh, hc, ht0⟩
 ·cases hv
 ·injection hv with h1 h2 h3
  injection h1 with h1; injection h1 with h1
  subst h1
  have ht := ht0.2.2
  refine ⟨(Array.getElem?_eq_some_iff.1 hh).1, fun i v hi => ?_⟩
  rw [← ht] at hi
  have hlt : i < n * 1 := by
   apply Classical.byContradiction; intro hn
   rw [List.getElem?_eq_none (by rw [List.length_take]; omega)] at hi; cases hi
  rw [List.getElem?_take_of_lt hlt] at hi
  refine ⟨?_, by simp [World.frozen?, hh]⟩
  unfold World.cell?
  rw [show (⟨g, i, none⟩ : Addr).block = g from rfl, hh]
  simpa using hi
end Mt
end Go.Proofs.YtlfoglklibhbnaaGreat
