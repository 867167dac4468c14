/- A law on append to a row that the call itself owns, which also tells where the new row lies. Nothing of the program. -/
import Derived.Test.YtfpnkcmplmkghaaCm
import Derived.ArgAppend
set_option linter.unusedVariables false
namespace Go.Proofs.Ytfpnkcmplmkghaa
open Go.RowKit

/-- The row's block is the elder one, or a new one. -/
def Moved (w : World) (v v' : Value) : Prop := v'.ownBlock = v.ownBlock ∨ ∀ k, v'.ownBlock = some k → w.heap.size ≤ k

theorem append_two {P : Program} {w : World} {ops : Array Oper} {rest : List Oper} {o : Oper} {a : Act} {Q : Exit → Act → World → Prop} (hgd : o.guard = none) (s x : Operand) (t : TypeId)
    (ho : o.op = .call { callee := .builtin .append, args := #[s, x], argTypes := #[t, t] })
    (base : Nat) (e : TypeId) (i : TypeInfo) (z : Value) (size bytes : Nat) (ht : P.underlying t = some (.slice e)) (hi : P.info? e = some i) (hz : i.zero = some z)
    (hsize : i.size = size) (hby : i.bytes = bytes) (hzs : z.cells.size = size) (hsz : 0 < size)
    (v : Value) (n : Nat) (xs : List Value) (hs : a.eval s = v) (hown : w.ownsRow base e size v n xs)
    (ad : Addr) (m c : Nat) (news : List Value) (hx : a.eval x = .slice (some ad) m c) (hl : news.length = m * size) (hnews : ∀ j u, news[j]? = some u → w.cell? (ad.add j) = some u) (h1 : ∀ u ∈ news, u.oneCell' = true)
    (hm : 0 < m) (h63 : n + m ≤ maxLen) (hbytes : (n + m) * bytes ≤ 140737488355328) (hbase : base ≤ w.heap.size)
    (h : ∀ v' w', w'.ownsRow base e size v' (n + m) (xs ++ news) → w.grownBy w' v.ownBlock → Moved w v v' → wpList P ops Q rest (a.put o.dst v') w') : wpList P ops Q (o :: rest) a w := by
  obtain ⟨h1', h2⟩ := hown
  rcases h2 with ⟨rfl, rfl⟩ | ⟨g, cap, cur, rfl, hg, hh, hn, hc, hcs, hct⟩
  · refine wpList_append_grows w hgd s x t ho e i z size bytes ht hi hz hsize hby hzs hsz none 0 0 xs hs (fun _ => ⟨rfl, rfl⟩) h1' (fun b hb => by simp at hb) ad m c news hx hl hnews h1 (by omega) h63 hbytes ?_
    intro v' w' ho' hg'
    refine h v' w' ⟨ho'.1, ?_⟩ hg' (.inr fun k hk => (ho'.lt k hk).1)
    rcases ho'.2 with q | ⟨g, cap, cur, q1, q2, q3⟩
    · exact .inl q
    · exact .inr ⟨g, cap, cur, q1, Nat.le_trans hbase q2, q3⟩
  · by_cases hr : n + m ≤ cap
    · refine wpList_append_fits w hgd s x t ho base e i size ht hi hsize g n cap xs hs ⟨h1', .inr ⟨g, cap, cur, rfl, hg, hh, hn, hc, hcs, hct⟩⟩ ad m c news hx hl hnews h1 hr ?_
      intro w' ho' hg'
      exact h _ w' ho' hg' (.inl rfl)
    · have hcell : ∀ j u, xs[j]? = some u → w.cell? ((⟨g, 0, none⟩ : Addr).add j) = some u := World.ownsRow.cells ⟨h1', .inr ⟨g, cap, cur, rfl, hg, hh, hn, hc, hcs, hct⟩⟩ rfl
      refine wpList_append_grows w hgd s x t ho e i z size bytes ht hi hz hsize hby hzs hsz (some ⟨g, 0, none⟩) n cap xs hs (fun hh => by simp at hh) h1' (fun b hb => by simp at hb; subst hb; exact hcell) ad m c news hx hl hnews h1 (by omega) h63 hbytes ?_
      intro v' w' ho' hg'
      refine h v' w' ⟨ho'.1, ?_⟩ ?_ (.inr fun k hk => (ho'.lt k hk).1)
      · rcases ho'.2 with q | ⟨g, cap, cur, q1, q2, q3⟩
        · exact .inl q
        · exact .inr ⟨g, cap, cur, q1, Nat.le_trans hbase q2, q3⟩
      · exact ⟨hg'.os, hg'.tape, hg'.output, hg'.size, fun k hk _ => hg'.block k hk (by simp)⟩

/-- Two rows that the call owns, apart from one another. -/
structure TwoRows (base : Nat) (e : TypeId) (v1 : Value) (xs1 : List Value) (v2 : Value) (xs2 : List Value) (wr : World) : Prop where
  one : wr.ownsRow base e 1 v1 xs1.length xs1
  two : wr.ownsRow base e 1 v2 xs2.length xs2
  apart : v1.ownBlock = none ∨ v1.ownBlock ≠ v2.ownBlock

theorem TwoRows.swap {base : Nat} {e : TypeId} {v1 v2 : Value} {xs1 xs2 : List Value} {wr : World} (h : TwoRows base e v1 xs1 v2 xs2 wr) : TwoRows base e v2 xs2 v1 xs1 wr := by
  refine ⟨h.two, h.one, ?_⟩
  rcases h.apart with q | q
  · cases hv : v2.ownBlock with
    | none => exact .inl rfl
    | some k => right; rw [q]; simp
  · exact .inr (Ne.symm q)

theorem TwoRows.step {base : Nat} {e : TypeId} {v1 v2 v1' : Value} {xs1 xs2 : List Value} {wr w1 : World} (h : TwoRows base e v1 xs1 v2 xs2 wr) {o : Obj} {x : Value}
    (hown : w1.ownsRow base e 1 v1' (xs1.length + 1) (xs1 ++ [x])) (hg : (wr.alloc o).grownBy w1 v1.ownBlock) (hm : Moved (wr.alloc o) v1 v1') : TwoRows base e v1' (xs1 ++ [x]) v2 xs2 w1 := by
  refine ⟨by simpa using hown, (h.two.alloc o).kept hg h.swap.apart, ?_⟩
  rcases hm with q | q
  · rw [q]; exact h.apart
  · cases hv : v1'.ownBlock with
    | none => exact .inl rfl
    | some k =>
      right
      intro hk
      have h1 := q k hv
      have h2 := (h.two.lt k hk.symm).2
      simp at h1; omega

theorem TwoRows.gr {w : World} {e : TypeId} {v1 v2 : Value} {xs1 xs2 : List Value} {wr w1 : World} (h : TwoRows w.heap.size e v1 xs1 v2 xs2 wr) {o : Obj} (hgr : Gr w wr)
    (hg : (wr.alloc o).grownBy w1 v1.ownBlock) : Gr w w1 := by
  have h1 := hgr.alloc o
  exact Below.grown h1 hg h1.size (fun k hk => (h.one.lt k hk).1)

/-- The cell of a new block that holds one value. -/
theorem one_new (w : World) (x : Value) (T : TypeId) : ∀ j u, [x][j]? = some u → (w.alloc (.cells #[x] T)).cell? ((⟨w.heap.size, 0, none⟩ : Addr).add j) = some u := by
  intro j u hj
  match j, hj with
  | 0, hj =>
    simp at hj; subst hj
    rw [add_none, World.cell?_alloc_at _ _ _ _ rfl]; rfl
  | j + 1, hj => simp at hj
end Go.Proofs.Ytfpnkcmplmkghaa
