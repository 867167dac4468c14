/- Parts of the proof of TopPoint. No condition of their own. -/
import Derived.Test.YtlfoglklibhbnaaGreatTpC
import Derived.Test.YtlfoglklibhbnaaGreatTpK
import Derived.Laws.CopyOwn
import Derived.Laws.Bits64b
import Derived.Deep.RegionLaw
import Derived.Deep.RegionHeld3
import Derived.Deep.DrawnRows
import Derived.Test.YtlfoglklibhbnaaGreatTqF
set_option linter.unusedVariables false
set_option linter.unusedSimpArgs false
namespace Go.Proofs.YtlfoglklibhbnaaGreat
open Go.RowKit
namespace Mt
theorem maskN (a : Nat) (ha : a < 18446744073709551616) : bits .and .u64 (a : Int) 4294967295 = ((a % 4294967296 : Nat) : Int) := by
 have h := bits_and_u64_nat a 4294967295 ha (by omega)
 have e : a &&& 4294967295 = a % 4294967296 := Nat.and_two_pow_sub_one_eq_mod a 32
 rw [e] at h
 exact h
theorem wrapU_r (a : Nat) (ha : a < 18446744073709551616) : IntKind.u64.wrap (a : Int) = (a : Int) := by rw [IntKind.wrap_u64]; omega
set_option maxHeartbeats 1000000 in
theorem mul64_one (y : Nat) (hy : y ≤ 65536) (w : World) : Calls Tryz.prog 95 #[.int .u64 1, .int .u64 y] w fun e w' => e = .returned (.tuple #[.int .u64 0, .int .u64 y]) ∧ w = w' := by
 have m1 : bits .and .u64 (1 : Int) 4294967295 = 1 := by have := maskN 1 (by omega); simpa using this
 have m2 : bits .and .u64 (y : Int) 4294967295 = (y : Int) := by rw [maskN y (by omega), Nat.mod_eq_of_lt (by omega)]
 have m0 : bits .and .u64 (0 : Int) 4294967295 = 0 := by have := maskN 0 (by omega); simpa using this
 have d2 : (y : Int) / 4294967296 = 0 := by omega
 have w2 : IntKind.u64.wrap (y : Int) = (y : Int) := wrapU_r y (by omega)
 go_enter Tryz.func95, Tryz.ntmps95
 go_wp2
 go_ret2
 exact ⟨rfl, rfl⟩
set_option maxHeartbeats 1000000 in
theorem mul_one (y : Nat) (hy : y ≤ 65536) (w : World) : Calls Tryz.prog 60 #[.int .u64 1, .int .u64 y] w fun e w' => e = .returned (.tuple #[.int .u64 0, .int .u64 y]) ∧ w = w' := by
 go_enter Tryz.func60, Tryz.ntmps60
 go_wp2_with fail
 refine (mul64_one y hy _).mono ?_
 rintro e w' ⟨rfl, rfl⟩
 go_wp2_with fail
 go_ret2
 exact ⟨rfl, rfl⟩
theorem own_bx_r {w : World} {base : Nat} {e : TypeId} {g n : Nat} {xs : List Value} (h : w.ownsRow base e 1 (.slice (some ⟨g, 0, none⟩) n n) n xs) : Bx w g e xs := by
 rcases h.2 with ⟨hv, _⟩ | ⟨g', cap', cur, hv, hb, hh, hc, hs, ht⟩
 ·cases hv
 ·injection hv with h1 h2 h3
  injection h1 with h1; injection h1 with h1
  subst h1 h3
  have e1 : cur.toList = xs := by
   rw [← ht.2, List.take_of_length_le (by simp; omega)]
  unfold Bx
  rw [hh, ← e1]
theorem infoI_r : (Tryz.prog.info? 3).map (fun i => (i.zero, i.size, i.bytes)) = some (some (.int .i64 0), 1, 8) := by kernel_rfl
theorem info_parts_r {P : Program} {t : TypeId} {z : Value} {s b : Nat} (h : (P.info? t).map (fun i => (i.zero, i.size, i.bytes)) = some (some z, s, b)) : ∃ i, P.info? t = some i ∧ i.zero = some z ∧ i.size = s ∧ i.bytes = b := by
 cases hi : P.info? t with
 | none => rw [hi] at h; cases h
 | some i => rw [hi] at h; simp at h; exact ⟨i, rfl, h.1, h.2.1, h.2.2⟩
def fill (v : Int) (M n : Nat) : List Value := List.replicate n (.int .i64 v) ++ List.replicate (M - n) (.int .i64 0)
theorem fill_splice (v : Int) {M n k : Nat} (hn : n + k ≤ M) : splice (fill v M n) n (List.replicate k (.int .i64 v)) = fill v M (n + k) := by
 unfold splice fill
 have e1 : (List.replicate n (Value.int .i64 v) ++ List.replicate (M - n) (Value.int .i64 0)).take n = List.replicate n (.int .i64 v) := by
  rw [List.take_append_of_le_length (by simp)]; simp
 have e2 : (List.replicate n (Value.int .i64 v) ++ List.replicate (M - n) (Value.int .i64 0)).drop (n + k) = List.replicate (M - (n + k)) (.int .i64 0) := by
  rw [List.drop_append]
  simp
  omega
 simp only [List.length_replicate]
 rw [e1, e2, ← List.append_assoc, List.replicate_append_replicate]
theorem fill_len (v : Int) {M n : Nat} (h : n ≤ M) : (fill v M n).length = M := by unfold fill; simp; omega
theorem fill_get (v : Int) {M n j : Nat} (h : j < n) : (fill v M n)[j]? = some (.int .i64 v) := by
 unfold fill
 rw [List.getElem?_append_left (by simpa using h)]
 simp [List.getElem?_replicate, h]
theorem rep_get {α : Type} {v u : α} {k j : Nat} (h : (List.replicate k v)[j]? = some u) : j < k ∧ u = v := by
 rw [List.getElem?_replicate] at h
 split at h
 ·rename_i hj; simp at h; exact ⟨hj, h.symm⟩
 ·cases h
set_option maxHeartbeats 4000000 in
set_option maxRecDepth 100000 in
theorem repeat_any (v : Int) (M : Nat) (h1 : 1 ≤ M) (h2 : M ≤ 65536) (ba : Nat) (w : World) (hx : Bx w ba 3 [.int .i64 v]) :
  Calls Tryz.prog 29 #[.slice (some ⟨ba, 0, none⟩) 1 1, .int .i64 M] w fun e w' => ∃ g, e = .returned (.slice (some ⟨g, 0, none⟩) M M) ∧ Bx w' g 3 (List.replicate M (.int .i64 v)) ∧ w.heap.size ≤ g ∧ Gr w w' := by
 obtain ⟨i0, hi, hz0, hz1, hz2⟩ := info_parts_r infoI_r
 have hsz : (Tryz.prog.info? 3).map (·.size) = some 1 := by rw [hi]; simp [hz1]
 have d1 : decide ((M : Int) < 0) = false := by simp
 have u1 : IntKind.u64.wrap (M : Int) = (M : Int) := wrapU_r M (by omega)
 have d2 : decide ((9223372036854775807 : Int) < (M : Int)) = false := by simp; omega
 have HX := Lib.hid hx
 clear hx
 go_enter Tryz.func29, Tryz.ntmps29
 go_wp2_with fail
 refine (mul_one M h2 _).mono ?_
 rintro e w' ⟨rfl, rfl⟩
 go_wp2_with (first | (refine wpList_make_full _ rfl (.tmp 29) (.tmp 29) 50 rfl w.heap.size 3 i0 (.int .i64 0) 1 Tryz.underlying50 hi hz0 hz1 .i64 .i64 _ _ M rfl rfl ?c1 ?c2 ?c3 ?c4 ?c5 ?_))
 case c1 => rfl
 case c2 => rfl
 case c3 => first | omega | (rw [hz2]; omega)
 case c4 => unfold maxLen; omega
 try case c5 => simp
 intro w1 hown hgrow
 have hG : Gr w w1 := Below.grown (Gr.refl _) hgrow (Nat.le_refl _) (fun k hk => by simp at hk)
 have hB : Bx w1 w.heap.size 3 (fill v M 0) := by
  have := own_bx_r hown
  rw [toList_madeCells_one] at this
  simpa [fill] using this
 have hX1 := HX.out.gr hG
 have HG := Lib.hid hG; have HB := Lib.hid hB; have HX1 := Lib.hid hX1
 clear hown hgrow hG hB hX1
 have hs1 : splice (fill v M 0) 0 [.int .i64 v] = fill v M 1 := by have := fill_splice v (M := M) (n := 0) (k := 1) (by omega); simpa using this
 have HS1 := Lib.hid hs1
 clear hs1
 go_wp2_with (first | (refine wpList_copy_splice rfl (.tmp 31) (.tmp 32) 50 50 rfl 3 Tryz.underlying50 hsz _ _ _ _ _ _ rfl rfl w.heap.size 0 (fill v M 0) 3 HB.out [.int .i64 v] ?d1 ?d2 ?d3 ?d4 w.heap.size w HG.out (Nat.le_refl _) ?_))
 case d1 => exact (Nat.min_eq_left h1).symm
 case d2 =>
  intro j u hj
  match j, hj with
  | 0, hj => simp at hj; subst hj; exact HX1.out.blk.cell 0 rfl
 case d3 => rw [fill_len v (by omega)]; simp; omega
 case d4 => intro z hz; simp at hz; subst hz; rfl
 intro w2 hb2 hg2
 rw [HS1.out] at hb2
 have HG2 := Lib.hid hg2
 clear hg2
 go_wp2_with fail
 go_loopw [8] (fun v8 wr => ∃ n : Nat, 1 ≤ n ∧ n ≤ M ∧ v8 = .int .i64 n ∧ Bx wr w.heap.size 3 (fill v M n) ∧ Below w.heap.size w wr) (fun v8 _ => M - (intOf v8).toNat)
 case atStart => exact ⟨1, by omega, by omega, rfl, hb2, HG2.out⟩
 case round =>
  clear hb2
  obtain ⟨n, hn1, hn2, rfl, hb, hg⟩ := hrel
  have HBB := Lib.hid hb; have HGG := Lib.hid hg
  clear hb hg
  by_cases hlt : n < M
  ·have b1 : (0 : Int) ≤ (n : Int) := by omega
   have b2 : (n : Int) ≤ (M : Int) := by omega
   have b3 : ¬ M = n := by omega
   have hk : (List.replicate (min n (M - n)) (Value.int .i64 v)).length = Nat.min n (M - n) := by simp
   have hsp := fill_splice v (M := M) (n := n) (k := min n (M - n)) (by omega)
   have hfl : n + (List.replicate (min n (M - n)) (Value.int .i64 v)).length ≤ (fill v M n).length := by rw [fill_len v hn2]; simp; omega
   have HSP := Lib.hid hsp; have HK := Lib.hid hk; have HFL := Lib.hid hfl
   clear hsp hk hfl
   have hcell : ∀ j u, (List.replicate (min n (M - n)) (Value.int .i64 v))[j]? = some u → wr.drew.cell? ((⟨w.heap.size, 0, none⟩ : Addr).add j) = some u := by
    intro j u hj
    obtain ⟨hj', rfl⟩ := rep_get hj
    rw [add_none, Nat.zero_add]
    exact HBB.out.blk.cell j (fill_get v (by omega))
   have HC := Lib.hid hcell
   clear hcell
   go_wp2_with fail
   go_region_law (refine step_copy_splice (by rfl) (.tmp 41) (.tmp 44) 50 50 (by rfl) 3 Tryz.underlying50 hsz _ _ _ _ _ _ (by rfl) (by rfl) w.heap.size n (fill v M n) 3 (show wr.drew.heap[w.heap.size]? = _ from HBB.out) (List.replicate (min n (M - n)) (.int .i64 v)) HK.out (fun _ => ⟨by first | rfl | simp, ⟨w.heap.size, 0, none⟩, by first | rfl | simp, HC.out⟩) HFL.out (fun z hz => by rw [(List.mem_replicate.1 hz).2]; rfl) w.heap.size w HGG.out.drew (Nat.le_refl _) ?_; intro w4 hg4 hb4)
   have hB4 : Bx w4 w.heap.size 3 (fill v M (n + min n (M - n))) := by have := hg4.out; rw [HSP.out] at this; exact this
   have hwr : IntKind.i64.wrap ((n : Int) + ((min n (M - n) : Nat) : Int)) = ((n + min n (M - n) : Nat) : Int) := by rw [← Int.natCast_add]; exact IntWalk.i64_in _ (by omega)
   have hmin : 1 ≤ min n (M - n) := by omega
   have hle : n + min n (M - n) ≤ M := by omega
   have hgt : n < n + min n (M - n) := by omega
   have HB4 := Lib.hid hB4; have HG4 := Lib.hid hb4
   clear hB4 hb4 hg4
   generalize n + min n (M - n) = n' at *
   generalize min n (M - n) = k at *
   go_simp
   go_wp2
   go_roundw
   case rel => exact ⟨n', by omega, by omega, rfl, HB4.out, HG4.out⟩
   case measure => simp [intOf, hwr]; omega
  ·have hMn : n = M := by omega
   subst hMn
   have hb : Bx wr w.heap.size 3 (List.replicate n (.int .i64 v)) := by have := HBB.out; simpa [fill] using this
   have HBB := Lib.hid hb
   clear hb
   go_wp2_with fail
   go_ret
   exact ⟨_, rfl, HBB.out, Nat.le_refl _, HGG.out⟩
end Mt
end Go.Proofs.YtlfoglklibhbnaaGreat
namespace Go.Proofs.YtlfoglklibhbnaaGreat
open Go.RowKit
namespace Mt
attribute [local go_sem ↓] Go.wp_at_zero Go.wp_at_succ
def P0 : PA := ⟨none, 0, [], none, 0, [], 0, 0⟩
def offX (a : AT) (i : Nat) : Int := 16 * ((a.rs.getD i []).getD 0 0 + a.pad)
def offY (a : AT) (i : Nat) : Int := 16 * ((a.rs.getD i []).getD 1 0 + a.pad)
def allU (a : AT) : Nat → List (List Int)
 | 0 => []
 | i + 1 => allU a i ++ mvd (a.qs.getD i P0) (offX a i) (offY a i)
def allO (a : AT) : Nat → List Int
 | 0 => []
 | i + 1 => allO a i ++ List.replicate (a.qs.getD i P0).uv.length (i : Int)
theorem mvd_len (p : PA) (x y : Int) : (mvd p x y).length = p.uv.length := tnd_len _ _ _
theorem allO_len (a : AT) : ∀ i, (allO a i).length = (allU a i).length
 | 0 => rfl
 | i + 1 => by simp only [allO, allU, List.length_append, List.length_replicate, mvd_len, allO_len a i]
theorem qs_at (a : AT) {i : Nat} (h : i < a.qs.length) : a.qs.getD i P0 = a.qs[i] := by
 rw [List.getD_eq_getElem?_getD, List.getElem?_eq_getElem h]; rfl
theorem allU_few {a : AT} (hg : AGood a) : ∀ i, i ≤ a.qs.length → (allU a i).length ≤ 12 * i
 | 0, _ => by simp [allU]
 | i + 1, h => by
  have h1 := allU_few hg i (by omega)
  have h2 := (hg.good _ (List.getElem_mem (show i < a.qs.length by omega))).few
  simp only [allU, List.length_append, mvd_len]
  rw [qs_at a (by omega)]
  omega
def AllP (a : AT) (w : World) (e : Ending) (w' : World) : Prop :=
 ∃ a1 c1 a2 c2, e = .returned (.tuple #[.slice a1 (allU a a.qs.length).length c1, .slice a2 (allO a a.qs.length).length c2, .int .i64 0]) ∧ (allU a a.qs.length).length ≤ c1 ∧ Oi.IsRows 6 w' a1 (allU a a.qs.length).length (allU a a.qs.length) ∧ IsRow .i64 w' a2 (allO a a.qs.length).length (allO a a.qs.length) ∧ Gr w w'
theorem rect_bd {a : AT} (hg : AGood a) {i : Nat} (h : i < a.qs.length) : (0 ≤ (a.rs.getD i []).getD 0 0 ∧ (a.rs.getD i []).getD 0 0 ≤ 256) ∧ (0 ≤ (a.rs.getD i []).getD 1 0 ∧ (a.rs.getD i []).getD 1 0 ≤ 256) := by
 have h1 := (hg.rects i (by rw [hg.len]; exact h)).1
 have h2 := hg.num
 unfold inB at h1
 unfold numB at h2
 simp only [Bool.and_eq_true, decide_eq_true_eq] at h2
 omega
theorem mvd_I {p : PA} {x y : Int} (hg : PGood p) (hx : 0 ≤ x ∧ x ≤ 65536) (hy : 0 ≤ y ∧ y ≤ 65536) : ∀ z ∈ mvd p x y, z.length = 6 ∧ ∀ u ∈ z, I u := by
 intro z hz
 obtain ⟨j, hj⟩ := List.getElem?_of_mem hz
 have hjl : j < (mvd p x y).length := (List.getElem?_eq_some_iff.1 hj).1
 rw [mvd_len] at hjl
 have e := tnd_at (fun k => ptx p.uv k + x) (fun k => pty p.uv k + y) hjl
 have e2 : (mvd p x y).getD j [] = z := by rw [List.getD_eq_getElem?_getD, hj]; rfl
 unfold mvd at e2
 rw [e2] at e
 subst e
 have b0 := hg.small (3 * j) (by omega); have b1 := hg.small (3 * j + 1) (by omega); have b2 := hg.small (3 * j + 2) (by omega)
 refine ⟨rfl, fun u hu => ?_⟩
 simp only [List.mem_cons, List.not_mem_nil, or_false] at hu
 rcases hu with rfl | rfl | rfl | rfl | rfl | rfl <;> exact ⟨by omega, by omega⟩
theorem allU_I {a : AT} (hg : AGood a) (hpad : 1 ≤ a.pad ∧ a.pad ≤ 8) : ∀ i, i ≤ a.qs.length → ∀ z ∈ allU a i, z.length = 6 ∧ ∀ u ∈ z, I u
 | 0, _, z, hz => by simp [allU] at hz
 | i + 1, h, z, hz => by
  unfold allU at hz
  rw [List.mem_append] at hz
  rcases hz with hz | hz
  ·exact allU_I hg hpad i (by omega) z hz
  ·have hb := rect_bd hg (show i < a.qs.length by omega)
   rw [qs_at a (show i < a.qs.length by omega)] at hz
   exact mvd_I (hg.good _ (List.getElem_mem _)) (by unfold offX; omega) (by unfold offY; omega) z hz
theorem allO_I (a : AT) : ∀ i, i ≤ 1000 → ∀ x ∈ allO a i, I x
 | 0, _, x, hx => by simp [allO] at hx
 | i + 1, h, x, hx => by
  unfold allO at hx
  rw [List.mem_append] at hx
  rcases hx with hx | hx
  ·exact allO_I a i (by omega) x hx
  ·rw [List.eq_of_mem_replicate hx]; exact ⟨by omega, by omega⟩
set_option maxHeartbeats 16000000 in
set_option maxRecDepth 100000 in
theorem all_good (at' : AT) (hg : AGood at') (w : World) (hm : AMem w at') :
  Calls Tryz.prog 13 #[.agg at'.vs.toArray] w (AllP at' w) := by
 obtain ⟨i0, hi, hz0, hz1, hz2⟩ := info_parts infoT
 obtain ⟨j0, hj, hy0, hy1, hy2⟩ := info_parts infoInt
 have HG0 := Lib.hid hg
 have hpad : 1 ≤ at'.pad ∧ at'.pad ≤ 8 := by
  have g1 := hg.num
  unfold numB at g1
  simp only [Bool.and_eq_true, decide_eq_true_eq] at g1
  omega
 have HIS := Lib.hid (fun w1 (g : Gr w w1) => ais_good at' hg w1 (hm.later g))
 have HFW := Lib.hid (fun i (h : i ≤ at'.qs.length) => allU_few hg i h)
 have HUI := Lib.hid (allU_I hg hpad at'.qs.length (Nat.le_refl _))
 have HBD := Lib.hid (fun i (h : i < at'.qs.length) => rect_bd hg h)
 have HOL := Lib.hid (allO_len at')
 have HUS := Lib.hid (fun i => (show allU at' (i + 1) = allU at' i ++ mvd (at'.qs.getD i P0) (offX at' i) (offY at' i) from rfl))
 have HOS := Lib.hid (fun i => (show allO at' (i + 1) = allO at' i ++ List.replicate (at'.qs.getD i P0).uv.length (i : Int) from rfl))
 have HU0 := Lib.hid (show allU at' 0 = [] from rfl); have HO0 := Lib.hid (show allO at' 0 = [] from rfl)
 have HQA := Lib.hid (fun i (h : i < at'.qs.length) => qs_at at' h)
 have HPX := Lib.hid (fun i => (show offX at' i = 16 * ((at'.rs.getD i []).getD 0 0 + at'.pad) from rfl)); have HPY := Lib.hid (fun i => (show offY at' i = 16 * ((at'.rs.getD i []).getD 1 0 + at'.pad) from rfl))
 have HGD := Lib.hid hg.good; have HPS := Lib.hid hm.1; have HRS := Lib.hid hm.2.1
 have hfew := hg.few; have hlen := hg.len
 have HOI := Lib.hid (allO_I at' at'.qs.length (by omega))
 have HGOAL : ∀ e w', (∃ a1 c1 a2 c2, e = .returned (.tuple #[.slice a1 (allU at' at'.qs.length).length c1, .slice a2 (allO at' at'.qs.length).length c2, .int .i64 0]) ∧ (allU at' at'.qs.length).length ≤ c1 ∧ Oi.IsRows 6 w' a1 (allU at' at'.qs.length).length (allU at' at'.qs.length) ∧ IsRow .i64 w' a2 (allO at' at'.qs.length).length (allO at' at'.qs.length) ∧ Gr w w') → AllP at' w e w' := fun _ _ h => h
 refine Calls.mono ?_ HGOAL
 clear HGOAL hg hm HG0
 generalize allU at' = U at *
 generalize allO at' = O at *
 generalize offX at' = OX at *
 generalize offY at' = OY at *
 obtain ⟨W, H, pad, pa, pc, ps, ra, rc, rs⟩ := at'
 simp only [AT.vs] at HIS HFW HUI HBD HOL HUS HOS HQA HPX HPY HGD HPS HRS HOI hfew hlen hpad ⊢
 obtain ⟨n, hn⟩ : ∃ n, ps.length = n := ⟨_, rfl⟩
 have HN := Lib.hid hn
 rw [hn] at hlen HFW HUI HBD HIS HOI hfew ⊢
 rw [hlen] at HRS HIS ⊢
 clear hn hlen
 obtain ⟨V, hV⟩ : ∃ V, w.alloc (.cells #[.int .i64 W, .int .i64 H, .int .i64 pad, .slice pa n pc, .slice ra n rc] 32) = V := ⟨_, rfl⟩
 obtain ⟨s, hs⟩ : ∃ s, w.heap.size = s := ⟨_, rfl⟩
 have hX : Bx V s 32 [.int .i64 W, .int .i64 H, .int .i64 pad, .slice pa n pc, .slice ra n rc] := by rw [← hV]; exact Bx.new (vs := [.int .i64 W, .int .i64 H, .int .i64 pad, .slice pa n pc, .slice ra n rc]) hs.symm
 have hG : Gr w V := by rw [← hV]; exact (Gr.refl w).alloc _
 have x0 := hX.blk.cell 0 rfl; have x1 := hX.blk.cell 1 rfl; have x2 := hX.blk.cell 2 rfl; have x3 := hX.blk.cell 3 rfl; have x4 := hX.blk.cell 4 rfl; have lX := hX.lt
 have HX := Lib.hid hX; have HG := Lib.hid hG
 clear hX hG
 go_enter Tryz.func13, Tryz.ntmps13
 go_wp2_with fail
 clear hV hs
 refine (HIS.out V HG.out).mono ?_
 rintro e w2 ⟨rfl, hg2⟩
 have HX2 := Lib.hid (HX.out.gr hg2); have HG2 := Lib.hid (HG.out.trans hg2)
 clear x0 x1 x2 x3 x4 lX HX HG hg2 HIS
 have x3 := HX2.out.blk.cell 3 rfl; have lX := HX2.out.lt
 go_wp2_with fail
 clear x3 lX
 go_loopw [5, 6, 17] (fun v5 v6 v17 wr => ∃ i : Nat, i ≤ n ∧ v17 = .int .i64 i ∧ wr.ownsRow w2.heap.size 39 6 v5 (U i).length (Ro.fl (U i)) ∧ wr.ownsRow w2.heap.size 3 1 v6 (O i).length ((O i).map (Value.int .i64)) ∧ (∀ b, v5.ownBlock = some b → v6.ownBlock = some b → False) ∧ Gr w2 wr) (fun _ _ v17 _ => n - (intOf v17).toNat)
 case atStart => exact ⟨0, Nat.zero_le _, rfl, by rw [HU0.out]; exact World.ownsRow_nil _ _ _ _, by rw [HO0.out]; exact World.ownsRow_nil _ _ _ _, (fun b h => by simp [Value.ownBlock] at h), Gr.refl _⟩
 case round =>
  obtain ⟨i, hi', rfl, hu, ho, hsep, hgr⟩ := hrel
  obtain ⟨a5, cap5, rfl⟩ := own_slice hu
  obtain ⟨a6, cap6, rfl⟩ := own_slice ho
  have HU := Lib.hid hu; have HO := Lib.hid ho; have HSEP := Lib.hid hsep; have HGR := Lib.hid hgr
  clear hu ho hsep hgr
  by_cases hlt : i < n
  ·have hip : i < ps.length := by have := HN.out; omega
   obtain ⟨b, off, rfl, lb, hpm, c0, c1, c2, c3⟩ := prow_op (HPS.out.later (HG2.out.trans HGR.out)) hip
   have hpg := HGD.out _ (List.getElem_mem hip)
   have hbd := HBD.out i hlt
   have hfw := HFW.out (i + 1) (by omega)
   have hus := HUS.out i; have hos := HOS.out i; have hpx := HPX.out i; have hpy := HPY.out i; have hol := HOL.out i
   rw [HQA.out i hip] at hus hos
   obtain ⟨rb, roff, r0, r1, r2, r3, rfl, lrb, ez, _, e0, e1, e2, e3⟩ := rows4_op (HRS.out.later (HG2.out.trans HGR.out)) hlt
   rw [ez] at hbd hpx hpy
   simp only [List.getD_cons_zero, List.getD_cons_succ] at hbd hpx hpy
   rw [hpx, hpy] at hus
   clear ez hpx hpy e2 e3
   generalize ps[i] = p at *
   rw [hus, List.length_append, mvd_len] at hfw
   have hp2 := hpg.pos; have hp3 := hpg.few
   have HUS1 := Lib.hid hus; have HOS1 := Lib.hid hos; have HOL1 := Lib.hid hol
   have hxb : 0 ≤ 16 * (r0 + pad) ∧ 16 * (r0 + pad) ≤ 65536 := by omega
   have hyb : 0 ≤ 16 * (r1 + pad) ∧ 16 * (r1 + pad) ≤ 65536 := by omega
   have hi0 : (0 : Int) ≤ (i : Int) := by omega
   have HMI := Lib.hid (mvd_I hpg hxb hyb)
   have HX3 := Lib.hid (HX2.out.gr HGR.out)
   obtain ⟨U1, hU1⟩ : ∃ U1, wr.alloc (.cells p.vs.toArray 70) = U1 := ⟨_, rfl⟩
   obtain ⟨s1, hs1⟩ : ∃ s1, wr.heap.size = s1 := ⟨_, rfl⟩
   have hP1 : Bx U1 s1 70 p.vs := by rw [← hU1]; exact Bx.new (vs := p.vs) hs1.symm
   have hG1 : Gr wr U1 := by rw [← hU1]; exact (Gr.refl _).alloc _
   have HMV := Lib.hid (move_good p (16 * (r0 + pad)) (16 * (r1 + pad)) hpg U1.drew (hpm.later (hG1.drew)) hxb hyb)
   have HPV := Lib.hid (show p.vs = [.slice p.ta p.tris.length p.tc, .slice p.ua p.uv.length p.uc, .int .i64 p.W, .int .i64 p.H] from rfl)
   have q0 := hP1.blk.cell 0 rfl; have q1 := hP1.blk.cell 1 rfl; have q2 := hP1.blk.cell 2 rfl; have q3 := hP1.blk.cell 3 rfl; have lq := hP1.lt
   have hX4 := HX3.out.gr hG1
   have y2 := hX4.blk.cell 2 rfl; have y4 := hX4.blk.cell 4 rfl; have ly := hX4.lt
   have f0 : U1.cell? ⟨rb, roff + i * 4, none⟩ = some (.int .i64 r0) := (hG1.cell lrb).trans e0
   have f1 : U1.cell? ⟨rb, roff + i * 4 + 1, none⟩ = some (.int .i64 r1) := (hG1.cell lrb).trans e1
   have lrb1 : rb < U1.heap.size := by have := hG1.size; omega
   have HGU := Lib.hid hG1; have HPU := Lib.hid hP1; have HXU := Lib.hid hX4; have HF0 := Lib.hid f0; have HF1 := Lib.hid f1
   have HUU := Lib.hid (Fa_owns HU.out hG1); have HOU := Lib.hid (Fa_owns HO.out hG1)
   unfold PA.vs at hU1
   clear hP1 hG1 hX4 hpm e0 e1 hus hos hol hpg HU HO
   go_wp2_with fail
   refine wp_region_held_drew (S := fun w' => w'.cell? ⟨s1, 0, none⟩ = some (.slice p.ta p.tris.length p.tc) ∧ w'.cell? ⟨s1, 1, none⟩ = some (.slice p.ua p.uv.length p.uc) ∧ w'.cell? ⟨s1, 2, none⟩ = some (.int .i64 p.W) ∧ w'.cell? ⟨s1, 3, none⟩ = some (.int .i64 p.H) ∧ w'.cell? ⟨s, 2, none⟩ = some (.int .i64 pad) ∧ w'.cell? ⟨s, 4, none⟩ = some (.slice (some ⟨rb, roff, none⟩) n rc) ∧ w'.cell? ⟨rb, roff + i * 4, none⟩ = some (.int .i64 r0) ∧ w'.cell? ⟨rb, roff + i * 4 + 1, none⟩ = some (.int .i64 r1)) (by kernel_rfl) ?_ (fun hH => ?_)
   ·exact ⟨HPU.out.blk.cell 0 rfl, HPU.out.blk.cell 1 rfl, HPU.out.blk.cell 2 rfl, HPU.out.blk.cell 3 rfl, HXU.out.blk.cell 2 rfl, HXU.out.blk.cell 4 rfl, HF0.out, HF1.out⟩
   refine' wpAnyH_take (i := 0) (v := _) rfl (by kernel_rfl) (by kernel_rfl) (by kernel_rfl) (fun _ _ _ h => h) (Or.inl ⟨by rfl, ?thy1_0⟩) (by assumption) ?_
   case thy1_0 => (intro w hSw; (try dsimp only at hSw); go_simp; try with_reducible rfl)
   try simp only [Act.put, List.setIfInBounds_toArray, List.set_cons_zero, List.set_cons_succ, List.getElem_toArray, List.getElem_cons_zero]
   refine' wpAnyH_take (i := 1) (v := _) rfl (by kernel_rfl) (by kernel_rfl) (by kernel_rfl) (fun _ _ _ h => h) (Or.inl ⟨by rfl, ?thy1_1⟩) (by assumption) ?_
   case thy1_1 => (intro w hSw; (try dsimp only at hSw); go_simp; try with_reducible rfl)
   try simp only [Act.put, List.setIfInBounds_toArray, List.set_cons_zero, List.set_cons_succ, List.getElem_toArray, List.getElem_cons_succ, List.getElem_cons_zero]
   refine' wpAnyH_take (i := 2) (v := _) rfl (by kernel_rfl) (by kernel_rfl) (by kernel_rfl) (fun _ _ _ h => h) (Or.inl ⟨by rfl, ?thy1_2⟩) (by assumption) ?_
   case thy1_2 => (intro w hSw; (try dsimp only at hSw); go_simp; try with_reducible rfl)
   try simp only [Act.put, List.setIfInBounds_toArray, List.set_cons_zero, List.set_cons_succ, List.getElem_toArray, List.getElem_cons_succ, List.getElem_cons_zero]
   refine' wpAnyH_take (i := 3) (v := _) rfl (by kernel_rfl) (by kernel_rfl) (by kernel_rfl) (fun _ _ _ h => h) (Or.inl ⟨by rfl, ?thy1_3⟩) (by assumption) ?_
   case thy1_3 => (intro w hSw; (try dsimp only at hSw); go_simp; try with_reducible rfl)
   try simp only [Act.put, List.setIfInBounds_toArray, List.set_cons_zero, List.set_cons_succ, List.getElem_toArray, List.getElem_cons_succ, List.getElem_cons_zero]
   refine' wpAnyH_take (i := 4) (v := _) rfl (by kernel_rfl) (by kernel_rfl) (by kernel_rfl) (fun _ _ _ h => h) (Or.inl ⟨by rfl, ?thy1_4⟩) (by assumption) ?_
   case thy1_4 => (intro w hSw; (try dsimp only at hSw); go_simp; try with_reducible rfl)
   try simp only [Act.put, List.setIfInBounds_toArray, List.set_cons_zero, List.set_cons_succ, List.getElem_toArray, List.getElem_cons_succ, List.getElem_cons_zero]
   refine' wpAnyH_take (i := 5) (v := _) rfl (by kernel_rfl) (by kernel_rfl) (by kernel_rfl) (fun _ _ _ h => h) (Or.inl ⟨by rfl, ?thy1_5⟩) (by assumption) ?_
   case thy1_5 => (intro w hSw; (try dsimp only at hSw); go_simp; try with_reducible rfl)
   try simp only [Act.put, List.setIfInBounds_toArray, List.set_cons_zero, List.set_cons_succ, List.getElem_toArray, List.getElem_cons_succ, List.getElem_cons_zero]
   refine' wpAnyH_take (i := 6) (v := _) rfl (by kernel_rfl) (by kernel_rfl) (by kernel_rfl) (fun _ _ _ h => h) (Or.inl ⟨by rfl, ?thy1_6⟩) (by assumption) ?_
   case thy1_6 => (intro w hSw; (try dsimp only at hSw); go_simp; try with_reducible rfl)
   try simp only [Act.put, List.setIfInBounds_toArray, List.set_cons_zero, List.set_cons_succ, List.getElem_toArray, List.getElem_cons_succ, List.getElem_cons_zero]
   refine' wpAnyH_take (i := 7) (v := _) rfl (by kernel_rfl) (by kernel_rfl) (by kernel_rfl) (fun _ _ _ h => h) (Or.inl ⟨by rfl, ?thy1_7⟩) (by assumption) ?_
   case thy1_7 => (intro w hSw; (try dsimp only at hSw); go_simp; try with_reducible rfl)
   try simp only [Act.put, List.setIfInBounds_toArray, List.set_cons_zero, List.set_cons_succ, List.getElem_toArray, List.getElem_cons_succ, List.getElem_cons_zero]
   refine' wpAnyH_take (i := 8) (v := _) rfl (by kernel_rfl) (by kernel_rfl) (by kernel_rfl) (fun _ _ _ h => h) (Or.inl ⟨by rfl, ?thy1_8⟩) (by assumption) ?_
   case thy1_8 => (intro w hSw; (try dsimp only at hSw); go_simp; try with_reducible rfl)
   try simp only [Act.put, List.setIfInBounds_toArray, List.set_cons_zero, List.set_cons_succ, List.getElem_toArray, List.getElem_cons_succ, List.getElem_cons_zero]
   refine' wpAnyH_take (i := 9) (v := _) rfl (by kernel_rfl) (by kernel_rfl) (by kernel_rfl) (fun _ _ _ h => h) (Or.inl ⟨by rfl, ?thy1_9⟩) (by assumption) ?_
   case thy1_9 => (intro w hSw; (try dsimp only at hSw); go_simp; try with_reducible rfl)
   try simp only [Act.put, List.setIfInBounds_toArray, List.set_cons_zero, List.set_cons_succ, List.getElem_toArray, List.getElem_cons_succ, List.getElem_cons_zero]
   refine' wpAnyH_take (i := 10) (v := _) rfl (by kernel_rfl) (by kernel_rfl) (by kernel_rfl) (fun _ _ _ h => h) (Or.inl ⟨by rfl, ?thy1_10⟩) (by assumption) ?_
   case thy1_10 => (intro w hSw; (try dsimp only at hSw); go_simp; try with_reducible rfl)
   try simp only [Act.put, List.setIfInBounds_toArray, List.set_cons_zero, List.set_cons_succ, List.getElem_toArray, List.getElem_cons_succ, List.getElem_cons_zero]
   refine' wpAnyH_take (i := 11) (v := _) rfl (by kernel_rfl) (by kernel_rfl) (by kernel_rfl) (fun _ _ _ h => h) (Or.inl ⟨by rfl, ?thy1_11⟩) (by assumption) ?_
   case thy1_11 => (intro w hSw; (try dsimp only at hSw); go_simp; try with_reducible rfl)
   try simp only [Act.put, List.setIfInBounds_toArray, List.set_cons_zero, List.set_cons_succ, List.getElem_toArray, List.getElem_cons_succ, List.getElem_cons_zero]
   refine' wpAnyH_take (i := 12) (v := _) rfl (by kernel_rfl) (by kernel_rfl) (by kernel_rfl) (fun _ _ _ h => h) (Or.inl ⟨by rfl, ?thy1_12⟩) (by assumption) ?_
   case thy1_12 => (intro w hSw; (try dsimp only at hSw); go_simp; try with_reducible rfl)
   try simp only [Act.put, List.setIfInBounds_toArray, List.set_cons_zero, List.set_cons_succ, List.getElem_toArray, List.getElem_cons_succ, List.getElem_cons_zero]
   refine' wpAnyH_take (i := 13) (v := _) rfl (by kernel_rfl) (by kernel_rfl) (by kernel_rfl) (fun _ _ _ h => h) (Or.inl ⟨by rfl, ?thy1_13⟩) (by assumption) ?_
   case thy1_13 => (intro w hSw; (try dsimp only at hSw); go_simp; try with_reducible rfl)
   try simp only [Act.put, List.setIfInBounds_toArray, List.set_cons_zero, List.set_cons_succ, List.getElem_toArray, List.getElem_cons_succ, List.getElem_cons_zero]
   refine' wpAnyH_take (i := 14) (v := _) rfl (by kernel_rfl) (by kernel_rfl) (by kernel_rfl) (fun _ _ _ h => h) (Or.inl ⟨by rfl, ?thy1_14⟩) (by assumption) ?_
   case thy1_14 => (intro w hSw; (try dsimp only at hSw); go_simp; try with_reducible rfl)
   try simp only [Act.put, List.setIfInBounds_toArray, List.set_cons_zero, List.set_cons_succ, List.getElem_toArray, List.getElem_cons_succ, List.getElem_cons_zero]
   refine' wpAnyH_take (i := 15) (v := _) rfl (by kernel_rfl) (by kernel_rfl) (by kernel_rfl) (fun _ _ _ h => h) (Or.inl ⟨by rfl, ?thy1_15⟩) (by assumption) ?_
   case thy1_15 => (intro w hSw; (try dsimp only at hSw); go_simp; try with_reducible rfl)
   try simp only [Act.put, List.setIfInBounds_toArray, List.set_cons_zero, List.set_cons_succ, List.getElem_toArray, List.getElem_cons_succ, List.getElem_cons_zero]
   refine' wpAnyH_take (i := 16) (v := _) rfl (by kernel_rfl) (by kernel_rfl) (by kernel_rfl) (fun _ _ _ h => h) (Or.inl ⟨by rfl, ?thy1_16⟩) (by assumption) ?_
   case thy1_16 => (intro w hSw; (try dsimp only at hSw); go_simp; try with_reducible rfl)
   try simp only [Act.put, List.setIfInBounds_toArray, List.set_cons_zero, List.set_cons_succ, List.getElem_toArray, List.getElem_cons_succ, List.getElem_cons_zero]
   refine' wpAnyH_take (i := 17) (v := _) rfl (by kernel_rfl) (by kernel_rfl) (by kernel_rfl) (fun _ _ _ h => h) (Or.inl ⟨by rfl, ?thy1_17⟩) (by assumption) ?_
   case thy1_17 => (intro w hSw; (try dsimp only at hSw); go_simp; try with_reducible rfl)
   try simp only [Act.put, List.setIfInBounds_toArray, List.set_cons_zero, List.set_cons_succ, List.getElem_toArray, List.getElem_cons_succ, List.getElem_cons_zero]
   refine' wpAnyH_take (i := 18) (v := _) rfl (by kernel_rfl) (by kernel_rfl) (by kernel_rfl) (fun _ _ _ h => h) (Or.inl ⟨by rfl, ?thy1_18⟩) (by assumption) ?_
   case thy1_18 => (intro w hSw; (try dsimp only at hSw); go_simp; try with_reducible rfl)
   try simp only [Act.put, List.setIfInBounds_toArray, List.set_cons_zero, List.set_cons_succ, List.getElem_toArray, List.getElem_cons_succ, List.getElem_cons_zero]
   refine' wpAnyH_take (i := 19) (v := _) rfl (by kernel_rfl) (by kernel_rfl) (by kernel_rfl) (fun _ _ _ h => h) (Or.inl ⟨by rfl, ?thy1_19⟩) (by assumption) ?_
   case thy1_19 => (intro w hSw; (try dsimp only at hSw); go_simp; try with_reducible rfl)
   try simp only [Act.put, List.setIfInBounds_toArray, List.set_cons_zero, List.set_cons_succ, List.getElem_toArray, List.getElem_cons_succ, List.getElem_cons_zero]
   refine' wpAnyH_take (i := 20) (v := _) rfl (by kernel_rfl) (by kernel_rfl) (by kernel_rfl) (fun _ _ _ h => h) (Or.inl ⟨by rfl, ?thy1_20⟩) (by assumption) ?_
   case thy1_20 => (intro w hSw; (try dsimp only at hSw); go_simp; try with_reducible rfl)
   try simp only [Act.put, List.setIfInBounds_toArray, List.set_cons_zero, List.set_cons_succ, List.getElem_toArray, List.getElem_cons_succ, List.getElem_cons_zero]
   refine' wpAnyH_take (i := 21) (v := _) rfl (by kernel_rfl) (by kernel_rfl) (by kernel_rfl) (fun _ _ _ h => h) (Or.inl ⟨by rfl, ?thy1_21⟩) (by assumption) ?_
   case thy1_21 => (intro w hSw; (try dsimp only at hSw); go_simp; try with_reducible rfl)
   try simp only [Act.put, List.setIfInBounds_toArray, List.set_cons_zero, List.set_cons_succ, List.getElem_toArray, List.getElem_cons_succ, List.getElem_cons_zero]
   refine wpAnyH_ready (rs := [22]) (by kernel_rfl) (by simp) ?_
   refine AllReadyH.cons rfl (fun K hK => ?_) AllReadyH.nil
   go_simp
   go_at_call 28
   rw [show IntKind.i64.wrap (r0 + pad) = r0 + pad from IntWalk.i64_in _ ⟨by omega, by omega⟩, show IntKind.i64.wrap (r1 + pad) = r1 + pad from IntWalk.i64_in _ ⟨by omega, by omega⟩, show IntKind.i64.wrap (16 * (r0 + pad)) = 16 * (r0 + pad) from IntWalk.i64_in _ ⟨by omega, by omega⟩, show IntKind.i64.wrap (16 * (r1 + pad)) = 16 * (r1 + pad) from IntWalk.i64_in _ ⟨by omega, by omega⟩]
   refine HMV.out.mono ?_
   rintro e w3 ⟨gm, cm, rfl, hcm, hrm, hg⟩
   have HGQ := Lib.hid (show Gr U1 w3 from ⟨hg.os, hg.tape, hg.output, hg.size, fun k hk => hg.block k hk⟩)
   have HRM := Lib.hid hrm
   have Q := Lib.hid ((bx_drew HPU.out).gr hg); clear HPU; have HPU := Lib.hid Q.out; clear Q
   have Q := Lib.hid ((bx_drew HXU.out).gr hg); clear HXU; have HXU := Lib.hid Q.out; clear Q
   have Q := Lib.hid ((hg.cell (p := ⟨rb, roff + i * 4, none⟩) lrb1).trans HF0.out); clear HF0; have HF0 := Lib.hid Q.out; clear Q
   have Q := Lib.hid ((hg.cell (p := ⟨rb, roff + i * 4 + 1, none⟩) lrb1).trans HF1.out); clear HF1; have HF1 := Lib.hid Q.out; clear Q
   have hcc : w3.cell? ⟨s1, 0, none⟩ = some (.slice p.ta p.tris.length p.tc) ∧ w3.cell? ⟨s1, 1, none⟩ = some (.slice p.ua p.uv.length p.uc) ∧ w3.cell? ⟨s1, 2, none⟩ = some (.int .i64 p.W) ∧ w3.cell? ⟨s1, 3, none⟩ = some (.int .i64 p.H) ∧ w3.cell? ⟨s, 2, none⟩ = some (.int .i64 pad) ∧ w3.cell? ⟨s, 4, none⟩ = some (.slice (some ⟨rb, roff, none⟩) n rc) ∧ w3.cell? ⟨rb, roff + i * 4, none⟩ = some (.int .i64 r0) ∧ w3.cell? ⟨rb, roff + i * 4 + 1, none⟩ = some (.int .i64 r1) := ⟨HPU.out.blk.cell 0 rfl, HPU.out.blk.cell 1 rfl, HPU.out.blk.cell 2 rfl, HPU.out.blk.cell 3 rfl, HXU.out.blk.cell 2 rfl, HXU.out.blk.cell 4 rfl, HF0.out, HF1.out⟩
   clear hg
   go_wp2_with fail
   refine hK.out _ _ ?_ (fun hN => ?_)
   ·exact hcc
   clear hK K hH hcc
   have hH := hN; clear hN
   try simp only [Act.put, List.setIfInBounds_toArray, List.set_cons_zero, List.set_cons_succ, List.getElem_toArray, List.getElem_cons_succ, List.getElem_cons_zero]
   refine' wpAnyH_take (i := 23) (v := _) rfl (by kernel_rfl) (by kernel_rfl) (by kernel_rfl) (fun _ _ _ h => h) (Or.inl ⟨by rfl, ?thy1_22⟩) (by assumption) ?_
   case thy1_22 => (intro w hSw; (try dsimp only at hSw); go_simp; try with_reducible rfl)
   try simp only [Act.put, List.setIfInBounds_toArray, List.set_cons_zero, List.set_cons_succ, List.getElem_toArray, List.getElem_cons_succ, List.getElem_cons_zero]
   refine' wpAnyH_take (i := 24) (v := _) rfl (by kernel_rfl) (by kernel_rfl) (by kernel_rfl) (fun _ _ _ h => h) (Or.inl ⟨by rfl, ?thy1_23⟩) (by assumption) ?_
   case thy1_23 => (intro w hSw; (try dsimp only at hSw); go_simp; try with_reducible rfl)
   try simp only [Act.put, List.setIfInBounds_toArray, List.set_cons_zero, List.set_cons_succ, List.getElem_toArray, List.getElem_cons_succ, List.getElem_cons_zero]
   refine' wpAnyH_take (i := 25) (v := _) rfl (by kernel_rfl) (by kernel_rfl) (by kernel_rfl) (fun _ _ _ h => h) (Or.inl ⟨by rfl, ?thy1_24⟩) (by assumption) ?_
   case thy1_24 => (intro w hSw; (try dsimp only at hSw); go_simp; try with_reducible rfl)
   try simp only [Act.put, List.setIfInBounds_toArray, List.set_cons_zero, List.set_cons_succ, List.getElem_toArray, List.getElem_cons_succ, List.getElem_cons_zero]
   refine' wpAnyH_take (i := 26) (v := _) rfl (by kernel_rfl) (by kernel_rfl) (by kernel_rfl) (fun _ _ _ h => h) (Or.inl ⟨by rfl, ?thy1_25⟩) (by assumption) ?_
   case thy1_25 => (intro w hSw; (try dsimp only at hSw); go_simp; try with_reducible rfl)
   try simp only [Act.put, List.setIfInBounds_toArray, List.set_cons_zero, List.set_cons_succ, List.getElem_toArray, List.getElem_cons_succ, List.getElem_cons_zero]
   refine' wpAnyH_take (i := 27) (v := _) rfl (by kernel_rfl) (by kernel_rfl) (by kernel_rfl) (fun _ _ _ h => h) (Or.inl ⟨by rfl, ?thy1_26⟩) (by assumption) ?_
   case thy1_26 => (intro w hSw; (try dsimp only at hSw); go_simp; try with_reducible rfl)
   try simp only [Act.put, List.setIfInBounds_toArray, List.set_cons_zero, List.set_cons_succ, List.getElem_toArray, List.getElem_cons_succ, List.getElem_cons_zero]
   refine wpAnyH_done (by kernel_rfl) ?_ _
   have hg3 := HGQ.out
   have HU3 := Lib.hid (Fa_owns HUU.out hg3); have HO3 := Lib.hid (Fa_owns HOU.out hg3); have HG3 := Lib.hid ((HGR.out.trans HGU.out).trans hg3)
   have hw3 := HG3.out.size
   generalize hM : p.uv.length = M at *
   have HM := Lib.hid hM
   clear hM hrm hg3 HUU HOU HGU hU1 hs1 c0 c1 c2 c3 q0 q1 q2 q3 lq y2 y4 ly f0 f1 lrb lrb1 lb HMV HPV
   go_wp2_with (first
    | (at_builtin; go_loud (refine wpList_append_lies _ rfl (.tmp 51) (.tmp 52) 49 rfl w2.heap.size 39 i0 (.agg #[.int .i64 0, .int .i64 0, .int .i64 0, .int .i64 0, .int .i64 0, .int .i64 0]) 6 48 Tryz.underlying49 hi hz0 hz1 hz2 rfl (by decide) (.slice a5 (U i).length cap5) (U i).length (Ro.fl (U i)) (by rfl) HU3.out ⟨gm, 0, none⟩ M cm (Ro.fl (mvd p (16 * (r0 + pad)) (16 * (r1 + pad)))) (by rfl) (Ro.rows_len HRM.out) (Ro.rows_cells (by decide) HRM.out _ rfl) Ro.fl_one ?d3 ?d4 ?d5 ?d6 w3.heap.size rfl ?_)))
   case d3 => exact hp2
   case d4 => unfold maxLen; omega
   case d5 => omega
   case d6 => omega
   intro g5 cap5' w4 hown4 hgrow4 hat4 hlt4
   have hk4 := ks_grown2 hgrow4
   have HO4 := Lib.hid (own_ks2 HO3.out hk4 (fun k e h => HSEP.out k h e))
   have HG4 := Lib.hid (show Gr w2 w4 from Below.grown HG3.out hgrow4 hw3 (fun q hq => own_base HU3.out q hq))
   have HU4 := Lib.hid hown4
   have hsep4 : ∀ b, (Value.slice (some ⟨g5, 0, none⟩) ((U i).length + M) cap5').ownBlock = some b → (Value.slice a6 (O i).length cap6).ownBlock = some b → False := by
    intro b h1 h2
    simp [Value.ownBlock] at h1
    subst h1
    rcases hat4 with h | h
    ·exact HSEP.out _ h h2
    ·have := (HO3.out.lt _ h2).2; omega
   have HS4 := Lib.hid hsep4
   have hw4 := HG4.out.size
   clear hown4 hgrow4 hat4 hk4 hsep4 HU3 HO3 HG3 HSEP
   go_wp2_with fail
   have hX5 : Bx (w4.alloc (.cells #[.int .i64 i] 3)) w4.heap.size 3 [.int .i64 (i : Int)] := Bx.new (vs := [.int .i64 (i : Int)]) rfl
   have hRP := repeat_any (i : Int) M hp2 (by omega) w4.heap.size _ hX5
   have HRP := Lib.hid hRP
   clear hRP hX5
   refine HRP.out.mono ?_
   rintro e w5 ⟨gr, rfl, hbr, hger, hg5⟩
   have HG54 := Lib.hid (show Gr w4 w5 from ((Gr.refl w4).alloc _).trans hg5)
   have HBR := Lib.hid hbr
   have HO5 := Lib.hid (Fa_owns HO4.out HG54.out); have HU5 := Lib.hid (Fa_owns HU4.out HG54.out); have HG5 := Lib.hid (HG4.out.trans HG54.out)
   have hw5 := HG54.out.size
   clear hbr hg5 HRP HO4
   have hnews : ∀ j u, (List.replicate M (Value.int .i64 (i : Int)))[j]? = some u → w5.cell? ((⟨gr, 0, none⟩ : Addr).add j) = some u := by
    intro j u hj
    rw [add_none, Nat.zero_add]
    exact HBR.out.blk.cell j hj
   have HNW := Lib.hid hnews
   clear hnews
   have hOl : (O i).length + M ≤ 200 := by have := HOL1.out; omega
   go_wp2_with (first
    | (at_builtin; go_loud (refine wpList_append_lies _ rfl (.tmp 54) (.tmp 59) 50 rfl w2.heap.size 3 j0 (.int .i64 0) 1 8 Tryz.underlying50 hj hy0 hy1 hy2 rfl (by decide) (.slice a6 (O i).length cap6) (O i).length ((O i).map (Value.int .i64)) (by rfl) HO5.out ⟨gr, 0, none⟩ M M (List.replicate M (Value.int .i64 (i : Int))) (by rfl) (by simp) HNW.out (fun u hu => by rw [List.eq_of_mem_replicate hu]; rfl) ?d3 ?d4 ?d5 ?d6 w5.heap.size rfl ?_)))
   case d3 => exact hp2
   case d4 => unfold maxLen; omega
   case d5 => omega
   case d6 => omega
   intro g6 cap6' w6 hown6 hgrow6 hat6 hlt6
   have hk6 := ks_grown2 hgrow6
   have HU6 := Lib.hid (own_ks2 HU5.out hk6 (fun k e h => HS4.out k e h))
   have HG6 := Lib.hid (show Gr w2 w6 from Below.grown HG5.out hgrow6 HG5.out.size (fun q hq => own_base HO5.out q hq))
   have HO6 := Lib.hid hown6
   have hsep6 : ∀ b, (Value.slice (some ⟨g5, 0, none⟩) ((U i).length + M) cap5').ownBlock = some b → (Value.slice (some ⟨g6, 0, none⟩) ((O i).length + M) cap6').ownBlock = some b → False := by
    intro b h1 h2
    simp [Value.ownBlock] at h2
    subst h2
    rcases hat6 with h | h
    ·exact HS4.out _ h1 h
    ·have := (HU5.out.lt _ h1).2; omega
   have HS6 := Lib.hid hsep6
   clear hown6 hgrow6 hat6 hk6 hsep6 HU5 HO5 HG5 HS4
   go_wp2_with fail
   go_roundw
   case rel =>
    have e1 : (U (i + 1)).length = (U i).length + M := by rw [HUS1.out, List.length_append, mvd_len, HM.out]
    have e2 : (O (i + 1)).length = (O i).length + M := by rw [HOS1.out, List.length_append, List.length_replicate]
    refine ⟨i + 1, by omega, by go_num, ?_, ?_, HS6.out, HG6.out⟩
    ·rw [e1, HUS1.out, Ro.fl_append]; exact HU6.out
    ·rw [e2, HOS1.out, List.map_append, List.map_replicate]; exact HO6.out
   case measure => simp [intOf]; omega
  ·have hin : i = n := by omega
   subst hin
   have hfw := HFW.out i (Nat.le_refl _)
   have hol := HOL.out i
   have hu := Ro.rows_owned (m := 6) (zs := U i) HU.out (by omega) HUI.out
   have ho := row_owned (zs := O i) HO.out (by omega) (fun x hx => wf_of_I (HOI.out x hx))
   obtain ⟨q1, q2, q3, q4, q5, _⟩ := hu
   cases q3
   obtain ⟨q6, q7, q8, q9⟩ := ho
   cases q8
   have HQ4 := Lib.hid q4; have HQ5 := Lib.hid q5; have HQ9 := Lib.hid q9
   clear q4 q5 q9 hfw hol
   go_wp2_with fail
   go_ret3
   exact ⟨_, _, _, _, rfl, HQ5.out, HQ4.out, HQ9.out, HG2.out.trans HGR.out⟩
end Mt
end Go.Proofs.YtlfoglklibhbnaaGreat
namespace Go.Proofs.YtlfoglklibhbnaaGreat
open Go.RowKit
namespace Mt
attribute [local go_sem ↓] Go.wp_at_zero Go.wp_at_succ
theorem idxFrom_cases (x : Int) : ∀ (zs : List Int) (i : Nat), (Lib.idxFrom zs x i = -1 ∧ x ∉ zs) ∨ ∃ k, k < zs.length ∧ Lib.idxFrom zs x i = ((i + k : Nat) : Int) ∧ zs.getD k 0 = x
 | [], i => .inl ⟨rfl, by simp⟩
 | z :: zs, i => by
  by_cases e : z = x
  ·exact .inr ⟨0, by simp, by simp [Lib.idxFrom, e], by simpa using e⟩
  ·rcases idxFrom_cases x zs (i + 1) with ⟨h1, h2⟩ | ⟨k, h1, h2, h3⟩
   ·exact .inl ⟨by simp [Lib.idxFrom, e, h1], by simp [h2]; exact fun h => e h.symm⟩
   ·exact .inr ⟨k + 1, by simpa using h1, by simp only [Lib.idxFrom, e, if_false, h2]; omega, by simpa using h3⟩
theorem idx_cases (zs : List Int) (x : Int) : (Lib.idxOf zs x = -1 ∧ x ∉ zs) ∨ ∃ k : Nat, k < zs.length ∧ Lib.idxOf zs x = k ∧ zs.getD k 0 = x := by
 rcases idxFrom_cases x zs 0 with h | ⟨k, h1, h2, h3⟩
 ·exact .inl h
 ·exact .inr ⟨k, h1, by rw [Nat.zero_add] at h2; exact h2, h3⟩
theorem allU_pre (a : AT) : ∀ {m i : Nat}, i ≤ m → ∃ R, allU a m = allU a i ++ R
 | 0, i, h => ⟨[], by rw [show i = 0 by omega]; simp⟩
 | m + 1, i, h => by
  by_cases e : i = m + 1
  ·subst e; exact ⟨[], by simp⟩
  ·obtain ⟨R, hR⟩ := allU_pre a (show i ≤ m by omega)
   exact ⟨R ++ mvd (a.qs.getD m P0) (offX a m) (offY a m), by rw [show allU a (m + 1) = allU a m ++ mvd (a.qs.getD m P0) (offX a m) (offY a m) from rfl, hR, List.append_assoc]⟩
theorem allU_at (a : AT) {m i k : Nat} (h : i < m) (hk : k < (a.qs.getD i P0).uv.length) : (allU a i).length + k < (allU a m).length ∧ (allU a m).getD ((allU a i).length + k) [] = (mvd (a.qs.getD i P0) (offX a i) (offY a i)).getD k [] := by
 obtain ⟨R, hR⟩ := allU_pre a (show i + 1 ≤ m by omega)
 have e : allU a (i + 1) = allU a i ++ mvd (a.qs.getD i P0) (offX a i) (offY a i) := rfl
 have hl : (mvd (a.qs.getD i P0) (offX a i) (offY a i)).length = (a.qs.getD i P0).uv.length := mvd_len _ _ _
 rw [e] at hR
 rw [hR]
 clear e hR
 generalize mvd (a.qs.getD i P0) (offX a i) (offY a i) = M at *
 refine ⟨by simp only [List.length_append]; omega, ?_⟩
 rw [List.getD_eq_getElem?_getD, List.getD_eq_getElem?_getD, List.append_assoc, List.getElem?_append_right (by omega), Nat.add_sub_cancel_left, List.getElem?_append_left (by omega)]
def FndP (a : AT) (tri : Int) (w : World) (e : Ending) (w' : World) : Prop :=
 Gr w w' ∧ ((∃ i k, i < a.qs.length ∧ k < (a.qs.getD i P0).tris.length ∧ (a.qs.getD i P0).tris.getD k 0 = tri ∧ (∀ j, j < i → tri ∉ (a.qs.getD j P0).tris) ∧ e = .returned (.tuple #[agOf ((mvd (a.qs.getD i P0) (offX a i) (offY a i)).getD k []), .bool true])) ∨
  ((∀ j, j < a.qs.length → tri ∉ (a.qs.getD j P0).tris) ∧ e = .returned (.tuple #[agOf [0, 0, 0, 0, 0, 0], .bool false])))
set_option maxHeartbeats 16000000 in
set_option maxRecDepth 100000 in
theorem find_good (at' : AT) (tri : Int) (hg : AGood at') (w : World) (hm : AMem w at') :
  Calls Tryz.prog 9 #[.agg at'.vs.toArray, .int .i64 tri] w (FndP at' tri w) := by
 have HALL := Lib.hid (fun w1 (g : Gr w w1) => all_good at' hg w1 (hm.later g))
 have HAT := Lib.hid (fun i k (h : i < at'.qs.length) (hk : k < (at'.qs.getD i P0).uv.length) => allU_at at' h hk)
 have HQA := Lib.hid (fun i (h : i < at'.qs.length) => qs_at at' h)
 have HPS := Lib.hid hm.1; have HGD := Lib.hid hg.good; have HFW := Lib.hid (fun i (h : i ≤ at'.qs.length) => allU_few hg i h)
 have HUS := Lib.hid (fun i => (show (allU at' (i + 1)).length = (allU at' i).length + (at'.qs.getD i P0).uv.length by simp only [allU, List.length_append, mvd_len]))
 have HU0 := Lib.hid (show (allU at' 0).length = 0 from rfl)
 have hfew := hg.few; have hlen := hg.len
 obtain ⟨n, hn⟩ : ∃ n, at'.qs.length = n := ⟨_, rfl⟩
 have HN := Lib.hid hn
 have HGOAL : ∀ e w', (Gr w w' ∧ ((∃ i k, i < n ∧ k < (at'.qs.getD i P0).tris.length ∧ (at'.qs.getD i P0).tris.getD k 0 = tri ∧ (∀ j, j < i → tri ∉ (at'.qs.getD j P0).tris) ∧ e = .returned (.tuple #[agOf ((allU at' n).getD ((allU at' i).length + k) []), .bool true])) ∨
  ((∀ j, j < n → tri ∉ (at'.qs.getD j P0).tris) ∧ e = .returned (.tuple #[agOf [0, 0, 0, 0, 0, 0], .bool false])))) → FndP at' tri w e w' := by
  rintro e w' ⟨h1, h2⟩
  refine ⟨h1, ?_⟩
  rw [hn]
  rcases h2 with ⟨i, k, q1, q2, q3, q4, q5⟩ | h2
  ·refine .inl ⟨i, k, q1, q2, q3, q4, ?_⟩
   have hgi := hg.good _ (List.getElem_mem (show i < at'.qs.length by omega))
   rw [qs_at at' (by omega)] at q2
   have := (allU_at at' q1 (show k < (at'.qs.getD i P0).uv.length by rw [qs_at at' (by omega), ← hgi.len]; exact q2)).2
   rw [this] at q5
   exact q5
  ·exact .inr h2
 refine Calls.mono ?_ HGOAL
 clear HGOAL
 obtain ⟨W, H, pad, pa, pc, ps, ra, rc, rs⟩ := at'
 unfold AllP at HALL
 simp only at hn hlen hfew HPS HGD HN
 generalize allU ⟨W, H, pad, pa, pc, ps, ra, rc, rs⟩ = U at *
 generalize allO ⟨W, H, pad, pa, pc, ps, ra, rc, rs⟩ = O at *
 show Calls _ _ #[.agg #[.int .i64 W, .int .i64 H, .int .i64 pad, .slice pa ps.length pc, .slice ra rs.length rc], .int .i64 tri] _ _
 have HALL2 : Hid (∀ w1, Gr w w1 → Calls Tryz.prog 13 #[.agg #[.int .i64 W, .int .i64 H, .int .i64 pad, .slice pa n pc, .slice ra n rc]] w1 fun e w' => ∃ a1 c1 a2 c2, e = .returned (.tuple #[.slice a1 (U n).length c1, .slice a2 (O n).length c2, .int .i64 0]) ∧ (U n).length ≤ c1 ∧ Oi.IsRows 6 w' a1 (U n).length (U n) ∧ Gr w1 w') := Lib.hid (fun w1 g => by
  have h1 := HALL.out w1 g
  simp only [AT.vs, hlen, hn] at h1
  exact h1.mono fun e w' ⟨a1, c1, a2, c2, q1, q2, q3, q4, q5⟩ => ⟨a1, c1, a2, c2, q1, q2, q3, q5⟩)
 rw [hlen, hn]
 simp only [hn] at HAT HFW
 simp only at HQA HUS ⊢
 clear HALL hg hm hn hlen
 obtain ⟨V, hV⟩ : ∃ V, (w.alloc (.cells #[.int .i64 W, .int .i64 H, .int .i64 pad, .slice pa n pc, .slice ra n rc] 32)).alloc (.cells #[.int .i64 0, .int .i64 0, .int .i64 0, .int .i64 0, .int .i64 0, .int .i64 0] 39) = V := ⟨_, rfl⟩
 obtain ⟨s, hs⟩ : ∃ s, w.heap.size = s := ⟨_, rfl⟩
 have hX : Bx V s 32 [.int .i64 W, .int .i64 H, .int .i64 pad, .slice pa n pc, .slice ra n rc] := by rw [← hV]; exact (Bx.new (vs := [.int .i64 W, .int .i64 H, .int .i64 pad, .slice pa n pc, .slice ra n rc]) hs.symm).alloc _
 have hN : Bx V (s + 1) 39 [.int .i64 0, .int .i64 0, .int .i64 0, .int .i64 0, .int .i64 0, .int .i64 0] := by rw [← hV]; exact Bx.new (vs := [.int .i64 0, .int .i64 0, .int .i64 0, .int .i64 0, .int .i64 0, .int .i64 0]) (by simp; omega)
 have hG : Gr w V := by rw [← hV]; exact ((Gr.refl w).alloc _).alloc _
 have x0 := hX.blk.cell 0 rfl; have x1 := hX.blk.cell 1 rfl; have x2 := hX.blk.cell 2 rfl; have x3 := hX.blk.cell 3 rfl; have x4 := hX.blk.cell 4 rfl; have lX := hX.lt
 have HX := Lib.hid hX; have HNR := Lib.hid hN; have HG := Lib.hid hG; have HS := Lib.hid hs
 clear hX hN hG
 go_enter Tryz.func9, Tryz.ntmps9
 go_wp2_with fail
 clear hV hs
 refine (HALL2.out V HG.out).mono ?_
 rintro e w2 ⟨a1, c1, a2, c2, rfl, hc1, hr1, hg2⟩
 have HX2 := Lib.hid (HX.out.gr hg2); have HN2 := Lib.hid (HNR.out.gr hg2); have HG2 := Lib.hid (HG.out.trans hg2); have HR1 := Lib.hid hr1
 clear x0 x1 x2 x3 x4 lX HX HNR HG hg2 HALL2 hr1
 have x3 := HX2.out.blk.cell 3 rfl; have lX := HX2.out.lt
 go_wp2_with fail
 clear x3 lX
 go_loopw [9, 25] (fun v9 v25 wr => ∃ i : Nat, i ≤ n ∧ v25 = .int .i64 i ∧ v9 = .int .i64 (U i).length ∧ (∀ j, j < i → tri ∉ (ps.getD j P0).tris) ∧ Gr w2 wr) (fun _ v25 _ => n - (intOf v25).toNat)
 case atStart => exact ⟨0, Nat.zero_le _, rfl, by rw [HU0.out]; rfl, fun j h => absurd h (by omega), Gr.refl _⟩
 case round =>
  obtain ⟨i, hi, rfl, rfl, hno, hgr⟩ := hrel
  have HNO := Lib.hid hno; have HGR := Lib.hid hgr
  clear hno hgr
  by_cases hlt : i < n
  ·have hip : i < ps.length := by have := HN.out; omega
   obtain ⟨b, off, rfl, lb, hpm, c0, c1', c2', c3⟩ := prow_op (HPS.out.later (HG2.out.trans HGR.out)) hip
   have hqa := HQA.out i hip
   have hpg := HGD.out _ (List.getElem_mem hip)
   have hus := HUS.out i
   have hal := fun k hk => HAT.out i k hlt hk
   have hfn := HFW.out n (Nat.le_refl _)
   have hfi := HFW.out i (by omega)
   rw [hqa] at hus hal
   generalize ps[i] = p at *
   have hp3 := hpg.few
   have hle := hpg.len
   have HUS1 := Lib.hid hus; have HAL := Lib.hid hal; have HQI := Lib.hid hqa; have HLE := Lib.hid hle
   have hi0 : (0 : Int) ≤ (i : Int) := by omega
   have hrow := hpm.1
   have HRW := Lib.hid (fun w1 (g : Gr wr w1) => index_any p.ta p.tris.length p.tc p.tris tri w1 (hrow.later g))
   clear hus hal hqa hpm hpg hrow hle
   obtain ⟨U1, hU1⟩ : ∃ U1, wr.alloc (.cells #[.slice p.ta p.tris.length p.tc, .slice p.ua p.uv.length p.uc, .int .i64 p.W, .int .i64 p.H] 70) = U1 := ⟨_, rfl⟩
   obtain ⟨s1, hs1⟩ : ∃ s1, wr.heap.size = s1 := ⟨_, rfl⟩
   have hP1 : Bx U1 s1 70 [.slice p.ta p.tris.length p.tc, .slice p.ua p.uv.length p.uc, .int .i64 p.W, .int .i64 p.H] := by rw [← hU1]; exact Bx.new (vs := [.slice p.ta p.tris.length p.tc, .slice p.ua p.uv.length p.uc, .int .i64 p.W, .int .i64 p.H]) hs1.symm
   have hG1 : Gr wr U1 := by rw [← hU1]; exact (Gr.refl _).alloc _
   have q0 := hP1.blk.cell 0 rfl; have lq := hP1.lt
   have HG1 := Lib.hid hG1
   clear hP1 hG1
   have htl : p.tris.length = p.uv.length := HLE.out
   have htl2 : p.tris.length ≤ 12 := by omega
   clear htl
   go_wp2_with fail
   clear hU1 hs1 c0 c1' c2' c3 lb
   refine (HRW.out U1 HG1.out).mono ?_
   rintro e w3 ⟨rfl, rfl⟩
   rcases idx_cases p.tris tri with ⟨hid, hnm⟩ | ⟨k, hk, hid, hkt⟩
   ·rw [hid]
    have HNM := Lib.hid hnm
    clear hid hnm
    go_wp2_with fail
    go_roundw
    case rel =>
     refine ⟨i + 1, by omega, by go_num, ?_, fun j hj => ?_, HGR.out.trans HG1.out⟩
     ·rw [HUS1.out, ← HLE.out]
      first | rfl | (rw [Int.natCast_add]; first | rfl | (congr 1; exact IntWalk.i64_in _ ⟨by omega, by omega⟩))
     ·by_cases e : j = i
      ·subst e; rw [HQI.out]; exact HNM.out
      ·exact HNO.out j (by omega)
    case measure => simp [intOf]; omega
   ·rw [hid]
    have hk2 : k < p.uv.length := by rw [← HLE.out]; exact hk
    have hat := HAL.out k hk2
    have hn2 : (U i).length + k < (U n).length := hat.1
    obtain ⟨rb, roff, z0, z1, z2, z3, z4, z5, ea1, lrb, ez, _, e0, e1, e2, e3, e4, e5⟩ := rows6_op (HR1.out.later (HGR.out.trans HG1.out)) hn2
    subst ea1
    have HEZ := Lib.hid ez; have HKT := Lib.hid hkt
    have HNW := Lib.hid (HN2.out.gr (HGR.out.trans HG1.out))
    have o := HNW.out.blk
    have o0 := o.cell 0 rfl; have o1 := o.cell 1 rfl; have o2 := o.cell 2 rfl; have o3 := o.cell 3 rfl; have o4 := o.cell 4 rfl; have o5 := o.cell 5 rfl; have f0 := o.free 0 rfl; have f1 := o.free 1 rfl; have f2 := o.free 2 rfl; have f3 := o.free 3 rfl; have f4 := o.free 4 rfl; have f5 := o.free 5 rfl; have lN := HNW.out.lt
    have hb1 : (U i).length + k ≤ 1000 := by omega
    have hsum : IntKind.i64.wrap (((U i).length : Int) + (k : Int)) = (((U i).length + k : Nat) : Int) := by rw [IntWalk.i64_in _ ⟨by omega, by omega⟩]; omega
    have HHK := Lib.hid hk
    clear hid ez hkt hat hk hk2 o
    generalize hq : (U i).length + k = q at *
    have HHQ := Lib.hid hq
    clear hq
    go_wp2_with fail
    refine bodyPost_ret (res_agg_tmp (vs := [.int .i64 z0, .int .i64 z1, .int .i64 z2, .int .i64 z3, .int .i64 z4, .int .i64 z5]) rfl ti_p6 rfl (bx_seti (bx_seti (bx_seti (bx_seti (bx_seti (bx_seti HNW.out 0 (.int .i64 z0)) 1 (.int .i64 z1)) 2 (.int .i64 z2)) 3 (.int .i64 z3)) 4 (.int .i64 z4)) 5 (.int .i64 z5)) rfl) rfl ⟨?_, .inl ⟨i, k, hlt, ?_, ?_, HNO.out, ?_⟩⟩
    ·have hgw := (HG2.out.trans (HGR.out.trans HG1.out))
     have hsw : w.heap.size ≤ s + 1 := by have := HS.out; omega
     exact (((((hgw.setCell hsw _).setCell hsw _).setCell hsw _).setCell hsw _).setCell hsw _).setCell hsw _
    ·rw [HQI.out]; exact HHK.out
    ·rw [HQI.out]; exact HKT.out
    ·rw [HHQ.out, HEZ.out]; rfl
  ·have hin : i = n := by omega
   subst hin
   have HNW := Lib.hid (HN2.out.gr HGR.out)
   have o := HNW.out.blk
   have o0 := o.cell 0 rfl; have o1 := o.cell 1 rfl; have o2 := o.cell 2 rfl; have o3 := o.cell 3 rfl; have o4 := o.cell 4 rfl; have o5 := o.cell 5 rfl; have f0 := o.free 0 rfl; have f1 := o.free 1 rfl; have f2 := o.free 2 rfl; have f3 := o.free 3 rfl; have f4 := o.free 4 rfl; have f5 := o.free 5 rfl; have lN := HNW.out.lt
   clear o
   go_wp2_with fail
   refine bodyPost_ret (res_agg_tmp (vs := [.int .i64 0, .int .i64 0, .int .i64 0, .int .i64 0, .int .i64 0, .int .i64 0]) rfl ti_p6 rfl (bx_seti (bx_seti (bx_seti (bx_seti (bx_seti (bx_seti HNW.out 0 _) 1 _) 2 _) 3 _) 4 _) 5 _) rfl) rfl ⟨?_, .inr ⟨HNO.out, rfl⟩⟩
   have hgw := (HG2.out.trans HGR.out)
   have hsw : w.heap.size ≤ s + 1 := by have := HS.out; omega
   exact (((((hgw.setCell hsw _).setCell hsw _).setCell hsw _).setCell hsw _).setCell hsw _).setCell hsw _
end Mt
end Go.Proofs.YtlfoglklibhbnaaGreat
namespace Go.Proofs.YtlfoglklibhbnaaGreat
open Go.RowKit
namespace Mt
attribute [local go_sem ↓] Go.wp_at_zero Go.wp_at_succ
theorem len_flat : ∀ {cs : List CH} {c : CH}, c ∈ cs → c.tris.length ≤ (cs.flatMap CH.tris).length
 | [], c, h => by simp at h
 | x :: cs, c, h => by
  simp only [List.flatMap_cons, List.length_append]
  rcases List.mem_cons.1 h with e | h
  ·subst e; omega
  ·have := len_flat h; omega
theorem cgood_of {d : MD} {cs : List CH} (h : GrowOk d cs) (hf : d.F.length ≤ 12) : ∀ c ∈ cs, CGood d c := by
 intro c hc
 obtain ⟨h1, h2, h3, h4⟩ := h.2 c hc
 refine ⟨h1, h2, h3, ?_, h4⟩
 have e1 := len_flat hc
 have e2 := h.1.length_eq
 have e3 := faces_len d d.F.length
 omega
def coreL (d : MD) (dn : Int) (c : CH) : List Int × List (List Int) × Int × Int := (c.tris, layU (shs d c) dn, layHx (shs d c) dn / 16 + 1, layHy (shs d c) dn / 16 + 1)
theorem tris_of {d : MD} {dn : Int} {cs : List CH} {ps : List PA} (h : ps.map core = cs.map (coreL d dn)) : ptris ps = cs.flatMap CH.tris := by
 have e1 : ptris ps = (ps.map core).flatMap (fun c => c.1) := by unfold ptris; rw [List.flatMap_map]; rfl
 have e2 : cs.flatMap CH.tris = (cs.map (coreL d dn)).flatMap (fun c => c.1) := by rw [List.flatMap_map]; rfl
 rw [e1, e2, h]
theorem nd_of {d : MD} {dn : Int} {cs : List CH} {ps : List PA} (hg : GrowOk d cs) (h : ps.map core = cs.map (coreL d dn)) : (ptris ps).Nodup := by
 rw [tris_of h]
 exact hg.1.nodup_iff.2 (faces_nodup d _)
theorem good_of {d : MD} {dn : Int} {cs : List CH} {ps : List PA} (ht : tameB d = true) (hv : ∀ z ∈ d.V, z.length = 3) (hc : ∀ c ∈ cs, CGood d c) (hl : ∀ c ∈ cs, layB d c dn = true) (h : ps.map core = cs.map (coreL d dn)) : ∀ p ∈ ps, PGood p := by
 intro p hp
 have : core p ∈ cs.map (coreL d dn) := by rw [← h]; exact List.mem_map_of_mem hp
 obtain ⟨c, hcc, e⟩ := List.mem_map.1 this
 simp only [core, coreL, Prod.mk.injEq] at e
 exact lay_good ht hv (hc c hcc) (hl c hcc) e.1.symm e.2.1.symm e.2.2.1.symm e.2.2.2.symm
theorem pa_new {w : World} {n : Nat} {p : PA} (hm : PMem w p) (ht : ∀ ad : Addr, p.ta = some ad → n ≤ ad.block) (hu : ∀ ad : Addr, p.ua = some ad → n ≤ ad.block) (h1 : 0 < p.tris.length) (h2 : 0 < p.uv.length) : PaOk w (fun b => b < n) p := by
 obtain ⟨b1, o1, e1, l1, _⟩ := row_at hm.1 h1
 obtain ⟨b2, o2, _, _, _, _, _, _, e2, l2, _⟩ := rows6_op hm.2.1 h2
 refine ⟨hm, fun ad e => ⟨by have := ht ad e; show ¬ ad.block < n; omega, ?_⟩, fun ad e => ⟨by have := hu ad e; show ¬ ad.block < n; omega, ?_⟩⟩
 ·rw [e1] at e; injection e with e; rw [← e]; exact l1
 ·rw [e2] at e; injection e with e; rw [← e]; exact l2
def LaidP (d : MD) (W H pad dn : Int) (w : World) (e : Ending) (w' : World) : Prop :=
 ∃ v ok, e = .returned (.tuple #[v, .bool ok]) ∧ Gr w w' ∧ (ok = false → v = .agg #[.int .i64 0, .int .i64 0, .int .i64 0, .slice none 0 0, .slice none 0 0]) ∧
 (ok = true → ∃ (a : AT) (cs : List CH), v = .agg a.vs.toArray ∧ (a.W = W ∧ a.H = H ∧ a.pad = pad) ∧ AMem w' a ∧ AGood a ∧ tameB d = true ∧ GrowOk d cs ∧ (∀ c ∈ cs, layB d c dn = true) ∧ a.qs.map core = cs.map (coreL d dn)) ∧
 (tameB d = true → numB W H pad = true → (∀ cs, GrowOk d cs → cs.length = 1 ∧ ∀ c ∈ cs, layB d c dn = true ∧ layHx (shs d c) dn / 16 + 1 + 2 * pad ≤ W ∧ layHy (shs d c) dn / 16 + 1 + 2 * pad ≤ H) → ok = true)
theorem LaidP.no {d : MD} {W H pad dn : Int} {w w' : World} {e : Ending} (he : e = .returned (.tuple #[.agg #[.int .i64 0, .int .i64 0, .int .i64 0, .slice none 0 0, .slice none 0 0], .bool false])) (hg : Gr w w')
  (h : tameB d = true → numB W H pad = true → (∀ cs, GrowOk d cs → cs.length = 1 ∧ ∀ c ∈ cs, layB d c dn = true ∧ layHx (shs d c) dn / 16 + 1 + 2 * pad ≤ W ∧ layHy (shs d c) dn / 16 + 1 + 2 * pad ≤ H) → False) : LaidP d W H pad dn w e w' :=
 ⟨_, false, he, hg, fun _ => rfl, fun h => (by cases h), fun a b c => (h a b c).elim⟩
theorem ch_op {w : World} {a : Option Addr} {cs : List CH} (h : ChRows w a cs) {i : Nat} (hi : i < cs.length) : ∃ b off, a = some ⟨b, off, none⟩ ∧ b < w.heap.size ∧ IsRow .i64 w (cs[i]).a (cs[i]).tris.length (cs[i]).tris ∧ w.cell? ⟨b, off + i * 3, none⟩ = some (.int .i64 (cs[i]).ax) ∧ w.cell? ⟨b, off + i * 3 + 1, none⟩ = some (.int .i64 (cs[i]).sd) ∧ w.cell? ⟨b, off + i * 3 + 2, none⟩ = some (.slice (cs[i]).a (cs[i]).tris.length (cs[i]).cap) := by
 obtain ⟨b, off, e, hc⟩ := h.1 (by omega)
 have c0 := hc i hi 0 _ rfl; have c1 := hc i hi 1 _ rfl; have c2 := hc i hi 2 _ rfl
 rw [← Nat.add_assoc] at c0 c1 c2
 exact ⟨b, off, e, lt_of_cell c0, h.2 _ (List.getElem_mem _), c0, c1, c2⟩
set_option maxHeartbeats 4000000 in
set_option maxRecDepth 100000 in
theorem grow_no (m : ML) (d : MD) (w : World) (h : IsM w m d) (ht : tameB d = false) :
  Calls Tryz.prog 17 #[m.val] w fun e w' => e = .returned (.tuple #[.slice none 0 0, .int .i64 1]) ∧ Gr w w' := by
 obtain ⟨⟨av, lv, cv⟩, ⟨at', lt, ct⟩, ⟨an, ln, cn⟩, ⟨af, lf, cf⟩⟩ := m
 have hB : Bx (w.alloc (.cells #[.slice av lv cv, .slice at' lt ct, .slice an ln cn, .slice af lf cf] 26)) w.heap.size 26 [.slice av lv cv, .slice at' lt ct, .slice an ln cn, .slice af lf cf] := Bx.new (vs := [.slice av lv cv, .slice at' lt ct, .slice an ln cn, .slice af lf cf]) rfl
 have hG : Gr w (w.alloc (.cells #[.slice av lv cv, .slice at' lt ct, .slice an ln cn, .slice af lf cf] 26)) := (Gr.refl w).alloc _
 have HO := Lib.hid (open_any ⟨⟨av, lv, cv⟩, ⟨at', lt, ct⟩, ⟨an, ln, cn⟩, ⟨af, lf, cf⟩⟩ d _ (h.later hG))
 have c0 := hB.blk.cell 0 rfl; have c1 := hB.blk.cell 1 rfl; have c2 := hB.blk.cell 2 rfl; have c3 := hB.blk.cell 3 rfl
 have HG := Lib.hid hG
 rw [ht] at HO
 clear h ht hB hG
 unfold ML.val SL.v
 unfold ML.val SL.v at HO
 go_enter Tryz.func17, Tryz.ntmps17
 go_wp2_with fail
 refine (HO.out).mono ?_
 rintro e w1 ⟨b, rfl, hb, hge, hg⟩
 have HG1 := Lib.hid (HG.out.trans hg)
 clear hg hb hge
 go_wp2_with fail
 go_ret2
 exact ⟨rfl, HG1.out⟩
set_option maxHeartbeats 16000000 in
set_option maxRecDepth 100000 in
theorem laid_any (m : ML) (d : MD) (W H pad dn : Int) (w : World) (h : IsM w m d) (hl : d.F.length ≤ 12) :
  Calls Tryz.prog 7 #[m.val, .int .i64 W, .int .i64 H, .int .i64 pad, .int .i64 dn] w (LaidP d W H pad dn w) := by
 obtain ⟨k0, hkP, hx0, hx1, hx2⟩ := info_parts infoP
 have HGN := Lib.hid (fun (ht : tameB d = false) (w1 : World) (g : Gr w w1) => grow_no m d w1 (h.later g) ht)
 have HGY := Lib.hid (fun (ht : tameB d = true) (w1 : World) (g : Gr w w1) => grow_any m d w1 (h.later g) ht (by omega))
 have HLY := Lib.hid (fun (ht : tameB d = true) (c : CH) (hc : CGood d c) (w1 : World) (hr : IsRow .i64 w1 c.a c.tris.length c.tris) (g : Gr w w1) => lay_any m d c dn w1 (h.later g) ht hc hr)
 have HV := Lib.hid (show ∀ z ∈ d.V, z.length = 3 from fun z hz => (h.v.2.2.1 z hz).1)
 have HL := Lib.hid hl
 obtain ⟨⟨av, lv, cv⟩, ⟨at', lt, ct⟩, ⟨an, ln, cn⟩, ⟨af, lf, cf⟩⟩ := m
 show Calls _ _ #[.agg #[.slice av lv cv, .slice at' lt ct, .slice an ln cn, .slice af lf cf], _, _, _, _] _ _
 clear h hl
 obtain ⟨V, hV⟩ : ∃ V, (w.alloc (.cells #[.slice av lv cv, .slice at' lt ct, .slice an ln cn, .slice af lf cf] 26)).alloc (.cells #[.int .i64 0, .int .i64 0, .int .i64 0, .slice none 0 0, .slice none 0 0] 32) = V := ⟨_, rfl⟩
 obtain ⟨s, hs⟩ : ∃ s, w.heap.size = s := ⟨_, rfl⟩
 have hX : Bx V s 26 [.slice av lv cv, .slice at' lt ct, .slice an ln cn, .slice af lf cf] := by rw [← hV]; exact (Bx.new (vs := [.slice av lv cv, .slice at' lt ct, .slice an ln cn, .slice af lf cf]) hs.symm).alloc _
 have hN : Bx V (s + 1) 32 [.int .i64 0, .int .i64 0, .int .i64 0, .slice none 0 0, .slice none 0 0] := by rw [← hV]; exact Bx.new (vs := [.int .i64 0, .int .i64 0, .int .i64 0, .slice none 0 0, .slice none 0 0]) (by simp; omega)
 have hG : Gr w V := by rw [← hV]; exact ((Gr.refl w).alloc _).alloc _
 have x0 := hX.blk.cell 0 rfl; have x1 := hX.blk.cell 1 rfl; have x2 := hX.blk.cell 2 rfl; have x3 := hX.blk.cell 3 rfl; have lX := hX.lt
 have HX := Lib.hid hX; have HZ := Lib.hid hN; have HG := Lib.hid hG
 have hsw : w.heap.size ≤ s + 1 := by omega
 clear hX hN hG
 cases ht : tameB d with
 | false =>
  have HT := Lib.hid ht
  have HGN2 := Lib.hid (HGN.out ht V HG.out)
  clear ht
  go_enter Tryz.func7, Tryz.ntmps7
  go_wp2_with fail
  clear hV hs
  refine HGN2.out.mono ?_
  rintro e w2 ⟨rfl, hg2⟩
  have HZ2 := Lib.hid (HZ.out.gr hg2); have HG2 := Lib.hid (HG.out.trans hg2)
  clear x0 x1 x2 x3 lX HX hg2
  have z3 := HZ2.out.blk
  have p0 := z3.cell 0 rfl; have p1 := z3.cell 1 rfl; have p2 := z3.cell 2 rfl; have p3 := z3.cell 3 rfl; have p4 := z3.cell 4 rfl; have y0 := z3.free 0 rfl; have y1 := z3.free 1 rfl; have y2 := z3.free 2 rfl; have y3 := z3.free 3 rfl; have y4 := z3.free 4 rfl; have lz := HZ2.out.lt
  clear z3
  go_wp2_with fail
  refine bodyPost_ret (res_agg_tmp (vs := [.int .i64 0, .int .i64 0, .int .i64 0, .slice none 0 0, .slice none 0 0]) rfl ti_atlas rfl (bx_seti (bx_seti (bx_seti (bx_seti (bx_seti HZ2.out 0 _) 1 _) 2 _) 3 _) 4 _) rfl) rfl (LaidP.no rfl ?_ ?no1)
  ·exact ((((HG2.out.setCell hsw _).setCell hsw _).setCell hsw _).setCell hsw _).setCell hsw _
  case no1 =>
   intro h _ _; rw [HT.out] at h; cases h
 | true =>
  have HT := Lib.hid ht
  have HGY2 := Lib.hid (HGY.out ht V HG.out)
  clear ht
  go_enter Tryz.func7, Tryz.ntmps7
  go_wp2_with fail
  clear hV hs
  refine HGY2.out.mono ?_
  rintro e w2 ⟨ca, ccap, cs, rfl, hcl, hcr, hgo, hg2⟩
  have HZ2 := Lib.hid (HZ.out.gr hg2); have HX2 := Lib.hid (HX.out.gr hg2); have HG2 := Lib.hid (HG.out.trans hg2); have HCR := Lib.hid hcr; have HGO := Lib.hid hgo
  have HCG := Lib.hid (cgood_of hgo HL.out)
  have hcn : cs.length ≤ 12 := by have := HL.out; omega
  clear x0 x1 x2 x3 lX HX hg2 HZ HG hcr hgo HGY2 hcl
  obtain ⟨n, hn⟩ : ∃ n, cs.length = n := ⟨_, rfl⟩
  have HN := Lib.hid hn
  rw [hn] at hcn ⊢
  clear hn
  go_wp2_with fail
  go_loopw [14, 15] (fun v14 v15 wr => ∃ i : Nat, i ≤ n ∧ v15 = .int .i64 i ∧ ∃ ps, ps.length = i ∧ ps.map core = (cs.take i).map (coreL d dn) ∧ (∀ c ∈ cs.take i, layB d c dn = true) ∧ wr.ownsRow w2.heap.size 70 4 v14 i (pav ps) ∧ (∀ q ∈ ps, PaOk wr (fun b => v14.ownBlock = some b ∨ b < w2.heap.size) q) ∧ Gr w2 wr) (fun _ v15 _ => n - (intOf v15).toNat)
  case atStart => exact ⟨0, Nat.zero_le _, rfl, [], rfl, rfl, fun c hc => by simp at hc, World.ownsRow_nil _ _ _ _, fun q hq => by simp at hq, Gr.refl _⟩
  case round =>
   obtain ⟨i, hi, rfl, ps, hpl, hpc, hlb, hown, hpo, hgr⟩ := hrel
   obtain ⟨a14, cap14, rfl⟩ := own_slice hown
   have HPL := Lib.hid hpl; have HPC := Lib.hid hpc; have HLB := Lib.hid hlb; have HOW := Lib.hid hown; have HPO := Lib.hid hpo; have HGR := Lib.hid hgr
   clear hpl hpc hlb hown hpo hgr
   by_cases hlt : i < n
   ·have hic : i < cs.length := by have := HN.out; omega
    obtain ⟨cb, coff, rfl, lcb, hrow, c0, c1, c2⟩ := ch_op (HCR.out.later HGR.out) hic
    have hcg := HCG.out _ (List.getElem_mem hic)
    have htk : cs.take (i + 1) = cs.take i ++ [cs[i]] := List.take_succ_eq_append_getElem hic
    have hcm : cs[i] ∈ cs := List.getElem_mem hic
    generalize cs[i] = c at *
    have HX3 := Lib.hid (HX2.out.gr HGR.out); have HZ3 := Lib.hid (HZ2.out.gr HGR.out)
    have HTK := Lib.hid htk; have HCM := Lib.hid hcm
    have HF0 := Lib.hid c0; have HF1 := Lib.hid c1; have HF2 := Lib.hid c2
    have HLC := Lib.hid (fun w1 (g : Gr wr w1) => HLY.out HT.out c hcg w1 (hrow.later g) ((HG2.out.trans HGR.out).trans g))
    have hi0 : (0 : Int) ≤ (i : Int) := by omega
    have lws := HGR.out.size
    have hlx := HX3.out.lt
    have hne := hcg.ne
    clear htk hcm hrow hcg c0 c1 c2
    obtain ⟨ax, sd, ta, tc, tris⟩ := c
    simp only at hne
    simp only [CH.vs] at HF0 HF1 HF2 HLC
    have htp : 0 < tris.length := List.length_pos_iff.2 hne
    clear hne
    cases hlb : layB d ⟨ax, sd, ta, tc, tris⟩ dn with
    | false =>
     go_wp2_with fail
     go_cut [16, 17] (fun s16 s17 wx => ∃ b16 er, s16 = .pointer (some ⟨b16, 0, none⟩) ∧ s17 = .int .i64 er ∧ er ≠ 0 ∧ Gr wr wx)
     case first =>
      refine wp_region_held_drew (S := fun w' => w'.cell? ⟨s, 0, none⟩ = some (.slice av lv cv) ∧ w'.cell? ⟨s, 1, none⟩ = some (.slice at' lt ct) ∧ w'.cell? ⟨s, 2, none⟩ = some (.slice an ln cn) ∧ w'.cell? ⟨s, 3, none⟩ = some (.slice af lf cf) ∧ w'.cell? ⟨cb, coff + i * 3, none⟩ = some (.int .i64 ax) ∧ w'.cell? ⟨cb, coff + i * 3 + 1, none⟩ = some (.int .i64 sd) ∧ w'.cell? ⟨cb, coff + i * 3 + 2, none⟩ = some (.slice ta tris.length tc)) (by kernel_rfl) ?_ (fun hH => ?_)
      ·exact ⟨HX3.out.blk.cell 0 rfl, HX3.out.blk.cell 1 rfl, HX3.out.blk.cell 2 rfl, HX3.out.blk.cell 3 rfl, HF0.out, HF1.out, HF2.out⟩
      refine' wpAnyH_take (i := 0) (v := _) rfl (by kernel_rfl) (by kernel_rfl) (by kernel_rfl) (fun _ _ _ h => h) (Or.inl ⟨by rfl, ?thy5_0⟩) (by assumption) ?_
      case thy5_0 => (intro w hSw; (try dsimp only at hSw); go_simp; try with_reducible rfl)
      try simp only [Act.put, List.setIfInBounds_toArray, List.set_cons_zero, List.set_cons_succ, List.getElem_toArray, List.getElem_cons_zero]
      refine' wpAnyH_take (i := 1) (v := _) rfl (by kernel_rfl) (by kernel_rfl) (by kernel_rfl) (fun _ _ _ h => h) (Or.inl ⟨by rfl, ?thy5_1⟩) (by assumption) ?_
      case thy5_1 => (intro w hSw; (try dsimp only at hSw); go_simp; try with_reducible rfl)
      try simp only [Act.put, List.setIfInBounds_toArray, List.set_cons_zero, List.set_cons_succ, List.getElem_toArray, List.getElem_cons_succ, List.getElem_cons_zero]
      refine' wpAnyH_take (i := 2) (v := _) rfl (by kernel_rfl) (by kernel_rfl) (by kernel_rfl) (fun _ _ _ h => h) (Or.inl ⟨by rfl, ?thy5_2⟩) (by assumption) ?_
      case thy5_2 => (intro w hSw; (try dsimp only at hSw); go_simp; try with_reducible rfl)
      try simp only [Act.put, List.setIfInBounds_toArray, List.set_cons_zero, List.set_cons_succ, List.getElem_toArray, List.getElem_cons_succ, List.getElem_cons_zero]
      refine' wpAnyH_take (i := 3) (v := _) rfl (by kernel_rfl) (by kernel_rfl) (by kernel_rfl) (fun _ _ _ h => h) (Or.inl ⟨by rfl, ?thy5_3⟩) (by assumption) ?_
      case thy5_3 => (intro w hSw; (try dsimp only at hSw); go_simp; try with_reducible rfl)
      try simp only [Act.put, List.setIfInBounds_toArray, List.set_cons_zero, List.set_cons_succ, List.getElem_toArray, List.getElem_cons_succ, List.getElem_cons_zero]
      refine' wpAnyH_take (i := 4) (v := _) rfl (by kernel_rfl) (by kernel_rfl) (by kernel_rfl) (fun _ _ _ h => h) (Or.inl ⟨by rfl, ?thy5_4⟩) (by assumption) ?_
      case thy5_4 => (intro w hSw; (try dsimp only at hSw); go_simp; try with_reducible rfl)
      try simp only [Act.put, List.setIfInBounds_toArray, List.set_cons_zero, List.set_cons_succ, List.getElem_toArray, List.getElem_cons_succ, List.getElem_cons_zero]
      refine' wpAnyH_take (i := 5) (v := _) rfl (by kernel_rfl) (by kernel_rfl) (by kernel_rfl) (fun _ _ _ h => h) (Or.inl ⟨by rfl, ?thy5_5⟩) (by assumption) ?_
      case thy5_5 => (intro w hSw; (try dsimp only at hSw); go_simp; try with_reducible rfl)
      try simp only [Act.put, List.setIfInBounds_toArray, List.set_cons_zero, List.set_cons_succ, List.getElem_toArray, List.getElem_cons_succ, List.getElem_cons_zero]
      refine wpAnyH_ready (rs := [6, 10]) (by kernel_rfl) (by simp) ?_
      refine AllReadyH.cons rfl (fun K hK => ?_) (AllReadyH.cons rfl (fun K hK => ?_) AllReadyH.nil)
      ·go_simp
       go_at_call 18
       refine (HLC.out _ (Gr.refl wr).drew).mono ?_
       rintro e wq hL
       obtain ⟨er, rfl, her, hg⟩ := hL.2 hlb
       clear hL
       have hgq : Gr wr wq := ⟨hg.os, hg.tape, hg.output, hg.size, fun k hk => hg.block k hk⟩
       have HGQ := Lib.hid hgq
       have hcc : wq.cell? ⟨s, 0, none⟩ = some (.slice av lv cv) ∧ wq.cell? ⟨s, 1, none⟩ = some (.slice at' lt ct) ∧ wq.cell? ⟨s, 2, none⟩ = some (.slice an ln cn) ∧ wq.cell? ⟨s, 3, none⟩ = some (.slice af lf cf) ∧ wq.cell? ⟨cb, coff + i * 3, none⟩ = some (.int .i64 ax) ∧ wq.cell? ⟨cb, coff + i * 3 + 1, none⟩ = some (.int .i64 sd) ∧ wq.cell? ⟨cb, coff + i * 3 + 2, none⟩ = some (.slice ta tris.length tc) := ⟨(hgq.cell hlx).trans (HX3.out.blk.cell 0 rfl), (hgq.cell hlx).trans (HX3.out.blk.cell 1 rfl), (hgq.cell hlx).trans (HX3.out.blk.cell 2 rfl), (hgq.cell hlx).trans (HX3.out.blk.cell 3 rfl), (hgq.cell (p := ⟨cb, coff + i * 3, none⟩) lcb).trans HF0.out, (hgq.cell (p := ⟨cb, coff + i * 3 + 1, none⟩) lcb).trans HF1.out, (hgq.cell (p := ⟨cb, coff + i * 3 + 2, none⟩) lcb).trans HF2.out⟩
       clear hg hgq
       go_wp2_with fail
       refine hK.out _ _ ?_ (fun hN => ?_)
       ·exact hcc
       clear hcc
       clear hK K hH
       have hH := hN; clear hN
       try simp only [Act.put, List.setIfInBounds_toArray, List.set_cons_zero, List.set_cons_succ, List.getElem_toArray, List.getElem_cons_succ, List.getElem_cons_zero]
       refine' wpAnyH_take (i := 7) (v := _) rfl (by kernel_rfl) (by kernel_rfl) (by kernel_rfl) (fun _ _ _ h => h) (Or.inl ⟨by rfl, ?thy1_0⟩) (by assumption) ?_
       case thy1_0 => (intro w hSw; (try dsimp only at hSw); go_simp; try with_reducible rfl)
       try simp only [Act.put, List.setIfInBounds_toArray, List.set_cons_zero, List.set_cons_succ, List.getElem_toArray, List.getElem_cons_succ, List.getElem_cons_zero]
       refine' wpAnyH_take (i := 8) (v := _) rfl (by kernel_rfl) (by kernel_rfl) (by kernel_rfl) (fun _ _ _ h => h) (Or.inl ⟨by rfl, ?thy1_1⟩) (by assumption) ?_
       case thy1_1 => (intro w hSw; (try dsimp only at hSw); go_simp; try with_reducible rfl)
       try simp only [Act.put, List.setIfInBounds_toArray, List.set_cons_zero, List.set_cons_succ, List.getElem_toArray, List.getElem_cons_succ, List.getElem_cons_zero]
       refine' wpAnyH_take (i := 9) (v := _) rfl (by kernel_rfl) (by kernel_rfl) (by kernel_rfl) (fun _ _ _ h => h) (Or.inl ⟨by rfl, ?thy1_2⟩) (by assumption) ?_
       case thy1_2 => (intro w hSw; (try dsimp only at hSw); go_simp; try with_reducible rfl)
       try simp only [Act.put, List.setIfInBounds_toArray, List.set_cons_zero, List.set_cons_succ, List.getElem_toArray, List.getElem_cons_succ, List.getElem_cons_zero]
       have lq1 : s < wq.heap.size := by have := HGQ.out.size; omega
       have lq2 : cb < wq.heap.size := by have := HGQ.out.size; omega
       refine wpAnyH_ready (rs := [10]) (by kernel_rfl) (by simp) ?_
       refine AllReadyH.cons rfl (fun K hK => ?_) AllReadyH.nil
       go_simp
       refine hK.out _ _ ?_ (fun hN => ?_)
       ·exact ⟨(World.cell?_alloc_past _ _ _ (by simpa using lq1)).trans hH.1, (World.cell?_alloc_past _ _ _ (by simpa using lq1)).trans hH.2.1, (World.cell?_alloc_past _ _ _ (by simpa using lq1)).trans hH.2.2.1, (World.cell?_alloc_past _ _ _ (by simpa using lq1)).trans hH.2.2.2.1, (World.cell?_alloc_past _ _ _ (by simpa using lq2)).trans hH.2.2.2.2.1, (World.cell?_alloc_past _ _ _ (by simpa using lq2)).trans hH.2.2.2.2.2.1, (World.cell?_alloc_past _ _ _ (by simpa using lq2)).trans hH.2.2.2.2.2.2⟩
       clear hK K hH
       have hH := hN; clear hN
       try simp only [Act.put, List.setIfInBounds_toArray, List.set_cons_zero, List.set_cons_succ, List.getElem_toArray, List.getElem_cons_succ, List.getElem_cons_zero]
       have hbu : Bx (wq.alloc (.cells #[.slice none 0 0, .slice none 0 0, .int .i64 0, .int .i64 0] 70)) wq.heap.size 70 [.slice none 0 0, .slice none 0 0, .int .i64 0, .int .i64 0] := Bx.new (vs := [.slice none 0 0, .slice none 0 0, .int .i64 0, .int .i64 0]) rfl
       have hgu : Gr wq (wq.alloc (.cells #[.slice none 0 0, .slice none 0 0, .int .i64 0, .int .i64 0] 70)) := (Gr.refl wq).alloc _
       generalize wq.alloc (.cells #[.slice none 0 0, .slice none 0 0, .int .i64 0, .int .i64 0] 70) = U at *
       have HGUU := Lib.hid hgu
       clear hgu
       have u0 := hbu.blk.cell 0 rfl; have u1 := hbu.blk.cell 1 rfl; have u2 := hbu.blk.cell 2 rfl; have u3 := hbu.blk.cell 3 rfl; have v0 := hbu.blk.free 0 rfl; have v1 := hbu.blk.free 1 rfl; have v2 := hbu.blk.free 2 rfl; have v3 := hbu.blk.free 3 rfl; have lu := hbu.lt
       refine wpAnyH_ready (rs := [11]) (by kernel_rfl) (by simp) ?_
       refine AllReadyH.cons rfl (fun K hK => ?_) AllReadyH.nil
       go_simp
       refine hK.out _ _ ?_ (fun hN => ?_)
       ·exact ⟨(by rw [World.cell?_setCell_other _ _ _ _ (by intro h; injection h with h _; omega), World.cell?_setCell_other _ _ _ _ (by intro h; injection h with h _; omega), World.cell?_setCell_other _ _ _ _ (by intro h; injection h with h _; omega), World.cell?_setCell_other _ _ _ _ (by intro h; injection h with h _; omega)]; exact hH.1), (by rw [World.cell?_setCell_other _ _ _ _ (by intro h; injection h with h _; omega), World.cell?_setCell_other _ _ _ _ (by intro h; injection h with h _; omega), World.cell?_setCell_other _ _ _ _ (by intro h; injection h with h _; omega), World.cell?_setCell_other _ _ _ _ (by intro h; injection h with h _; omega)]; exact hH.2.1), (by rw [World.cell?_setCell_other _ _ _ _ (by intro h; injection h with h _; omega), World.cell?_setCell_other _ _ _ _ (by intro h; injection h with h _; omega), World.cell?_setCell_other _ _ _ _ (by intro h; injection h with h _; omega), World.cell?_setCell_other _ _ _ _ (by intro h; injection h with h _; omega)]; exact hH.2.2.1), (by rw [World.cell?_setCell_other _ _ _ _ (by intro h; injection h with h _; omega), World.cell?_setCell_other _ _ _ _ (by intro h; injection h with h _; omega), World.cell?_setCell_other _ _ _ _ (by intro h; injection h with h _; omega), World.cell?_setCell_other _ _ _ _ (by intro h; injection h with h _; omega)]; exact hH.2.2.2.1), (by rw [World.cell?_setCell_other _ _ _ _ (by intro h; injection h with h _; omega), World.cell?_setCell_other _ _ _ _ (by intro h; injection h with h _; omega), World.cell?_setCell_other _ _ _ _ (by intro h; injection h with h _; omega), World.cell?_setCell_other _ _ _ _ (by intro h; injection h with h _; omega)]; exact hH.2.2.2.2.1), (by rw [World.cell?_setCell_other _ _ _ _ (by intro h; injection h with h _; omega), World.cell?_setCell_other _ _ _ _ (by intro h; injection h with h _; omega), World.cell?_setCell_other _ _ _ _ (by intro h; injection h with h _; omega), World.cell?_setCell_other _ _ _ _ (by intro h; injection h with h _; omega)]; exact hH.2.2.2.2.2.1), (by rw [World.cell?_setCell_other _ _ _ _ (by intro h; injection h with h _; omega), World.cell?_setCell_other _ _ _ _ (by intro h; injection h with h _; omega), World.cell?_setCell_other _ _ _ _ (by intro h; injection h with h _; omega), World.cell?_setCell_other _ _ _ _ (by intro h; injection h with h _; omega)]; exact hH.2.2.2.2.2.2)⟩
       clear hK K hH
       have hH := hN; clear hN
       try simp only [Act.put, List.setIfInBounds_toArray, List.set_cons_zero, List.set_cons_succ, List.getElem_toArray, List.getElem_cons_succ, List.getElem_cons_zero]
       refine' wpAnyH_take (i := 12) (v := _) rfl (by kernel_rfl) (by kernel_rfl) (by kernel_rfl) (fun _ _ _ h => h) (Or.inl ⟨by rfl, ?thy2_0⟩) (by assumption) ?_
       case thy2_0 => (intro w hSw; (try dsimp only at hSw); go_simp; try with_reducible rfl)
       try simp only [Act.put, List.setIfInBounds_toArray, List.set_cons_zero, List.set_cons_succ, List.getElem_toArray, List.getElem_cons_succ, List.getElem_cons_zero]
       refine wpAnyH_done (by kernel_rfl) ?_ _
       go_wp2_with fail
       go_meet
       case rel =>
        have hk : Ks (fun b => b = wq.heap.size) wq _ := (Ks.of_gr HGUU.out).trans (ks_four U wq.heap.size (.slice none 0 0) (.slice none 0 0) (.int .i64 0) (.int .i64 0))
        exact ⟨wq.heap.size, er, rfl, rfl, her, hk.gr HGQ.out (fun q hq => by show ¬ q = wq.heap.size; have := HGQ.out.size; omega)⟩
      ·go_simp
       refine hK.out _ _ ?_ (fun hN => ?_)
       ·exact ⟨(World.cell?_alloc_past _ _ _ (by simpa using hlx)).trans hH.1, (World.cell?_alloc_past _ _ _ (by simpa using hlx)).trans hH.2.1, (World.cell?_alloc_past _ _ _ (by simpa using hlx)).trans hH.2.2.1, (World.cell?_alloc_past _ _ _ (by simpa using hlx)).trans hH.2.2.2.1, (World.cell?_alloc_past _ _ _ (by simpa using lcb)).trans hH.2.2.2.2.1, (World.cell?_alloc_past _ _ _ (by simpa using lcb)).trans hH.2.2.2.2.2.1, (World.cell?_alloc_past _ _ _ (by simpa using lcb)).trans hH.2.2.2.2.2.2⟩
       clear hK K hH
       have hH := hN; clear hN
       try simp only [Act.put, List.setIfInBounds_toArray, List.set_cons_zero, List.set_cons_succ, List.getElem_toArray, List.getElem_cons_succ, List.getElem_cons_zero]
       refine wpAnyH_ready (rs := [6]) (by kernel_rfl) (by simp) ?_
       refine AllReadyH.cons rfl (fun K hK => ?_) AllReadyH.nil
       go_simp
       go_at_call 18
       refine (HLC.out _ ((Gr.refl wr).drew.alloc _)).mono ?_
       rintro e wq hL
       obtain ⟨er, rfl, her, hg⟩ := hL.2 hlb
       clear hL
       have hgq : Gr wr wq := ((Gr.refl wr).drew.alloc _).trans hg
       have HGQ := Lib.hid hgq
       have hcc : wq.cell? ⟨s, 0, none⟩ = some (.slice av lv cv) ∧ wq.cell? ⟨s, 1, none⟩ = some (.slice at' lt ct) ∧ wq.cell? ⟨s, 2, none⟩ = some (.slice an ln cn) ∧ wq.cell? ⟨s, 3, none⟩ = some (.slice af lf cf) ∧ wq.cell? ⟨cb, coff + i * 3, none⟩ = some (.int .i64 ax) ∧ wq.cell? ⟨cb, coff + i * 3 + 1, none⟩ = some (.int .i64 sd) ∧ wq.cell? ⟨cb, coff + i * 3 + 2, none⟩ = some (.slice ta tris.length tc) := ⟨(hgq.cell hlx).trans (HX3.out.blk.cell 0 rfl), (hgq.cell hlx).trans (HX3.out.blk.cell 1 rfl), (hgq.cell hlx).trans (HX3.out.blk.cell 2 rfl), (hgq.cell hlx).trans (HX3.out.blk.cell 3 rfl), (hgq.cell (p := ⟨cb, coff + i * 3, none⟩) lcb).trans HF0.out, (hgq.cell (p := ⟨cb, coff + i * 3 + 1, none⟩) lcb).trans HF1.out, (hgq.cell (p := ⟨cb, coff + i * 3 + 2, none⟩) lcb).trans HF2.out⟩
       have hbq : Bx wq wr.heap.size 70 [.slice none 0 0, .slice none 0 0, .int .i64 0, .int .i64 0] := (Bx.new (w := wr.drew) (vs := [.slice none 0 0, .slice none 0 0, .int .i64 0, .int .i64 0]) rfl).gr hg
       have HBQ := Lib.hid hbq
       clear hbq
       clear hg hgq
       go_wp2_with fail
       refine hK.out _ _ ?_ (fun hN => ?_)
       ·exact hcc
       clear hcc
       clear hK K hH
       have hH := hN; clear hN
       try simp only [Act.put, List.setIfInBounds_toArray, List.set_cons_zero, List.set_cons_succ, List.getElem_toArray, List.getElem_cons_succ, List.getElem_cons_zero]
       refine' wpAnyH_take (i := 7) (v := _) rfl (by kernel_rfl) (by kernel_rfl) (by kernel_rfl) (fun _ _ _ h => h) (Or.inl ⟨by rfl, ?thy3_0⟩) (by assumption) ?_
       case thy3_0 => (intro w hSw; (try dsimp only at hSw); go_simp; try with_reducible rfl)
       try simp only [Act.put, List.setIfInBounds_toArray, List.set_cons_zero, List.set_cons_succ, List.getElem_toArray, List.getElem_cons_succ, List.getElem_cons_zero]
       refine' wpAnyH_take (i := 8) (v := _) rfl (by kernel_rfl) (by kernel_rfl) (by kernel_rfl) (fun _ _ _ h => h) (Or.inl ⟨by rfl, ?thy3_1⟩) (by assumption) ?_
       case thy3_1 => (intro w hSw; (try dsimp only at hSw); go_simp; try with_reducible rfl)
       try simp only [Act.put, List.setIfInBounds_toArray, List.set_cons_zero, List.set_cons_succ, List.getElem_toArray, List.getElem_cons_succ, List.getElem_cons_zero]
       refine' wpAnyH_take (i := 9) (v := _) rfl (by kernel_rfl) (by kernel_rfl) (by kernel_rfl) (fun _ _ _ h => h) (Or.inl ⟨by rfl, ?thy3_2⟩) (by assumption) ?_
       case thy3_2 => (intro w hSw; (try dsimp only at hSw); go_simp; try with_reducible rfl)
       try simp only [Act.put, List.setIfInBounds_toArray, List.set_cons_zero, List.set_cons_succ, List.getElem_toArray, List.getElem_cons_succ, List.getElem_cons_zero]
       have hbu := HBQ.out
       have u0 := hbu.blk.cell 0 rfl; have u1 := hbu.blk.cell 1 rfl; have u2 := hbu.blk.cell 2 rfl; have u3 := hbu.blk.cell 3 rfl; have v0 := hbu.blk.free 0 rfl; have v1 := hbu.blk.free 1 rfl; have v2 := hbu.blk.free 2 rfl; have v3 := hbu.blk.free 3 rfl; have lu := hbu.lt
       refine wpAnyH_ready (rs := [11]) (by kernel_rfl) (by simp) ?_
       refine AllReadyH.cons rfl (fun K hK => ?_) AllReadyH.nil
       go_simp
       refine hK.out _ _ ?_ (fun hN => ?_)
       ·exact ⟨(by rw [World.cell?_setCell_other _ _ _ _ (by intro h; injection h with h _; omega), World.cell?_setCell_other _ _ _ _ (by intro h; injection h with h _; omega), World.cell?_setCell_other _ _ _ _ (by intro h; injection h with h _; omega), World.cell?_setCell_other _ _ _ _ (by intro h; injection h with h _; omega)]; exact hH.1), (by rw [World.cell?_setCell_other _ _ _ _ (by intro h; injection h with h _; omega), World.cell?_setCell_other _ _ _ _ (by intro h; injection h with h _; omega), World.cell?_setCell_other _ _ _ _ (by intro h; injection h with h _; omega), World.cell?_setCell_other _ _ _ _ (by intro h; injection h with h _; omega)]; exact hH.2.1), (by rw [World.cell?_setCell_other _ _ _ _ (by intro h; injection h with h _; omega), World.cell?_setCell_other _ _ _ _ (by intro h; injection h with h _; omega), World.cell?_setCell_other _ _ _ _ (by intro h; injection h with h _; omega), World.cell?_setCell_other _ _ _ _ (by intro h; injection h with h _; omega)]; exact hH.2.2.1), (by rw [World.cell?_setCell_other _ _ _ _ (by intro h; injection h with h _; omega), World.cell?_setCell_other _ _ _ _ (by intro h; injection h with h _; omega), World.cell?_setCell_other _ _ _ _ (by intro h; injection h with h _; omega), World.cell?_setCell_other _ _ _ _ (by intro h; injection h with h _; omega)]; exact hH.2.2.2.1), (by rw [World.cell?_setCell_other _ _ _ _ (by intro h; injection h with h _; omega), World.cell?_setCell_other _ _ _ _ (by intro h; injection h with h _; omega), World.cell?_setCell_other _ _ _ _ (by intro h; injection h with h _; omega), World.cell?_setCell_other _ _ _ _ (by intro h; injection h with h _; omega)]; exact hH.2.2.2.2.1), (by rw [World.cell?_setCell_other _ _ _ _ (by intro h; injection h with h _; omega), World.cell?_setCell_other _ _ _ _ (by intro h; injection h with h _; omega), World.cell?_setCell_other _ _ _ _ (by intro h; injection h with h _; omega), World.cell?_setCell_other _ _ _ _ (by intro h; injection h with h _; omega)]; exact hH.2.2.2.2.2.1), (by rw [World.cell?_setCell_other _ _ _ _ (by intro h; injection h with h _; omega), World.cell?_setCell_other _ _ _ _ (by intro h; injection h with h _; omega), World.cell?_setCell_other _ _ _ _ (by intro h; injection h with h _; omega), World.cell?_setCell_other _ _ _ _ (by intro h; injection h with h _; omega)]; exact hH.2.2.2.2.2.2)⟩
       clear hK K hH
       have hH := hN; clear hN
       try simp only [Act.put, List.setIfInBounds_toArray, List.set_cons_zero, List.set_cons_succ, List.getElem_toArray, List.getElem_cons_succ, List.getElem_cons_zero]
       refine' wpAnyH_take (i := 12) (v := _) rfl (by kernel_rfl) (by kernel_rfl) (by kernel_rfl) (fun _ _ _ h => h) (Or.inl ⟨by rfl, ?thy4_0⟩) (by assumption) ?_
       case thy4_0 => (intro w hSw; (try dsimp only at hSw); go_simp; try with_reducible rfl)
       try simp only [Act.put, List.setIfInBounds_toArray, List.set_cons_zero, List.set_cons_succ, List.getElem_toArray, List.getElem_cons_succ, List.getElem_cons_zero]
       refine wpAnyH_done (by kernel_rfl) ?_ _
       go_wp2_with fail
       go_meet
       case rel =>
        have hk : Ks (fun b => b = wr.heap.size) wq _ := ks_four wq wr.heap.size (.slice none 0 0) (.slice none 0 0) (.int .i64 0) (.int .i64 0)
        exact ⟨wr.heap.size, er, rfl, rfl, her, hk.gr HGQ.out (fun q hq => by show ¬ q = wr.heap.size; omega)⟩
     case rest =>
      obtain ⟨b16, er, rfl, rfl, her, hgx⟩ := hcut
      have e1 : (er == 0) = false := by simpa using her
      have e2 : decide (er = 0) = false := by simpa using her
      have e3 : (er != 0) = true := by simpa using her
      have HZX := Lib.hid (HZ3.out.gr hgx); have HGX := Lib.hid ((HG2.out.trans HGR.out).trans hgx); have HLBF := Lib.hid hlb
      clear her hgx hlb
      have z3 := HZX.out.blk
      have p0 := z3.cell 0 rfl; have p1 := z3.cell 1 rfl; have p2 := z3.cell 2 rfl; have p3 := z3.cell 3 rfl; have p4 := z3.cell 4 rfl; have y0 := z3.free 0 rfl; have y1 := z3.free 1 rfl; have y2 := z3.free 2 rfl; have y3 := z3.free 3 rfl; have y4 := z3.free 4 rfl; have lz := HZX.out.lt
      clear z3
      go_wp2_with fail
      refine bodyPost_ret (res_agg_tmp (vs := [.int .i64 0, .int .i64 0, .int .i64 0, .slice none 0 0, .slice none 0 0]) rfl ti_atlas rfl (bx_seti (bx_seti (bx_seti (bx_seti (bx_seti HZX.out 0 _) 1 _) 2 _) 3 _) 4 _) rfl) rfl (LaidP.no rfl ?_ ?no1)
      ·exact ((((HGX.out.setCell hsw _).setCell hsw _).setCell hsw _).setCell hsw _).setCell hsw _
      case no1 =>
       intro _ _ h3
       have := ((h3 cs HGO.out).2 _ HCM.out).1
       rw [HLBF.out] at this
       cases this
    | true =>
     have HTP := Lib.hid htp
     clear htp
     go_wp2_with fail
     go_cut [16, 17] (fun s16 s17 wx => ∃ b16, ∃ p : PA, s16 = .pointer (some ⟨b16, 0, none⟩) ∧ s17 = .int .i64 0 ∧ Bx wx b16 70 p.vs ∧ core p = coreL d dn ⟨ax, sd, ta, tc, tris⟩ ∧ PaOk wx (fun b => b < wr.heap.size) p ∧ Gr wr wx)
     case first =>
      refine wp_region_held_drew (S := fun w' => w'.cell? ⟨s, 0, none⟩ = some (.slice av lv cv) ∧ w'.cell? ⟨s, 1, none⟩ = some (.slice at' lt ct) ∧ w'.cell? ⟨s, 2, none⟩ = some (.slice an ln cn) ∧ w'.cell? ⟨s, 3, none⟩ = some (.slice af lf cf) ∧ w'.cell? ⟨cb, coff + i * 3, none⟩ = some (.int .i64 ax) ∧ w'.cell? ⟨cb, coff + i * 3 + 1, none⟩ = some (.int .i64 sd) ∧ w'.cell? ⟨cb, coff + i * 3 + 2, none⟩ = some (.slice ta tris.length tc)) (by kernel_rfl) ?_ (fun hH => ?_)
      ·exact ⟨HX3.out.blk.cell 0 rfl, HX3.out.blk.cell 1 rfl, HX3.out.blk.cell 2 rfl, HX3.out.blk.cell 3 rfl, HF0.out, HF1.out, HF2.out⟩
      refine' wpAnyH_take (i := 0) (v := _) rfl (by kernel_rfl) (by kernel_rfl) (by kernel_rfl) (fun _ _ _ h => h) (Or.inl ⟨by rfl, ?thy10_0⟩) (by assumption) ?_
      case thy10_0 => (intro w hSw; (try dsimp only at hSw); go_simp; try with_reducible rfl)
      try simp only [Act.put, List.setIfInBounds_toArray, List.set_cons_zero, List.set_cons_succ, List.getElem_toArray, List.getElem_cons_zero]
      refine' wpAnyH_take (i := 1) (v := _) rfl (by kernel_rfl) (by kernel_rfl) (by kernel_rfl) (fun _ _ _ h => h) (Or.inl ⟨by rfl, ?thy10_1⟩) (by assumption) ?_
      case thy10_1 => (intro w hSw; (try dsimp only at hSw); go_simp; try with_reducible rfl)
      try simp only [Act.put, List.setIfInBounds_toArray, List.set_cons_zero, List.set_cons_succ, List.getElem_toArray, List.getElem_cons_succ, List.getElem_cons_zero]
      refine' wpAnyH_take (i := 2) (v := _) rfl (by kernel_rfl) (by kernel_rfl) (by kernel_rfl) (fun _ _ _ h => h) (Or.inl ⟨by rfl, ?thy10_2⟩) (by assumption) ?_
      case thy10_2 => (intro w hSw; (try dsimp only at hSw); go_simp; try with_reducible rfl)
      try simp only [Act.put, List.setIfInBounds_toArray, List.set_cons_zero, List.set_cons_succ, List.getElem_toArray, List.getElem_cons_succ, List.getElem_cons_zero]
      refine' wpAnyH_take (i := 3) (v := _) rfl (by kernel_rfl) (by kernel_rfl) (by kernel_rfl) (fun _ _ _ h => h) (Or.inl ⟨by rfl, ?thy10_3⟩) (by assumption) ?_
      case thy10_3 => (intro w hSw; (try dsimp only at hSw); go_simp; try with_reducible rfl)
      try simp only [Act.put, List.setIfInBounds_toArray, List.set_cons_zero, List.set_cons_succ, List.getElem_toArray, List.getElem_cons_succ, List.getElem_cons_zero]
      refine' wpAnyH_take (i := 4) (v := _) rfl (by kernel_rfl) (by kernel_rfl) (by kernel_rfl) (fun _ _ _ h => h) (Or.inl ⟨by rfl, ?thy10_4⟩) (by assumption) ?_
      case thy10_4 => (intro w hSw; (try dsimp only at hSw); go_simp; try with_reducible rfl)
      try simp only [Act.put, List.setIfInBounds_toArray, List.set_cons_zero, List.set_cons_succ, List.getElem_toArray, List.getElem_cons_succ, List.getElem_cons_zero]
      refine' wpAnyH_take (i := 5) (v := _) rfl (by kernel_rfl) (by kernel_rfl) (by kernel_rfl) (fun _ _ _ h => h) (Or.inl ⟨by rfl, ?thy10_5⟩) (by assumption) ?_
      case thy10_5 => (intro w hSw; (try dsimp only at hSw); go_simp; try with_reducible rfl)
      try simp only [Act.put, List.setIfInBounds_toArray, List.set_cons_zero, List.set_cons_succ, List.getElem_toArray, List.getElem_cons_succ, List.getElem_cons_zero]
      refine wpAnyH_ready (rs := [6, 10]) (by kernel_rfl) (by simp) ?_
      refine AllReadyH.cons rfl (fun K hK => ?_) (AllReadyH.cons rfl (fun K hK => ?_) AllReadyH.nil)
      ·go_simp
       go_at_call 18
       refine (HLC.out _ (Gr.refl wr).drew).mono ?_
       rintro e wq hL
       obtain ⟨⟨pta, ptc, ptris, pua, puc, puv, pW, pH⟩, rfl, q1, q2, q3, q4, hpm, hta, hua, hg⟩ := hL.1 hlb
       clear hL
       simp only at q1 q2 q3 q4 hta hua
       simp only [PA.vs]
       have HQ := Lib.hid (And.intro q1 (And.intro q2 (And.intro q3 q4)))
       clear q1 q2 q3 q4
       have hgq : Gr wr wq := ⟨hg.os, hg.tape, hg.output, hg.size, fun k hk => hg.block k hk⟩
       have HGQ := Lib.hid hgq
       have hcc : wq.cell? ⟨s, 0, none⟩ = some (.slice av lv cv) ∧ wq.cell? ⟨s, 1, none⟩ = some (.slice at' lt ct) ∧ wq.cell? ⟨s, 2, none⟩ = some (.slice an ln cn) ∧ wq.cell? ⟨s, 3, none⟩ = some (.slice af lf cf) ∧ wq.cell? ⟨cb, coff + i * 3, none⟩ = some (.int .i64 ax) ∧ wq.cell? ⟨cb, coff + i * 3 + 1, none⟩ = some (.int .i64 sd) ∧ wq.cell? ⟨cb, coff + i * 3 + 2, none⟩ = some (.slice ta tris.length tc) := ⟨(hgq.cell hlx).trans (HX3.out.blk.cell 0 rfl), (hgq.cell hlx).trans (HX3.out.blk.cell 1 rfl), (hgq.cell hlx).trans (HX3.out.blk.cell 2 rfl), (hgq.cell hlx).trans (HX3.out.blk.cell 3 rfl), (hgq.cell (p := ⟨cb, coff + i * 3, none⟩) lcb).trans HF0.out, (hgq.cell (p := ⟨cb, coff + i * 3 + 1, none⟩) lcb).trans HF1.out, (hgq.cell (p := ⟨cb, coff + i * 3 + 2, none⟩) lcb).trans HF2.out⟩
       clear hg hgq
       go_wp2_with fail
       refine hK.out _ _ ?_ (fun hN => ?_)
       ·exact hcc
       clear hcc
       clear hK K hH
       have hH := hN; clear hN
       try simp only [Act.put, List.setIfInBounds_toArray, List.set_cons_zero, List.set_cons_succ, List.getElem_toArray, List.getElem_cons_succ, List.getElem_cons_zero]
       refine' wpAnyH_take (i := 7) (v := _) rfl (by kernel_rfl) (by kernel_rfl) (by kernel_rfl) (fun _ _ _ h => h) (Or.inl ⟨by rfl, ?thy6_0⟩) (by assumption) ?_
       case thy6_0 => (intro w hSw; (try dsimp only at hSw); go_simp; try with_reducible rfl)
       try simp only [Act.put, List.setIfInBounds_toArray, List.set_cons_zero, List.set_cons_succ, List.getElem_toArray, List.getElem_cons_succ, List.getElem_cons_zero]
       refine' wpAnyH_take (i := 8) (v := _) rfl (by kernel_rfl) (by kernel_rfl) (by kernel_rfl) (fun _ _ _ h => h) (Or.inl ⟨by rfl, ?thy6_1⟩) (by assumption) ?_
       case thy6_1 => (intro w hSw; (try dsimp only at hSw); go_simp; try with_reducible rfl)
       try simp only [Act.put, List.setIfInBounds_toArray, List.set_cons_zero, List.set_cons_succ, List.getElem_toArray, List.getElem_cons_succ, List.getElem_cons_zero]
       refine' wpAnyH_take (i := 9) (v := _) rfl (by kernel_rfl) (by kernel_rfl) (by kernel_rfl) (fun _ _ _ h => h) (Or.inl ⟨by rfl, ?thy6_2⟩) (by assumption) ?_
       case thy6_2 => (intro w hSw; (try dsimp only at hSw); go_simp; try with_reducible rfl)
       try simp only [Act.put, List.setIfInBounds_toArray, List.set_cons_zero, List.set_cons_succ, List.getElem_toArray, List.getElem_cons_succ, List.getElem_cons_zero]
       have lq1 : s < wq.heap.size := by have := HGQ.out.size; omega
       have lq2 : cb < wq.heap.size := by have := HGQ.out.size; omega
       refine wpAnyH_ready (rs := [10]) (by kernel_rfl) (by simp) ?_
       refine AllReadyH.cons rfl (fun K hK => ?_) AllReadyH.nil
       go_simp
       refine hK.out _ _ ?_ (fun hN => ?_)
       ·exact ⟨(World.cell?_alloc_past _ _ _ (by simpa using lq1)).trans hH.1, (World.cell?_alloc_past _ _ _ (by simpa using lq1)).trans hH.2.1, (World.cell?_alloc_past _ _ _ (by simpa using lq1)).trans hH.2.2.1, (World.cell?_alloc_past _ _ _ (by simpa using lq1)).trans hH.2.2.2.1, (World.cell?_alloc_past _ _ _ (by simpa using lq2)).trans hH.2.2.2.2.1, (World.cell?_alloc_past _ _ _ (by simpa using lq2)).trans hH.2.2.2.2.2.1, (World.cell?_alloc_past _ _ _ (by simpa using lq2)).trans hH.2.2.2.2.2.2⟩
       clear hK K hH
       have hH := hN; clear hN
       try simp only [Act.put, List.setIfInBounds_toArray, List.set_cons_zero, List.set_cons_succ, List.getElem_toArray, List.getElem_cons_succ, List.getElem_cons_zero]
       have hbu : Bx (wq.alloc (.cells #[.slice none 0 0, .slice none 0 0, .int .i64 0, .int .i64 0] 70)) wq.heap.size 70 [.slice none 0 0, .slice none 0 0, .int .i64 0, .int .i64 0] := Bx.new (vs := [.slice none 0 0, .slice none 0 0, .int .i64 0, .int .i64 0]) rfl
       have hgu : Gr wq (wq.alloc (.cells #[.slice none 0 0, .slice none 0 0, .int .i64 0, .int .i64 0] 70)) := (Gr.refl wq).alloc _
       generalize wq.alloc (.cells #[.slice none 0 0, .slice none 0 0, .int .i64 0, .int .i64 0] 70) = U at *
       have HGUU := Lib.hid hgu
       clear hgu
       have u0 := hbu.blk.cell 0 rfl; have u1 := hbu.blk.cell 1 rfl; have u2 := hbu.blk.cell 2 rfl; have u3 := hbu.blk.cell 3 rfl; have v0 := hbu.blk.free 0 rfl; have v1 := hbu.blk.free 1 rfl; have v2 := hbu.blk.free 2 rfl; have v3 := hbu.blk.free 3 rfl; have lu := hbu.lt
       refine wpAnyH_ready (rs := [11]) (by kernel_rfl) (by simp) ?_
       refine AllReadyH.cons rfl (fun K hK => ?_) AllReadyH.nil
       go_simp
       refine hK.out _ _ ?_ (fun hN => ?_)
       ·exact ⟨(by rw [World.cell?_setCell_other _ _ _ _ (by intro h; injection h with h _; omega), World.cell?_setCell_other _ _ _ _ (by intro h; injection h with h _; omega), World.cell?_setCell_other _ _ _ _ (by intro h; injection h with h _; omega), World.cell?_setCell_other _ _ _ _ (by intro h; injection h with h _; omega)]; exact hH.1), (by rw [World.cell?_setCell_other _ _ _ _ (by intro h; injection h with h _; omega), World.cell?_setCell_other _ _ _ _ (by intro h; injection h with h _; omega), World.cell?_setCell_other _ _ _ _ (by intro h; injection h with h _; omega), World.cell?_setCell_other _ _ _ _ (by intro h; injection h with h _; omega)]; exact hH.2.1), (by rw [World.cell?_setCell_other _ _ _ _ (by intro h; injection h with h _; omega), World.cell?_setCell_other _ _ _ _ (by intro h; injection h with h _; omega), World.cell?_setCell_other _ _ _ _ (by intro h; injection h with h _; omega), World.cell?_setCell_other _ _ _ _ (by intro h; injection h with h _; omega)]; exact hH.2.2.1), (by rw [World.cell?_setCell_other _ _ _ _ (by intro h; injection h with h _; omega), World.cell?_setCell_other _ _ _ _ (by intro h; injection h with h _; omega), World.cell?_setCell_other _ _ _ _ (by intro h; injection h with h _; omega), World.cell?_setCell_other _ _ _ _ (by intro h; injection h with h _; omega)]; exact hH.2.2.2.1), (by rw [World.cell?_setCell_other _ _ _ _ (by intro h; injection h with h _; omega), World.cell?_setCell_other _ _ _ _ (by intro h; injection h with h _; omega), World.cell?_setCell_other _ _ _ _ (by intro h; injection h with h _; omega), World.cell?_setCell_other _ _ _ _ (by intro h; injection h with h _; omega)]; exact hH.2.2.2.2.1), (by rw [World.cell?_setCell_other _ _ _ _ (by intro h; injection h with h _; omega), World.cell?_setCell_other _ _ _ _ (by intro h; injection h with h _; omega), World.cell?_setCell_other _ _ _ _ (by intro h; injection h with h _; omega), World.cell?_setCell_other _ _ _ _ (by intro h; injection h with h _; omega)]; exact hH.2.2.2.2.2.1), (by rw [World.cell?_setCell_other _ _ _ _ (by intro h; injection h with h _; omega), World.cell?_setCell_other _ _ _ _ (by intro h; injection h with h _; omega), World.cell?_setCell_other _ _ _ _ (by intro h; injection h with h _; omega), World.cell?_setCell_other _ _ _ _ (by intro h; injection h with h _; omega)]; exact hH.2.2.2.2.2.2)⟩
       clear hK K hH
       have hH := hN; clear hN
       try simp only [Act.put, List.setIfInBounds_toArray, List.set_cons_zero, List.set_cons_succ, List.getElem_toArray, List.getElem_cons_succ, List.getElem_cons_zero]
       refine' wpAnyH_take (i := 12) (v := _) rfl (by kernel_rfl) (by kernel_rfl) (by kernel_rfl) (fun _ _ _ h => h) (Or.inl ⟨by rfl, ?thy7_0⟩) (by assumption) ?_
       case thy7_0 => (intro w hSw; (try dsimp only at hSw); go_simp; try with_reducible rfl)
       try simp only [Act.put, List.setIfInBounds_toArray, List.set_cons_zero, List.set_cons_succ, List.getElem_toArray, List.getElem_cons_succ, List.getElem_cons_zero]
       refine wpAnyH_done (by kernel_rfl) ?_ _
       go_wp2_with fail
       go_meet
       case rel =>
        obtain ⟨q1, q2, q3, q4⟩ := HQ.out
        have hk : Ks (fun b => b = wq.heap.size) wq _ := (Ks.of_gr HGUU.out).trans (ks_four U wq.heap.size (.slice pta ptris.length ptc) (.slice pua puv.length puc) (.int .i64 pW) (.int .i64 pH))
        refine ⟨wq.heap.size, ⟨pta, ptc, ptris, pua, puc, puv, pW, pH⟩, rfl, rfl, bx_seti (bx_seti (bx_seti (bx_seti hbu 0 _) 1 _) 2 _) 3 _, ?_, ?_, hk.gr HGQ.out (fun q hq => by show ¬ q = wq.heap.size; have := HGQ.out.size; omega)⟩
        ·simp only [core, coreL, q1, q2, q3, q4]
        ·exact (pa_new hpm hta hua (by rw [q1]; exact HTP.out) (by rw [q2, layU_len, shs_len]; exact HTP.out)).ks hk (fun k hk => .inr (by show wq.heap.size ≤ k; omega))
      ·go_simp
       refine hK.out _ _ ?_ (fun hN => ?_)
       ·exact ⟨(World.cell?_alloc_past _ _ _ (by simpa using hlx)).trans hH.1, (World.cell?_alloc_past _ _ _ (by simpa using hlx)).trans hH.2.1, (World.cell?_alloc_past _ _ _ (by simpa using hlx)).trans hH.2.2.1, (World.cell?_alloc_past _ _ _ (by simpa using hlx)).trans hH.2.2.2.1, (World.cell?_alloc_past _ _ _ (by simpa using lcb)).trans hH.2.2.2.2.1, (World.cell?_alloc_past _ _ _ (by simpa using lcb)).trans hH.2.2.2.2.2.1, (World.cell?_alloc_past _ _ _ (by simpa using lcb)).trans hH.2.2.2.2.2.2⟩
       clear hK K hH
       have hH := hN; clear hN
       try simp only [Act.put, List.setIfInBounds_toArray, List.set_cons_zero, List.set_cons_succ, List.getElem_toArray, List.getElem_cons_succ, List.getElem_cons_zero]
       refine wpAnyH_ready (rs := [6]) (by kernel_rfl) (by simp) ?_
       refine AllReadyH.cons rfl (fun K hK => ?_) AllReadyH.nil
       go_simp
       go_at_call 18
       refine (HLC.out _ ((Gr.refl wr).drew.alloc _)).mono ?_
       rintro e wq hL
       obtain ⟨⟨pta, ptc, ptris, pua, puc, puv, pW, pH⟩, rfl, q1, q2, q3, q4, hpm, hta, hua, hg⟩ := hL.1 hlb
       clear hL
       simp only at q1 q2 q3 q4 hta hua
       simp only [PA.vs]
       have HQ := Lib.hid (And.intro q1 (And.intro q2 (And.intro q3 q4)))
       clear q1 q2 q3 q4
       have hgq : Gr wr wq := ((Gr.refl wr).drew.alloc _).trans hg
       have HGQ := Lib.hid hgq
       have hcc : wq.cell? ⟨s, 0, none⟩ = some (.slice av lv cv) ∧ wq.cell? ⟨s, 1, none⟩ = some (.slice at' lt ct) ∧ wq.cell? ⟨s, 2, none⟩ = some (.slice an ln cn) ∧ wq.cell? ⟨s, 3, none⟩ = some (.slice af lf cf) ∧ wq.cell? ⟨cb, coff + i * 3, none⟩ = some (.int .i64 ax) ∧ wq.cell? ⟨cb, coff + i * 3 + 1, none⟩ = some (.int .i64 sd) ∧ wq.cell? ⟨cb, coff + i * 3 + 2, none⟩ = some (.slice ta tris.length tc) := ⟨(hgq.cell hlx).trans (HX3.out.blk.cell 0 rfl), (hgq.cell hlx).trans (HX3.out.blk.cell 1 rfl), (hgq.cell hlx).trans (HX3.out.blk.cell 2 rfl), (hgq.cell hlx).trans (HX3.out.blk.cell 3 rfl), (hgq.cell (p := ⟨cb, coff + i * 3, none⟩) lcb).trans HF0.out, (hgq.cell (p := ⟨cb, coff + i * 3 + 1, none⟩) lcb).trans HF1.out, (hgq.cell (p := ⟨cb, coff + i * 3 + 2, none⟩) lcb).trans HF2.out⟩
       have hbq : Bx wq wr.heap.size 70 [.slice none 0 0, .slice none 0 0, .int .i64 0, .int .i64 0] := (Bx.new (w := wr.drew) (vs := [.slice none 0 0, .slice none 0 0, .int .i64 0, .int .i64 0]) rfl).gr hg
       have HBQ := Lib.hid hbq
       clear hbq
       clear hg hgq
       go_wp2_with fail
       refine hK.out _ _ ?_ (fun hN => ?_)
       ·exact hcc
       clear hcc
       clear hK K hH
       have hH := hN; clear hN
       try simp only [Act.put, List.setIfInBounds_toArray, List.set_cons_zero, List.set_cons_succ, List.getElem_toArray, List.getElem_cons_succ, List.getElem_cons_zero]
       refine' wpAnyH_take (i := 7) (v := _) rfl (by kernel_rfl) (by kernel_rfl) (by kernel_rfl) (fun _ _ _ h => h) (Or.inl ⟨by rfl, ?thy8_0⟩) (by assumption) ?_
       case thy8_0 => (intro w hSw; (try dsimp only at hSw); go_simp; try with_reducible rfl)
       try simp only [Act.put, List.setIfInBounds_toArray, List.set_cons_zero, List.set_cons_succ, List.getElem_toArray, List.getElem_cons_succ, List.getElem_cons_zero]
       refine' wpAnyH_take (i := 8) (v := _) rfl (by kernel_rfl) (by kernel_rfl) (by kernel_rfl) (fun _ _ _ h => h) (Or.inl ⟨by rfl, ?thy8_1⟩) (by assumption) ?_
       case thy8_1 => (intro w hSw; (try dsimp only at hSw); go_simp; try with_reducible rfl)
       try simp only [Act.put, List.setIfInBounds_toArray, List.set_cons_zero, List.set_cons_succ, List.getElem_toArray, List.getElem_cons_succ, List.getElem_cons_zero]
       refine' wpAnyH_take (i := 9) (v := _) rfl (by kernel_rfl) (by kernel_rfl) (by kernel_rfl) (fun _ _ _ h => h) (Or.inl ⟨by rfl, ?thy8_2⟩) (by assumption) ?_
       case thy8_2 => (intro w hSw; (try dsimp only at hSw); go_simp; try with_reducible rfl)
       try simp only [Act.put, List.setIfInBounds_toArray, List.set_cons_zero, List.set_cons_succ, List.getElem_toArray, List.getElem_cons_succ, List.getElem_cons_zero]
       have hbu := HBQ.out
       have u0 := hbu.blk.cell 0 rfl; have u1 := hbu.blk.cell 1 rfl; have u2 := hbu.blk.cell 2 rfl; have u3 := hbu.blk.cell 3 rfl; have v0 := hbu.blk.free 0 rfl; have v1 := hbu.blk.free 1 rfl; have v2 := hbu.blk.free 2 rfl; have v3 := hbu.blk.free 3 rfl; have lu := hbu.lt
       refine wpAnyH_ready (rs := [11]) (by kernel_rfl) (by simp) ?_
       refine AllReadyH.cons rfl (fun K hK => ?_) AllReadyH.nil
       go_simp
       refine hK.out _ _ ?_ (fun hN => ?_)
       ·exact ⟨(by rw [World.cell?_setCell_other _ _ _ _ (by intro h; injection h with h _; omega), World.cell?_setCell_other _ _ _ _ (by intro h; injection h with h _; omega), World.cell?_setCell_other _ _ _ _ (by intro h; injection h with h _; omega), World.cell?_setCell_other _ _ _ _ (by intro h; injection h with h _; omega)]; exact hH.1), (by rw [World.cell?_setCell_other _ _ _ _ (by intro h; injection h with h _; omega), World.cell?_setCell_other _ _ _ _ (by intro h; injection h with h _; omega), World.cell?_setCell_other _ _ _ _ (by intro h; injection h with h _; omega), World.cell?_setCell_other _ _ _ _ (by intro h; injection h with h _; omega)]; exact hH.2.1), (by rw [World.cell?_setCell_other _ _ _ _ (by intro h; injection h with h _; omega), World.cell?_setCell_other _ _ _ _ (by intro h; injection h with h _; omega), World.cell?_setCell_other _ _ _ _ (by intro h; injection h with h _; omega), World.cell?_setCell_other _ _ _ _ (by intro h; injection h with h _; omega)]; exact hH.2.2.1), (by rw [World.cell?_setCell_other _ _ _ _ (by intro h; injection h with h _; omega), World.cell?_setCell_other _ _ _ _ (by intro h; injection h with h _; omega), World.cell?_setCell_other _ _ _ _ (by intro h; injection h with h _; omega), World.cell?_setCell_other _ _ _ _ (by intro h; injection h with h _; omega)]; exact hH.2.2.2.1), (by rw [World.cell?_setCell_other _ _ _ _ (by intro h; injection h with h _; omega), World.cell?_setCell_other _ _ _ _ (by intro h; injection h with h _; omega), World.cell?_setCell_other _ _ _ _ (by intro h; injection h with h _; omega), World.cell?_setCell_other _ _ _ _ (by intro h; injection h with h _; omega)]; exact hH.2.2.2.2.1), (by rw [World.cell?_setCell_other _ _ _ _ (by intro h; injection h with h _; omega), World.cell?_setCell_other _ _ _ _ (by intro h; injection h with h _; omega), World.cell?_setCell_other _ _ _ _ (by intro h; injection h with h _; omega), World.cell?_setCell_other _ _ _ _ (by intro h; injection h with h _; omega)]; exact hH.2.2.2.2.2.1), (by rw [World.cell?_setCell_other _ _ _ _ (by intro h; injection h with h _; omega), World.cell?_setCell_other _ _ _ _ (by intro h; injection h with h _; omega), World.cell?_setCell_other _ _ _ _ (by intro h; injection h with h _; omega), World.cell?_setCell_other _ _ _ _ (by intro h; injection h with h _; omega)]; exact hH.2.2.2.2.2.2)⟩
       clear hK K hH
       have hH := hN; clear hN
       try simp only [Act.put, List.setIfInBounds_toArray, List.set_cons_zero, List.set_cons_succ, List.getElem_toArray, List.getElem_cons_succ, List.getElem_cons_zero]
       refine' wpAnyH_take (i := 12) (v := _) rfl (by kernel_rfl) (by kernel_rfl) (by kernel_rfl) (fun _ _ _ h => h) (Or.inl ⟨by rfl, ?thy9_0⟩) (by assumption) ?_
       case thy9_0 => (intro w hSw; (try dsimp only at hSw); go_simp; try with_reducible rfl)
       try simp only [Act.put, List.setIfInBounds_toArray, List.set_cons_zero, List.set_cons_succ, List.getElem_toArray, List.getElem_cons_succ, List.getElem_cons_zero]
       refine wpAnyH_done (by kernel_rfl) ?_ _
       go_wp2_with fail
       go_meet
       case rel =>
        obtain ⟨q1, q2, q3, q4⟩ := HQ.out
        have hk : Ks (fun b => b = wr.heap.size) wq _ := ks_four wq wr.heap.size (.slice pta ptris.length ptc) (.slice pua puv.length puc) (.int .i64 pW) (.int .i64 pH)
        refine ⟨wr.heap.size, ⟨pta, ptc, ptris, pua, puc, puv, pW, pH⟩, rfl, rfl, bx_seti (bx_seti (bx_seti (bx_seti hbu 0 _) 1 _) 2 _) 3 _, ?_, ?_, hk.gr HGQ.out (fun q hq => by show ¬ q = wr.heap.size; omega)⟩
        ·simp only [core, coreL, q1, q2, q3, q4]
        ·have h1 := pa_new (n := wr.heap.size + 1) hpm (fun ad e => by have := hta ad e; simpa using this) (fun ad e => by have := hua ad e; simpa using this) (by rw [q1]; exact HTP.out) (by rw [q2, layU_len, shs_len]; exact HTP.out)
         exact (h1.ks hk (fun k hk => .inl (by show k < wr.heap.size + 1; omega))).reno (fun k hk => .inl (by show k < wr.heap.size + 1; omega))
     case rest =>
      obtain ⟨b16, ⟨pta, ptc, ptris, pua, puc, puv, pW, pH⟩, rfl, rfl, hb16, hcore, hpok, hgx⟩ := hcut
      have HOX := Lib.hid (Fa_owns HOW.out hgx); have HCO := Lib.hid hcore; have HPK := Lib.hid hpok; have HGX := Lib.hid hgx; have HLBT := Lib.hid hlb
      simp only [PA.vs] at hb16
      have t0 := hb16.blk.cell 0 rfl; have t1 := hb16.blk.cell 1 rfl; have t2 := hb16.blk.cell 2 rfl; have t3 := hb16.blk.cell 3 rfl; have lt16 := hb16.lt
      have lwc := hgx.size
      clear hb16 hcore hpok hgx hlb HLC
      go_wp2_with (first
       | (at_builtin; go_loud (refine wpList_append_lies _ rfl (.tmp 47) (.tmp 49) 29 rfl w2.heap.size 70 k0 (.agg #[.slice none 0 0, .slice none 0 0, .int .i64 0, .int .i64 0]) 4 64 Tryz.underlying29 hkP hx0 hx1 hx2 rfl (by decide) (.slice a14 i cap14) i (pav ps) (by rfl) (HOX.out.alloc _) ⟨wc.heap.size, 0, none⟩ 1 1 [.slice pta ptris.length ptc, .slice pua puv.length puc, .int .i64 pW, .int .i64 pH] (by rfl) rfl (by simpa using World.news_of_block (World.alloc_heap_new wc (.cells #[.slice pta ptris.length ptc, .slice pua puv.length puc, .int .i64 pW, .int .i64 pH] 70))) ?d3 (by omega) ?d4 ?d5 ?d6 (wc.heap.size + 1) (by simp) ?_)))
      case d3 => first | exact ⟨rfl, rfl, rfl, rfl⟩ | (intro u hu; simp at hu; rcases hu with rfl | rfl | rfl | rfl <;> rfl)
      case d4 => unfold maxLen; omega
      case d5 => omega
      case d6 => first | omega | (simp; omega)
      intro g6 cap6 w6 hown6 hgrow6 hat6 hlt6
      have HK6 := Lib.hid (ks_grown2 hgrow6); have HO6 := Lib.hid hown6; have HAT6 := Lib.hid hat6
      have HG6 := Lib.hid (show Gr w2 w6 from Below.grown ((HGR.out.trans HGX.out).alloc _) hgrow6 ((HGR.out.trans HGX.out).alloc _).size (fun q hq => own_base HOX.out q hq))
      clear hown6 hgrow6 hat6 t0 t1 t2 t3 lt16
      go_wp2_with fail
      go_roundw
      case rel =>
       have hgro : ∀ b, ((Value.slice a14 i cap14).ownBlock = some b ∨ (Value.slice (some ⟨g6, 0, none⟩) (i + 1) cap6).ownBlock = some b) → (Value.slice a14 i cap14).ownBlock = some b ∨ wc.heap.size + 1 ≤ b := by
        intro b hb
        rcases hb with hb | hb
        ·exact .inl hb
        ·simp [Value.ownBlock] at hb
         subst hb
         rcases HAT6.out with h | h
         ·exact .inl h
         ·exact .inr (by omega)
       have hfin : ∀ q : PA, PaOk (wc.alloc (.cells #[.slice pta ptris.length ptc, .slice pua puv.length puc, .int .i64 pW, .int .i64 pH] 70)) (fun b => ((Value.slice a14 i cap14).ownBlock = some b ∨ (Value.slice (some ⟨g6, 0, none⟩) (i + 1) cap6).ownBlock = some b) ∨ b < w2.heap.size) q → PaOk w6 (fun b => (Value.slice (some ⟨g6, 0, none⟩) (i + 1) cap6).ownBlock = some b ∨ b < w2.heap.size) q := by
        intro q hq
        have k2 := hq.ks HK6.out (fun k hk => .inl (.inl (.inl hk)))
        exact k2.reno (fun b hb => .inl (hb.elim (fun e => .inl (.inr e)) .inr))
       refine ⟨i + 1, by omega, by go_num, ps ++ [⟨pta, ptc, ptris, pua, puc, puv, pW, pH⟩], by simp [HPL.out], ?r1, ?r2, ?r3, ?r4, HG6.out⟩
       case r1 => rw [List.map_append, HPC.out, HTK.out, List.map_append]; congr 1; exact congrArg (fun c => [c]) HCO.out
       case r2 =>
        intro c hc
        rw [HTK.out, List.mem_append] at hc
        rcases hc with hc | hc
        ·exact HLB.out c hc
        ·simp at hc; subst hc; exact HLBT.out
       case r3 => rw [pav_snoc]; exact HO6.out
       case r4 =>
        intro q hq
        rw [List.mem_append] at hq
        rcases hq with hq | hq
        ·refine hfin q (((HPO.out q hq).ks (Ks.of_gr (S := fun _ => False) (HGX.out.alloc _)) (fun k h => h.elim)).reno (fun b hb => ?_))
         rcases hb with hb | hb
         ·rcases hgro b hb with h | h
          ·exact .inl (.inl h)
          ·exact .inr (by simpa using h)
         ·exact .inl (.inr hb)
        ·simp at hq
         subst hq
         refine hfin _ ((HPK.out.ks (Ks.of_gr (S := fun _ => False) ((Gr.refl wc).alloc _)) (fun k h => h.elim)).reno (fun b hb => ?_))
         rcases hb with hb | hb
         ·rcases hgro b hb with h | h
          ·exact .inl (HOW.out.lt b h).2
          ·exact .inr (by simpa using h)
         ·exact .inl (by show b < wr.heap.size; omega)
      case measure => simp [intOf]; omega
   ·have hin : i = n := by omega
    subst hin
    have hpsc : ps.map core = cs.map (coreL d dn) := by rw [HPC.out, List.take_of_length_le (by rw [HN.out]; exact Nat.le_refl _)]
    have hlball : ∀ c ∈ cs, layB d c dn = true := by have := HLB.out; rw [List.take_of_length_le (by rw [HN.out]; exact Nat.le_refl _)] at this; exact this
    have hrows := pa_rows (ps := ps) (by rw [HPL.out]; exact HOW.out) (fun q hq => (HPO.out q hq).1)
    obtain ⟨pa, pc, e, hpc, hpr⟩ := hrows
    rw [HPL.out] at e hpc
    cases e
    have hbld := build_any W H pad a14 cap14 ps wr hpr (good_of HT.out HV.out HCG.out hlball hpsc) (nd_of HGO.out hpsc) (by rw [HPL.out]; exact hcn)
    rw [HPL.out] at hbld
    have HBLD := Lib.hid hbld; have HPSC := Lib.hid hpsc; have HLBA := Lib.hid hlball
    have lws := HGR.out.size
    have lz0 := HZ2.out.lt
    clear hbld hpsc hlball hpr hpc
    go_wp2_with fail
    refine HBLD.out.mono ?_
    rintro e w3 ⟨v, er, rfl, hg3, hne, hok, hone⟩
    have HZX := Lib.hid ((HZ2.out.gr HGR.out).gr hg3); have HG3 := Lib.hid ((HG2.out.trans HGR.out).trans hg3)
    have lw3 := hg3.size
    by_cases her : er = 0
    ·subst her
     obtain ⟨⟨AW, AH, Ap, Apa, Apc, Aqs, Ara, Arc, Ars⟩, rfl, hA1, hA2, hA3, hA4, hA5⟩ := hok rfl
     have HA1 := Lib.hid hA1; have HA2 := Lib.hid hA2; have HA3 := Lib.hid hA3; have HA4 := Lib.hid hA4; have HA5 := Lib.hid hA5
     simp only [AT.vs]
     clear hA1 hA2 hA3 hA4 hA5 hne hok hone hg3 HBLD
     have z3 := HZX.out.blk
     have p0 := z3.cell 0 rfl; have p1 := z3.cell 1 rfl; have p2 := z3.cell 2 rfl; have p3 := z3.cell 3 rfl; have p4 := z3.cell 4 rfl; have y0 := z3.free 0 rfl; have y1 := z3.free 1 rfl; have y2 := z3.free 2 rfl; have y3 := z3.free 3 rfl; have y4 := z3.free 4 rfl; have lz := HZX.out.lt
     clear z3
     go_wp2_with fail
     refine bodyPost_ret (res_agg_tmp (vs := [.int .i64 AW, .int .i64 AH, .int .i64 Ap, .slice Apa Aqs.length Apc, .slice Ara Ars.length Arc]) rfl ti_atlas rfl ((bx_seti (bx_seti (bx_seti (bx_seti (bx_seti HZX.out 0 _) 1 _) 2 _) 3 _) 4 _).alloc _) rfl) rfl ?_
     have hkf := ks_five w3 (s + 1) (.int .i64 AW) (.int .i64 AH) (.int .i64 Ap) (.slice Apa Aqs.length Apc) (.slice Ara Ars.length Arc)
     refine ⟨_, true, rfl, ?gr, fun h => (by cases h), fun _ => ⟨⟨AW, AH, Ap, Apa, Apc, Aqs, Ara, Arc, Ars⟩, cs, rfl, HA1.out, ?am, HA4.out, HT.out, HGO.out, HLBA.out, HA2.out.trans HPSC.out⟩, fun _ _ _ => rfl⟩
     case gr => exact (hkf.gr HG3.out (fun q hq => by show ¬ q = s + 1; omega)).alloc _
     case am => exact (HA3.out.ks HA5.out hkf (fun k hk => by have hk : k = s + 1 := hk; omega)).later ((Gr.refl _).alloc _)
    ·have hv := hne her
     subst hv
     have HONE := Lib.hid hone; have HER := Lib.hid her
     have e1 : (er == 0) = false := by simpa using her
     have e2 : decide (er = 0) = false := by simpa using her
     have e3 : (er != 0) = true := by simpa using her
     clear hne hok hone hg3 her HBLD
     have z3 := HZX.out.blk
     have p0 := z3.cell 0 rfl; have p1 := z3.cell 1 rfl; have p2 := z3.cell 2 rfl; have p3 := z3.cell 3 rfl; have p4 := z3.cell 4 rfl; have y0 := z3.free 0 rfl; have y1 := z3.free 1 rfl; have y2 := z3.free 2 rfl; have y3 := z3.free 3 rfl; have y4 := z3.free 4 rfl; have lz := HZX.out.lt
     clear z3
     go_wp2_with fail
     refine bodyPost_ret (res_agg_tmp (vs := [.int .i64 0, .int .i64 0, .int .i64 0, .slice none 0 0, .slice none 0 0]) rfl ti_atlas rfl ((bx_seti (bx_seti (bx_seti (bx_seti (bx_seti HZX.out 0 _) 1 _) 2 _) 3 _) 4 _).alloc _) rfl) rfl (LaidP.no rfl ?_ ?no1)
     ·exact (((((HG3.out.setCell hsw _).setCell hsw _).setCell hsw _).setCell hsw _).setCell hsw _).alloc _
     case no1 =>
      intro _ h2 h3
      obtain ⟨hc1, hc2⟩ := h3 cs HGO.out
      refine HER.out (HONE.out (by have := HPL.out; have := HN.out; omega) h2 (fun p hp => ?_))
      have : core p ∈ cs.map (coreL d dn) := by rw [← HPSC.out]; exact List.mem_map_of_mem hp
      obtain ⟨c, hcc, e⟩ := List.mem_map.1 this
      simp only [core, coreL, Prod.mk.injEq] at e
      have h4 := hc2 c hcc
      rw [← e.2.2.1, ← e.2.2.2]
      exact ⟨h4.2.1, h4.2.2⟩
end Mt
end Go.Proofs.YtlfoglklibhbnaaGreat
