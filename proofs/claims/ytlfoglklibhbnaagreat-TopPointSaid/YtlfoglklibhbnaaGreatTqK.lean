/- Parts of the proof of TopPoint. No condition of their own. -/
import Derived.Test.YtlfoglklibhbnaaGreatTpI
import Derived.Test.YtlfoglklibhbnaaGreatTqJ
import Derived.KernelRfl
import Derived.Test.YtlfoglklibhbnaaGreatTqI
set_option linter.unusedVariables false
set_option linter.unusedSimpArgs false
namespace Go.Proofs.YtlfoglklibhbnaaGreat.Sx
open Go.RowKit
theorem minI (x y : Int) : (if decide (y < x) = true then y else x) = min x y := by simp only [decide_eq_true_eq]; omega
theorem maxI (x y : Int) : (if decide (x < y) = true then y else x) = max x y := by simp only [decide_eq_true_eq]; omega
structure Hv (x y x0 x1 y0 y1 h m l : Int) : Prop where
 hh : 0 ≤ h ∧ h ≤ 1000000000000000000
 hm : 0 ≤ m ∧ m ≤ 1999999998000000000
 hl : 0 ≤ l ∧ l ≤ 999999998000000001
 e : x * y = 1000000000000000000 * h + 1000000000 * m + l
end Go.Proofs.YtlfoglklibhbnaaGreat.Sx
namespace Go.Proofs.YtlfoglklibhbnaaGreat.Sx
open Go.RowKit
theorem us_16 {x : Int} (h0 : 0 ≤ x) (h1 : x ≤ 255) : us (16 * x) = true ∧ us (16 * x + 16) = true := by
 unfold us; constructor <;> (simp; omega)
theorem cvr_iff {x y : Int} {l : List Int} : cvr (x :: y :: l) = true ↔ (0 ≤ x ∧ x ≤ 255 ∧ 0 ≤ y ∧ y ≤ 255) := by
 unfold cvr
 simp only [List.getD_cons_zero, List.getD_cons_succ, Bool.and_eq_true, decide_eq_true_eq]
theorem cvr_no {x y : Int} {l : List Int} (h : ¬ (0 ≤ x ∧ x ≤ 255 ∧ 0 ≤ y ∧ y ≤ 255)) : cvr (x :: y :: l) = false := by
 rw [← Bool.not_eq_true, cvr_iff]; exact h
def R_cov : AV := (.tuple [(.bool (.ite (.ite (.lt (.ite (.lt (.var 1) (.var 0)) (.var 1) (.var 0)) (.lit 0)) (.blit true) (.lt (.lit 255) (.ite (.lt (.var 0) (.var 1)) (.var 1) (.var 0)))) (.blit false) (.ite (.app 56 0 (.cons (.var 2) (.cons (.var 3) (.cons (.var 4) (.cons (.var 5) (.cons (.var 6) (.cons (.var 7) .nil))))))) (.app 61 0 (.cons (.mul (.lit 16) (.var 0)) (.cons (.mul (.lit 16) (.var 1)) (.cons (.lit 16) (.cons (.var 2) (.cons (.var 3) (.cons (.var 4) (.cons (.var 5) (.cons (.var 6) (.cons (.var 7) .nil)))))))))) (.blit false)))), (.int (.ite (.ite (.lt (.ite (.lt (.var 1) (.var 0)) (.var 1) (.var 0)) (.lit 0)) (.blit true) (.lt (.lit 255) (.ite (.lt (.var 0) (.var 1)) (.var 1) (.var 0)))) (.lit 5) (.ite (.app 56 0 (.cons (.var 2) (.cons (.var 3) (.cons (.var 4) (.cons (.var 5) (.cons (.var 6) (.cons (.var 7) .nil))))))) (.app 61 0 (.cons (.mul (.lit 16) (.var 0)) (.cons (.mul (.lit 16) (.var 1)) (.cons (.lit 16) (.cons (.var 2) (.cons (.var 3) (.cons (.var 4) (.cons (.var 5) (.cons (.var 6) (.cons (.var 7) .nil)))))))))) (.lit 1))))])
theorem k_cov : acall cm4 20 false 34 [] (argsG [.i, .i, .g 6] 0 0) (heapG [.i, .i, .g 6] 0) = .leaf (R_cov, heapG [.i, .i, .g 6] 0) := by kernel_rfl
set_option maxHeartbeats 4000000 in
set_option maxRecDepth 20000 in
theorem v_cov : ∀ l : List Int, l.length = lenSh [.i, .i, .g 6] → Any l → valOf (E.at l) R_cov = some (tupleV (resV E 66 l [.b, .i] 0 0)) := by
 intro l hl hG
 have h0 : l.length = 8 := hl
 clear hl
 obtain ⟨a0, l1, rfl, h1⟩ := cut1 h0
 clear h0
 obtain ⟨a1, l2, rfl, h2⟩ := cut1 h1
 clear h1
 obtain ⟨a2, l3, rfl, h3⟩ := cut1 h2
 clear h2
 obtain ⟨a3, l4, rfl, h4⟩ := cut1 h3
 clear h3
 obtain ⟨a4, l5, rfl, h5⟩ := cut1 h4
 clear h4
 obtain ⟨a5, l6, rfl, h6⟩ := cut1 h5
 clear h5
 obtain ⟨a6, l7, rfl, h7⟩ := cut1 h6
 clear h6
 obtain ⟨a7, l8, rfl, h8⟩ := cut1 h7
 clear h7
 obtain rfl := cut0 h8
 clear h8
 by_cases g : 0 ≤ a0 ∧ a0 ≤ 255 ∧ 0 ≤ a1 ∧ a1 ≤ 255
 ·have c : cvr [a0, a1, a2, a3, a4, a5, a6, a7] = true := cvr_iff.2 g
  have u0 := us_16 g.1 g.2.1
  have u1 := us_16 g.2.2.1 g.2.2.2
  have w0 : IntKind.i64.wrap (16 * a0) = 16 * a0 := wr (by omega)
  have w1 : IntKind.i64.wrap (16 * a1) = 16 * a1 := wr (by omega)
  have s : sqg [16 * a0, 16 * a1, 16, a2, a3, a4, a5, a6, a7] = true := by simp [sqg, u0.1, u0.2, u1.1, u1.2]
  have e : sqe [16 * a0, 16 * a1, 16, a2, a3, a4, a5, a6, a7] = if rgt [a2, a3, a4, a5, a6, a7] then 0 else 1 := by unfold sqe; rw [s]; rfl
  have gd : (decide ((if decide (a1 < a0) = true then a1 else a0) < 0) || decide (255 < if decide (a0 < a1) = true then a1 else a0)) = false := by rw [minI, maxI]; simp; omega
  simp only [R_cov, valOf, vals1, valInts, val1, tupleV, resV, valsI, den, bt1, bt2, bt3, bt4, Env.at, E, fb, fi, List.getD_cons_zero, List.getD_cons_succ, List.all_cons, List.all_nil, Bool.and_true, Bool.and_assoc, Option.map_some, List.all_append, gd, w0, w1, s, e, c, covL, List.drop_succ_cons, List.drop_zero, List.getD_cons_zero, List.getD_cons_succ]
  generalize sqB [16 * a0, 16 * a1, 16, a2, a3, a4, a5, a6, a7] = sb
  cases rgt [a2, a3, a4, a5, a6, a7] <;> cases sb <;> rfl
 ·have c : cvr [a0, a1, a2, a3, a4, a5, a6, a7] = false := cvr_no g
  have gd : (decide ((if decide (a1 < a0) = true then a1 else a0) < 0) || decide (255 < if decide (a0 < a1) = true then a1 else a0)) = true := by rw [minI, maxI]; simp; omega
  simp only [R_cov, valOf, vals1, valInts, val1, tupleV, resV, valsI, den, bt1, bt2, bt3, bt4, Env.at, E, fb, fi, List.getD_cons_zero, List.getD_cons_succ, List.all_cons, List.all_nil, Bool.and_true, Bool.and_assoc, Option.map_some, List.all_append, gd, c]
  rfl
theorem c_cov (W : World) : Flat Tryz.prog E W Any 34 [.i, .i, .g 6] fun l => tupleV (resV E 66 l [.b, .i] 0 0) := flat_val (cm4_ok W) k_cov v_cov
def R_tex : AV := (.tuple [(.int (.ite (.ite (.lt (.ite (.lt (.var 1) (.var 0)) (.var 1) (.var 0)) (.lit 0)) (.blit true) (.le (.lit 4096) (.ite (.lt (.var 0) (.var 1)) (.var 1) (.var 0)))) (.lit 0) (.quo (.var 0) (.lit 16)))), (.int (.ite (.ite (.lt (.ite (.lt (.var 1) (.var 0)) (.var 1) (.var 0)) (.lit 0)) (.blit true) (.le (.lit 4096) (.ite (.lt (.var 0) (.var 1)) (.var 1) (.var 0)))) (.lit 0) (.quo (.var 1) (.lit 16)))), (.int (.ite (.ite (.lt (.ite (.lt (.var 1) (.var 0)) (.var 1) (.var 0)) (.lit 0)) (.blit true) (.le (.lit 4096) (.ite (.lt (.var 0) (.var 1)) (.var 1) (.var 0)))) (.lit 5) (.lit 0)))])
theorem k_tex : acall cm4 20 false 15 [] (argsG [.g 2] 0 0) (heapG [.g 2] 0) = .leaf (R_tex, heapG [.g 2] 0) := by kernel_rfl
set_option maxHeartbeats 4000000 in
set_option maxRecDepth 20000 in
theorem v_tex : ∀ l : List Int, l.length = lenSh [.g 2] → Any l → valOf (E.at l) R_tex = some (tupleV (resV E 67 l [.i, .i, .i] 0 0)) := by
 intro l hl hG
 have h0 : l.length = 2 := hl
 clear hl
 obtain ⟨a0, l1, rfl, h1⟩ := cut1 h0
 clear h0
 obtain ⟨a1, l2, rfl, h2⟩ := cut1 h1
 clear h1
 obtain rfl := cut0 h2
 clear h2
 by_cases g : 0 ≤ a0 ∧ a0 ≤ 4095 ∧ 0 ≤ a1 ∧ a1 ≤ 4095
 ·have c : tok [a0, a1] = true := by simp [tok]; omega
  have gd : (decide ((if decide (a1 < a0) = true then a1 else a0) < 0) || decide (4096 ≤ if decide (a0 < a1) = true then a1 else a0)) = false := by rw [minI, maxI]; simp; omega
  have t0 : a0.tdiv 16 = a0 / 16 := Int.tdiv_eq_ediv_of_nonneg g.1
  have t1 : a1.tdiv 16 = a1 / 16 := Int.tdiv_eq_ediv_of_nonneg g.2.2.1
  have w0 : IntKind.i64.wrap (a0 / 16) = a0 / 16 := wr (by omega)
  have w1 : IntKind.i64.wrap (a1 / 16) = a1 / 16 := wr (by omega)
  simp only [R_tex, valOf, vals1, valInts, val1, tupleV, resV, valsI, den, bt1, bt2, bt3, bt4, Env.at, E, fb, fi, List.getD_cons_zero, List.getD_cons_succ, List.all_cons, List.all_nil, Bool.and_true, Bool.and_assoc, Option.map_some, List.all_append, gd, t0, t1, w0, w1, c]
  rfl
 ·have c : tok [a0, a1] = false := by rw [← Bool.not_eq_true]; simp only [tok, List.getD_cons_zero, List.getD_cons_succ, Bool.and_eq_true, decide_eq_true_eq]; exact g
  have gd : (decide ((if decide (a1 < a0) = true then a1 else a0) < 0) || decide (4096 ≤ if decide (a0 < a1) = true then a1 else a0)) = true := by rw [minI, maxI]; simp; omega
  simp only [R_tex, valOf, vals1, valInts, val1, tupleV, resV, valsI, den, bt1, bt2, bt3, bt4, Env.at, E, fb, fi, List.getD_cons_zero, List.getD_cons_succ, List.all_cons, List.all_nil, Bool.and_true, Bool.and_assoc, Option.map_some, List.all_append, gd, c]
  rfl
theorem c_tex (W : World) : Flat Tryz.prog E W Any 15 [.g 2] fun l => tupleV (resV E 67 l [.i, .i, .i] 0 0) := flat_val (cm4_ok W) k_tex v_tex
end Go.Proofs.YtlfoglklibhbnaaGreat.Sx
namespace Go.Proofs.YtlfoglklibhbnaaGreat
open Go.RowKit
namespace Mt
def cov (z : List Int) (x y : Int) : Bool := Sx.cvr (x :: y :: z) && (Sx.rgt z && Sx.sqB (Sx.covL (x :: y :: z)))
def owN (zs : List (List Int)) (x y : Int) : Nat → Int
 | 0 => -1
 | i + 1 => if owN zs x y i = -1 ∧ cov (zs.getD i []) x y = true then (i : Int) else owN zs x y i
def outL (zs : List (List Int)) (w h n : Nat) : List Int := (List.range (w * h)).map fun at_ => owN zs (at_ % w : Nat) (at_ / w : Nat) n
theorem outL_len (zs : List (List Int)) (w h n : Nat) : (outL zs w h n).length = w * h := by simp [outL]
theorem outL_get {zs : List (List Int)} {w h n j : Nat} (hj : j < w * h) : (outL zs w h n)[j]? = some (owN zs (j % w : Nat) (j / w : Nat) n) := by
 simp [outL, List.getElem?_map, List.getElem?_range hj]
theorem owN_bd (zs : List (List Int)) (x y : Int) : ∀ n : Nat, -1 ≤ owN zs x y n ∧ owN zs x y n < n
 | 0 => by simp [owN]
 | n + 1 => by
  obtain ⟨h1, h2⟩ := owN_bd zs x y n
  simp only [owN]
  split <;> omega
def upd (z : List Int) (i w x y : Nat) (L : List Int) : List Int := if L.getD (y * w + x) 0 = -1 ∧ cov z x y = true then L.set (y * w + x) i else L
def rnd (z : List Int) (i w : Nat) (X0 Y0 nx : Nat) (L : List Int) : Nat → List Int
 | 0 => L
 | k + 1 => upd z i w (X0 + k % nx) (Y0 + k / nx) (rnd z i w X0 Y0 nx L k)
theorem rnd_len (z : List Int) (i w X0 Y0 nx : Nat) (L : List Int) : ∀ k, (rnd z i w X0 Y0 nx L k).length = L.length
 | 0 => rfl
 | k + 1 => by
  have := rnd_len z i w X0 Y0 nx L k
  simp only [rnd, upd]
  split <;> simp [this]
def seen (w X0 Y0 nx : Nat) (k j : Nat) : Bool := (List.range k).any fun k' => (Y0 + k' / nx) * w + (X0 + k' % nx) == j
theorem seen_succ (w X0 Y0 nx k j : Nat) : seen w X0 Y0 nx (k + 1) j = (seen w X0 Y0 nx k j || ((Y0 + k / nx) * w + (X0 + k % nx) == j)) := by
 unfold seen
 rw [List.range_succ, List.any_append]
 simp
theorem rnd_get (z : List Int) (i w h X0 Y0 nx ny : Nat) (L : List Int) (f : Nat → Int) (hw : ∀ k, k < nx * ny → X0 + k % nx < w) (hL : ∀ j, j < w * h → L[j]? = some (f j)) (hlen : L.length = w * h) (hh : ∀ k, k < nx * ny → Y0 + k / nx < h) :
  ∀ k, k ≤ nx * ny → ∀ j, j < w * h → (rnd z i w X0 Y0 nx L k)[j]? = some (if seen w X0 Y0 nx k j = true ∧ f j = -1 ∧ cov z (j % w : Nat) (j / w : Nat) = true then (i : Int) else f j)
 | 0, _, j, hj => by simp [rnd, seen, hL j hj]
 | k + 1, hk, j, hj => by
  have ih := rnd_get z i w h X0 Y0 nx ny L f hw hL hlen hh k (by omega)
  have ihj := ih j hj
  have hx := hw k (by omega)
  have hy := hh k (by omega)
  have hlr := rnd_len z i w X0 Y0 nx L k
  simp only [rnd, upd]
  rw [seen_succ]
  generalize rnd z i w X0 Y0 nx L k = R at *
  generalize X0 + k % nx = x at *
  generalize Y0 + k / nx = y at *
  have hp : y * w + x < w * h := by
   have h1 : (y + 1) * w ≤ h * w := Nat.mul_le_mul_right _ (by omega)
   rw [Nat.add_mul, Nat.mul_comm h w] at h1; omega
  have e1 : (y * w + x) % w = x := by rw [Nat.add_comm, Nat.add_mul_mod_self_right, Nat.mod_eq_of_lt hx]
  have e2 : (y * w + x) / w = y := by rw [Nat.add_comm, Nat.add_mul_div_right _ _ (by omega), Nat.div_eq_of_lt hx, Nat.zero_add]
  have ihp := ih (y * w + x) hp
  rw [e1, e2] at ihp
  have hg : R.getD (y * w + x) 0 = if seen w X0 Y0 nx k (y * w + x) = true ∧ f (y * w + x) = -1 ∧ cov z x y = true then (i : Int) else f (y * w + x) := by
   rw [List.getD_eq_getElem?_getD, ihp]; rfl
  rw [hg]
  by_cases e : y * w + x = j
  ·subst e
   rw [e1, e2, beq_self_eq_true, Bool.or_true]
   cases hs : seen w X0 Y0 nx k (y * w + x) <;> cases hc : cov z x y <;> by_cases hf : f (y * w + x) = -1
   all_goals rw [hs, hc] at ihp
   all_goals simp [hf] at ihp ⊢
   all_goals first
    | exact ihp
    | (rw [List.getElem?_set_self (by omega)])
    | skip
   all_goals first
    | done
    | (rw [if_neg (by omega)]; exact ihp)
  ·have hb : (y * w + x == j) = false := by simpa using e
   rw [hb, Bool.or_false]
   have hs : ∀ (c : Prop) [Decidable c], (if c then R.set (y * w + x) (i : Int) else R)[j]? = R[j]? := by
    intro c _
    split
    ·rw [List.getElem?_set_ne e]
    ·rfl
   rw [hs]; exact ihj
theorem cov_box {t0 t1 t2 t3 t4 t5 x y : Int} (h : cov [t0, t1, t2, t3, t4, t5] x y = true) : (0 ≤ x ∧ x ≤ 255 ∧ 0 ≤ y ∧ y ≤ 255) ∧ mn3 t0 t2 t4 ≤ 16 * x + 16 ∧ mn3 t1 t3 t5 ≤ 16 * y + 16 ∧ 16 * x ≤ mx3 t0 t2 t4 ∧ 16 * y ≤ mx3 t1 t3 t5 := by
 unfold cov at h
 simp only [Bool.and_eq_true] at h
 obtain ⟨h1, h2, h3⟩ := h
 refine ⟨Sx.cvr_iff.1 h1, ?_⟩
 unfold Sx.sqB Sx.sqBox Sx.covL at h3
 simp only [Bool.and_eq_true, decide_eq_true_eq, List.getD_cons_zero, List.getD_cons_succ, List.drop_succ_cons, List.drop_zero] at h3
 obtain ⟨⟨⟨a, b⟩, c, d⟩, _⟩ := h3
 exact ⟨a, b, c, d⟩
theorem rnd_all {zs : List (List Int)} {i w h X0 Y0 nx ny : Nat} {t0 t1 t2 t3 t4 t5 : Int} (hz : zs.getD i [] = [t0, t1, t2, t3, t4, t5]) (hX : (X0 : Int) = max (mn3 t0 t2 t4 / 16 - 1) 0) (hY : (Y0 : Int) = max (mn3 t1 t3 t5 / 16 - 1) 0)
  (hnx : (X0 : Int) + nx = mx3 t0 t2 t4 / 16 + 1) (hny : (Y0 : Int) + ny = mx3 t1 t3 t5 / 16 + 1) (hw : X0 + nx ≤ w) (hh : Y0 + ny ≤ h) :
  rnd [t0, t1, t2, t3, t4, t5] i w X0 Y0 nx (outL zs w h i) (nx * ny) = outL zs w h (i + 1) := by
 apply List.ext_getElem?
 intro j
 by_cases hj : j < w * h
 ·rw [rnd_get _ i w h X0 Y0 nx ny (outL zs w h i) (fun j => owN zs (j % w : Nat) (j / w : Nat) i) ?_ (fun j hj => outL_get hj) (outL_len _ _ _ _) ?_ _ (Nat.le_refl _) j hj, outL_get hj]
  ·congr 1
   simp only [owN]
   rw [hz]
   cases hc : cov [t0, t1, t2, t3, t4, t5] (j % w : Nat) (j / w : Nat)
   ·simp
   ·obtain ⟨⟨g0, g1, g2, g3⟩, g4, g5, g6, g7⟩ := cov_box hc
    have hs : seen w X0 Y0 nx (nx * ny) j = true := by
     unfold seen
     rw [List.any_eq_true]
     have x1 : X0 ≤ j % w := by omega
     have x2 : j % w < X0 + nx := by omega
     have y1 : Y0 ≤ j / w := by omega
     have y2 : j / w < Y0 + ny := by omega
     refine ⟨(j / w - Y0) * nx + (j % w - X0), ?_, ?_⟩
     ·rw [List.mem_range]
      have h1 : (j / w - Y0 + 1) * nx ≤ ny * nx := Nat.mul_le_mul_right _ (by omega)
      rw [Nat.add_mul, Nat.mul_comm ny nx] at h1; omega
     ·have e1 : ((j / w - Y0) * nx + (j % w - X0)) % nx = j % w - X0 := by rw [Nat.add_comm, Nat.add_mul_mod_self_right, Nat.mod_eq_of_lt (by omega)]
      have e2 : ((j / w - Y0) * nx + (j % w - X0)) / nx = j / w - Y0 := by rw [Nat.add_comm, Nat.add_mul_div_right _ _ (by omega), Nat.div_eq_of_lt (by omega), Nat.zero_add]
      rw [e1, e2, show Y0 + (j / w - Y0) = j / w by omega, show X0 + (j % w - X0) = j % w by omega, Nat.div_add_mod' j w]
      exact beq_self_eq_true _
    rw [hs]; simp
  ·intro k hk
   have : 0 < nx := by
    rcases Nat.eq_zero_or_pos nx with h | h
    ·rw [h, Nat.zero_mul] at hk; omega
    ·exact h
   have := Nat.mod_lt k this
   omega
  ·intro k hk
   have : k / nx < ny := Nat.div_lt_of_lt_mul hk
   omega
 ·rw [List.getElem?_eq_none (by rw [rnd_len, outL_len]; omega), List.getElem?_eq_none (by rw [outL_len]; omega)]
def badT (W H : Int) (z : List Int) : Bool := (oddB W H (z.getD 0 0) (z.getD 1 0) || (oddB W H (z.getD 2 0) (z.getD 3 0) || oddB W H (z.getD 4 0) (z.getD 5 0))) || !Sx.rgt z
def sizB (W H : Int) : Bool := decide (1 ≤ min W H) && decide (max W H ≤ 256)
def owE (W H : Int) (zs : List (List Int)) : Int := if sizB W H = true ∧ zs.any (badT W H) = false then 0 else 1
def owL (W H : Int) (zs : List (List Int)) : List Int := if owE W H zs = 0 then outL zs W.toNat H.toNat zs.length else []
end Mt
end Go.Proofs.YtlfoglklibhbnaaGreat
