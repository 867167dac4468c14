/- The walk of HitFirst. -/
import Derived.Test.YtbgcjbhaaelkhaaHf
import Derived.Test.YtbgcjbhaaelkhaaS8
import Derived.Test.YtbgcjbhaaelkhaaCn
set_option linter.unusedVariables false
namespace Go.Proofs.Ytbgcjbhaaelkhaa
open Go.RowKit
namespace Hf
theorem struck_any (w : World) : Calls Try.prog 22 #[] w fun e w' => e = .returned (.bool true) ∧ Gr w w' :=
  Sx.flat_run (Sx.c_struck w) rfl [] rfl trivial
theorem go_err : ∀ (l : List (Int × Bool)) (i : Nat) (at' : Int) (fd : Bool), (go i at' fd l).2.2 ≠ 0 → (go i at' fd l).1 = 0 ∧ (go i at' fd l).2.1 = false
  | [], i, at', fd, h => absurd rfl h
  | (e, b) :: l, i, at', fd, h => by
    unfold go at h ⊢
    split at h
    · rename_i he
      rw [if_pos he]
      split at h
      · rename_i hb; rw [if_pos hb]; exact go_err l _ _ _ h
      · rename_i hb; rw [if_neg hb]; exact go_err l _ _ _ h
    · rename_i he
      rw [if_neg he]; exact ⟨rfl, rfl⟩
/-- What is found: the place that was found, or the first one that is hit. -/
theorem go_ok : ∀ (l : List (Int × Bool)) (i : Nat) (at' : Int) (fd : Bool), (go i at' fd l).2.2 = 0 → (∀ j (hj : j < l.length), (l[j]).1 = 0) ∧
    (fd = true → (go i at' fd l).1 = at' ∧ (go i at' fd l).2.1 = true) ∧
    (fd = false → ((go i at' fd l).2.1 = false ∧ (go i at' fd l).1 = at' ∧ ∀ j (hj : j < l.length), (l[j]).2 = false) ∨
      ((go i at' fd l).2.1 = true ∧ ∃ j : Nat, (go i at' fd l).1 = (i : Int) + (j : Int) ∧ ∃ hj : j < l.length, (l[j]).2 = true ∧ ∀ j' (hj' : j' < j), (l[j']'(by omega)).2 = false))
  | [], i, at', fd, h => ⟨fun j hj => by simp at hj, fun hf => by subst hf; exact ⟨rfl, rfl⟩, fun hf => by subst hf; exact .inl ⟨rfl, rfl, fun j hj => by simp at hj⟩⟩
  | (e, b) :: l, i, at', fd, h => by
    unfold go at h ⊢
    by_cases he : e = 0
    · rw [if_pos he] at h ⊢
      by_cases hb : b = true ∧ fd = false
      · rw [if_pos hb] at h ⊢
        obtain ⟨h1, h2, h3⟩ := go_ok l (i + 1) i true h
        refine ⟨fun j hj => ?_, fun hf => (by rw [hb.2] at hf; cases hf), fun _ => .inr ⟨(h2 rfl).2, 0, by rw [(h2 rfl).1]; simp, by simp, hb.1, fun j' hj' => by omega⟩⟩
        cases j with
        | zero => exact he
        | succ j => simpa using h1 j (by simpa using hj)
      · rw [if_neg hb] at h ⊢
        obtain ⟨h1, h2, h3⟩ := go_ok l (i + 1) at' fd h
        refine ⟨fun j hj => ?_, h2, fun hf => ?_⟩
        · cases j with
          | zero => exact he
          | succ j => simpa using h1 j (by simpa using hj)
        · have hbf : b = false := by
            cases b
            · rfl
            · exact absurd ⟨rfl, hf⟩ hb
          rcases h3 hf with ⟨k1, k2, k3⟩ | ⟨k1, j, k2, hj, k3, k4⟩
          · refine .inl ⟨k1, k2, fun j hj => ?_⟩
            cases j with
            | zero => exact hbf
            | succ j => simpa using k3 j (by simpa using hj)
          · refine .inr ⟨k1, j + 1, by rw [k2]; push_cast; omega, by simp; omega, by simpa using k3, fun j' hj' => ?_⟩
            cases j' with
            | zero => exact hbf
            | succ j' => simpa using k4 j' (by omega)
    · rw [if_neg he] at h; exact absurd h he
end Hf
open Hf
set_option maxHeartbeats 4000000 in
set_option maxRecDepth 100000 in
theorem walk_HitFirst (w : World) (a0 a1 a2 : Int) (_ : I a0) (_ : I a1) (_ : I a2) (b0 b1 b2 : Int) (_ : I b0) (_ : I b1) (_ : I b2) (p : Option Addr) (len cap : Nat) (zs : List (List Int)) (hr : Oi.IsRows 9 w p len zs) (hn : p = none → cap = 0) :
    Calls Try.prog 6 #[.agg #[.int .i64 a0, .int .i64 a1, .int .i64 a2], .agg #[.int .i64 b0, .int .i64 b1, .int .i64 b2], .slice p len cap] w fun e w' => e = .returned (.bool true) ∧ Gr w w' := by
  clear hn
  have hm := hr.2.1
  by_cases hl : 30 < len
  · clear hr
    go_enter Try.func6, Try.ntmps6
    go_wp2
    go_ret
    exact ⟨rfl, ((Gr.refl w).alloc _).alloc _⟩
  have hz := hr.1
  have HR := Lib.hid hr
  have HZ := Lib.hid hz; clear hr hz
  go_enter Try.func6, Try.ntmps6
  go_wp2_with fail
  refine (first_any a0 a1 a2 b0 b1 b2 _ _ _ zs _ (by exact HR.out.later (((Gr.refl w).alloc _).alloc _))).mono ?_; rintro e w1 ⟨rfl, hg1⟩
  have gg1 : Gr w w1 := (((Gr.refl w).alloc _).alloc _).trans hg1
  have ba1 : Blk w1 w.heap.size [.int .i64 a0, .int .i64 a1, .int .i64 a2] := ((Blk.new (w := w) (vs := [.int .i64 a0, .int .i64 a1, .int .i64 a2]) rfl).alloc).gr hg1
  have bb1 : Blk w1 (w.heap.size + 1) [.int .i64 b0, .int .i64 b1, .int .i64 b2] := (Blk.new (vs := [.int .i64 b0, .int .i64 b1, .int .i64 b2]) (by simp)).gr hg1
  have herr := go_err (es a0 a1 a2 b0 b1 b2 zs) 0 0 false
  have hok := go_ok (es a0 a1 a2 b0 b1 b2 zs) 0 0 false
  have hel : (es a0 a1 a2 b0 b1 b2 zs).length = len := by unfold es; rw [List.length_map, HZ.out]
  have hget : ∀ j (hj : j < (es a0 a1 a2 b0 b1 b2 zs).length), (es a0 a1 a2 b0 b1 b2 zs)[j] = (he ([a0, a1, a2, b0, b1, b2] ++ zs.getD j []), hb ([a0, a1, a2, b0, b1, b2] ++ zs.getD j [])) := fun j hj => by
    have hj' : j < zs.length := by rw [HZ.out, ← hel]; exact hj
    simp [es, List.getD, List.getElem?_eq_getElem hj']
  generalize es a0 a1 a2 b0 b1 b2 zs = L at *
  obtain ⟨K, hK⟩ : ∃ K, (go 0 0 false L).1 = K := ⟨_, rfl⟩
  obtain ⟨F, hF⟩ : ∃ F, (go 0 0 false L).2.1 = F := ⟨_, rfl⟩
  obtain ⟨E, hE⟩ : ∃ E, (go 0 0 false L).2.2 = E := ⟨_, rfl⟩
  rw [hK, hF, hE] at herr hok
  rw [hK, hF, hE]
  clear hK hF hE hg1
  have G1 := Lib.hid gg1; have BA1 := Lib.hid ba1; have BB1 := Lib.hid bb1; have HGET := Lib.hid hget; have HEL := Lib.hid hel
  clear gg1 ba1 bb1 hget hel
  by_cases hE : E = 0
  · have HOK := Lib.hid (hok hE)
    clear hok herr
    subst hE
    have hall : ∀ j, j < len → he ([a0, a1, a2, b0, b1, b2] ++ zs.getD j []) = 0 := fun j hj => by
      have := HOK.out.1 j (by rw [HEL.out]; exact hj); rw [HGET.out j] at this; exact this
    have hcase : (F = false ∧ K = 0 ∧ ∀ j, j < len → hb ([a0, a1, a2, b0, b1, b2] ++ zs.getD j []) = false) ∨
        (F = true ∧ ∃ j : Nat, K = (j : Int) ∧ j < len ∧ hb ([a0, a1, a2, b0, b1, b2] ++ zs.getD j []) = true ∧ ∀ j', j' < j → hb ([a0, a1, a2, b0, b1, b2] ++ zs.getD j' []) = false) := by
      rcases HOK.out.2.2 rfl with ⟨k1, k2, k3⟩ | ⟨k1, j, k2, hj, k3, k4⟩
      · refine .inl ⟨k1, k2, fun j hj => ?_⟩
        have := k3 j (by rw [HEL.out]; exact hj); rw [HGET.out j] at this; exact this
      · refine .inr ⟨k1, j, by rw [k2]; simp, by rw [← HEL.out]; exact hj, by rw [HGET.out j hj] at k3; exact k3, fun j' hj' => ?_⟩
        have := k4 j' hj'; rw [HGET.out j'] at this; exact this
    clear HOK HGET HEL
    have HALL := Lib.hid hall; have HCASE := Lib.hid hcase
    clear hall
    have hk0 : 0 ≤ K := by rcases hcase with ⟨-, h, -⟩ | ⟨-, j, h, -⟩ <;> omega
    have hkf : (F = false ∧ (K != 0) = false) ∨ (F = true ∧ K < (len : Int)) := by
      rcases hcase with ⟨h, h2, -⟩ | ⟨h, j, h2, h3, -⟩
      · exact .inl ⟨h, by simpa using h2⟩
      · exact .inr ⟨h, by omega⟩
    clear hcase
    have main : ∀ (F' : Bool), F = F' → True := fun _ _ => trivial
    clear main
    rcases hkf with ⟨rfl, hk1⟩ | ⟨rfl, hk1⟩
    · go_wp2_with fail
      go_loopw [10] (fun v10 wr => ∃ k : Nat, k ≤ len ∧ v10 = .int .i64 k ∧ Gr w1 wr) (fun i _ => len - (intOf i).toNat)
      case atStart => exact ⟨0, Nat.zero_le _, rfl, Gr.refl _⟩
      case round =>
        obtain ⟨k, hk, rfl, hg⟩ := hrel
        by_cases hlt : k < len
        · obtain ⟨b, off, rfl, hcell⟩ := HR.out.2.2.2 (by omega)
          have hz9 : (zs.getD k []).length = 9 := by
            rw [List.getD_eq_getElem?_getD, List.getElem?_eq_getElem (by rw [HZ.out]; exact hlt)]
            exact (HR.out.2.2.1 _ (List.getElem_mem _)).1
          have hc : ∀ j, j < 9 → ∀ x : GW wr, x.val.cell? ⟨b, off + (k * 9 + j), none⟩ = some (.int .i64 ((zs.getD k []).getD j 0)) := fun j hj x => by
            have := hcell k j hlt hj
            rw [((G1.out.trans hg).trans x.gr).cell (lt_of_cell this)]; exact this
          have hEk := HALL.out k hlt
          have hHk : hb ([a0, a1, a2, b0, b1, b2] ++ zs.getD k []) = false := by
            rcases HCASE.out with ⟨-, -, h⟩ | ⟨h, -⟩
            · exact h k hlt
            · cases h
          generalize zs.getD k [] = z at hz9 hc hEk hHk
          obtain ⟨t0, l1, rfl, e1⟩ := Sx.cut1 hz9
          obtain ⟨t1, l2, rfl, e2⟩ := Sx.cut1 e1
          obtain ⟨t2, l3, rfl, e3⟩ := Sx.cut1 e2
          obtain ⟨t3, l4, rfl, e4⟩ := Sx.cut1 e3
          obtain ⟨t4, l5, rfl, e5⟩ := Sx.cut1 e4
          obtain ⟨t5, l6, rfl, e6⟩ := Sx.cut1 e5
          obtain ⟨t6, l7, rfl, e7⟩ := Sx.cut1 e6
          obtain ⟨t7, l8, rfl, e8⟩ := Sx.cut1 e7
          obtain ⟨t8, l9, rfl, e9⟩ := Sx.cut1 e8
          obtain rfl := Sx.cut0 e9
          clear hz9 e1 e2 e3 e4 e5 e6 e7 e8 e9
          have c0 : ∀ x : GW wr, x.val.cell? ⟨b, off + k * 9, none⟩ = some (.int .i64 t0) := hc 0 (by decide)
          have c1 : ∀ x : GW wr, x.val.cell? ⟨b, off + k * 9 + 1, none⟩ = some (.int .i64 t1) := hc 1 (by decide)
          have c2 : ∀ x : GW wr, x.val.cell? ⟨b, off + k * 9 + 2, none⟩ = some (.int .i64 t2) := hc 2 (by decide)
          have c3 : ∀ x : GW wr, x.val.cell? ⟨b, off + k * 9 + 3, none⟩ = some (.int .i64 t3) := hc 3 (by decide)
          have c4 : ∀ x : GW wr, x.val.cell? ⟨b, off + k * 9 + 4, none⟩ = some (.int .i64 t4) := hc 4 (by decide)
          have c5 : ∀ x : GW wr, x.val.cell? ⟨b, off + k * 9 + 5, none⟩ = some (.int .i64 t5) := hc 5 (by decide)
          have c6 : ∀ x : GW wr, x.val.cell? ⟨b, off + k * 9 + 6, none⟩ = some (.int .i64 t6) := hc 6 (by decide)
          have c7 : ∀ x : GW wr, x.val.cell? ⟨b, off + k * 9 + 7, none⟩ = some (.int .i64 t7) := hc 7 (by decide)
          have c8 : ∀ x : GW wr, x.val.cell? ⟨b, off + k * 9 + 8, none⟩ = some (.int .i64 t8) := hc 8 (by decide)
          have ba := BA1.out.gr hg
          have bb := BB1.out.gr hg
          have q0 := ba.gw 0 rfl; have q1 := ba.gw 1 rfl; have q2 := ba.gw 2 rfl
          have r0 := bb.gw 0 rfl; have r1 := bb.gw 1 rfl; have r2 := bb.gw 2 rfl
          have HG := Lib.hid hg
          clear hc hcell hg ba bb
          have hE0 : he [a0, a1, a2, b0, b1, b2, t0, t1, t2, t3, t4, t5, t6, t7, t8] = 0 := hEk
          have hHk' : hb [a0, a1, a2, b0, b1, b2, t0, t1, t2, t3, t4, t5, t6, t7, t8] = false := hHk
          clear hEk hHk
          go_wp2_with fail
          refine wp_region_gr (W := wr) (by kernel_rfl) (by kernel_rfl) (Gr.refl _) ?_
          repeat (go_big_quiet_step (fail))
          go_big_quiet_want; go_big_quiet_op
          go_big_quiet_call (exact Calls.cw (hit_any a0 a1 a2 b0 b1 b2 t0 t1 t2 t3 t4 t5 t6 t7 t8 _))
          repeat (go_big_quiet_step (fail))
          refine wpQuiet_nil ?_
          rintro _ ⟨x, rfl⟩
          have hg3 := x.gr
          generalize x.val = w3 at *
          clear x c0 c1 c2 c3 c4 c5 c6 c7 c8 q0 q1 q2 r0 r1 r2
          rw [hE0]
          generalize hb [a0, a1, a2, b0, b1, b2, t0, t1, t2, t3, t4, t5, t6, t7, t8] = H0 at *
          have HG3 := Lib.hid hg3; clear hg3 hE0
          subst hHk'
          go_wp2
          go_roundw
          case rel => exact ⟨k + 1, by omega, by go_num, HG.out.trans HG3.out⟩
          case measure => simp [intOf]; omega
        · have hkl : k = len := by omega
          subst hkl
          have HG := Lib.hid hg; clear hg
          go_wp2_with fail
          refine (struck_any _).mono ?_; rintro e w2 ⟨rfl, hg2⟩
          have HG2 := Lib.hid hg2; clear hg2
          go_wp2_with fail
          go_ret
          exact ⟨rfl, (G1.out.trans HG.out).trans HG2.out⟩
    · go_wp2_with fail
      go_loopw [10] (fun v10 wr => ∃ k : Nat, k ≤ len ∧ v10 = .int .i64 k ∧ Gr w1 wr) (fun i _ => len - (intOf i).toNat)
      case atStart => exact ⟨0, Nat.zero_le _, rfl, Gr.refl _⟩
      case round =>
        obtain ⟨k, hk, rfl, hg⟩ := hrel
        by_cases hlt : k < len
        · obtain ⟨b, off, rfl, hcell⟩ := HR.out.2.2.2 (by omega)
          have hz9 : (zs.getD k []).length = 9 := by
            rw [List.getD_eq_getElem?_getD, List.getElem?_eq_getElem (by rw [HZ.out]; exact hlt)]
            exact (HR.out.2.2.1 _ (List.getElem_mem _)).1
          have hc : ∀ j, j < 9 → ∀ x : GW wr, x.val.cell? ⟨b, off + (k * 9 + j), none⟩ = some (.int .i64 ((zs.getD k []).getD j 0)) := fun j hj x => by
            have := hcell k j hlt hj
            rw [((G1.out.trans hg).trans x.gr).cell (lt_of_cell this)]; exact this
          have hEk := HALL.out k hlt
          have hHk : (hb ([a0, a1, a2, b0, b1, b2] ++ zs.getD k []) = true → K ≤ (k : Int)) ∧ ((k : Int) = K → hb ([a0, a1, a2, b0, b1, b2] ++ zs.getD k []) = true) := by
            rcases HCASE.out with ⟨h, -⟩ | ⟨-, j, rfl, hj, h3, h4⟩
            · cases h
            · refine ⟨fun h => ?_, fun h => ?_⟩
              · apply Classical.byContradiction; intro hn
                rw [h4 k (by omega)] at h; cases h
              · have : k = j := by omega
                subst this; exact h3
          generalize zs.getD k [] = z at hz9 hc hEk hHk
          obtain ⟨t0, l1, rfl, e1⟩ := Sx.cut1 hz9
          obtain ⟨t1, l2, rfl, e2⟩ := Sx.cut1 e1
          obtain ⟨t2, l3, rfl, e3⟩ := Sx.cut1 e2
          obtain ⟨t3, l4, rfl, e4⟩ := Sx.cut1 e3
          obtain ⟨t4, l5, rfl, e5⟩ := Sx.cut1 e4
          obtain ⟨t5, l6, rfl, e6⟩ := Sx.cut1 e5
          obtain ⟨t6, l7, rfl, e7⟩ := Sx.cut1 e6
          obtain ⟨t7, l8, rfl, e8⟩ := Sx.cut1 e7
          obtain ⟨t8, l9, rfl, e9⟩ := Sx.cut1 e8
          obtain rfl := Sx.cut0 e9
          clear hz9 e1 e2 e3 e4 e5 e6 e7 e8 e9
          have c0 : ∀ x : GW wr, x.val.cell? ⟨b, off + k * 9, none⟩ = some (.int .i64 t0) := hc 0 (by decide)
          have c1 : ∀ x : GW wr, x.val.cell? ⟨b, off + k * 9 + 1, none⟩ = some (.int .i64 t1) := hc 1 (by decide)
          have c2 : ∀ x : GW wr, x.val.cell? ⟨b, off + k * 9 + 2, none⟩ = some (.int .i64 t2) := hc 2 (by decide)
          have c3 : ∀ x : GW wr, x.val.cell? ⟨b, off + k * 9 + 3, none⟩ = some (.int .i64 t3) := hc 3 (by decide)
          have c4 : ∀ x : GW wr, x.val.cell? ⟨b, off + k * 9 + 4, none⟩ = some (.int .i64 t4) := hc 4 (by decide)
          have c5 : ∀ x : GW wr, x.val.cell? ⟨b, off + k * 9 + 5, none⟩ = some (.int .i64 t5) := hc 5 (by decide)
          have c6 : ∀ x : GW wr, x.val.cell? ⟨b, off + k * 9 + 6, none⟩ = some (.int .i64 t6) := hc 6 (by decide)
          have c7 : ∀ x : GW wr, x.val.cell? ⟨b, off + k * 9 + 7, none⟩ = some (.int .i64 t7) := hc 7 (by decide)
          have c8 : ∀ x : GW wr, x.val.cell? ⟨b, off + k * 9 + 8, none⟩ = some (.int .i64 t8) := hc 8 (by decide)
          have ba := BA1.out.gr hg
          have bb := BB1.out.gr hg
          have q0 := ba.gw 0 rfl; have q1 := ba.gw 1 rfl; have q2 := ba.gw 2 rfl
          have r0 := bb.gw 0 rfl; have r1 := bb.gw 1 rfl; have r2 := bb.gw 2 rfl
          have HG := Lib.hid hg
          clear hc hcell hg ba bb
          have hE0 : he [a0, a1, a2, b0, b1, b2, t0, t1, t2, t3, t4, t5, t6, t7, t8] = 0 := hEk
          have hHk' : (hb [a0, a1, a2, b0, b1, b2, t0, t1, t2, t3, t4, t5, t6, t7, t8] = true → K ≤ (k : Int)) ∧ ((k : Int) = K → hb [a0, a1, a2, b0, b1, b2, t0, t1, t2, t3, t4, t5, t6, t7, t8] = true) := hHk
          clear hEk hHk
          go_wp2_with fail
          refine wp_region_gr (W := wr) (by kernel_rfl) (by kernel_rfl) (Gr.refl _) ?_
          repeat (go_big_quiet_step (fail))
          go_big_quiet_want; go_big_quiet_op
          go_big_quiet_call (exact Calls.cw (hit_any a0 a1 a2 b0 b1 b2 t0 t1 t2 t3 t4 t5 t6 t7 t8 _))
          repeat (go_big_quiet_step (fail))
          refine wpQuiet_nil ?_
          rintro _ ⟨x, rfl⟩
          have hg3 := x.gr
          generalize x.val = w3 at *
          clear x c0 c1 c2 c3 c4 c5 c6 c7 c8 q0 q1 q2 r0 r1 r2
          rw [hE0]
          generalize hb [a0, a1, a2, b0, b1, b2, t0, t1, t2, t3, t4, t5, t6, t7, t8] = H0 at *
          have HG3 := Lib.hid hg3; clear hg3 hE0
          cases H0
          · have hne : ((k : Int) == K) = false := by
              cases hq : ((k : Int) == K)
              · rfl
              · have := hHk'.2 (by simpa using hq); cases this
            clear hHk'
            go_wp2
            go_roundw
            case rel => exact ⟨k + 1, by omega, by go_num, HG.out.trans HG3.out⟩
            case measure => simp [intOf]; omega
          · have hle := hHk'.1 rfl
            clear hHk'
            cases hq : ((k : Int) == K)
            · go_wp2
              go_roundw
              case rel => exact ⟨k + 1, by omega, by go_num, HG.out.trans HG3.out⟩
              case measure => simp [intOf]; omega
            · go_wp2
              go_roundw
              case rel => exact ⟨k + 1, by omega, by go_num, HG.out.trans HG3.out⟩
              case measure => simp [intOf]; omega
        · have hkl : k = len := by omega
          subst hkl
          have HG := Lib.hid hg; clear hg
          go_wp2_with fail
          refine (struck_any _).mono ?_; rintro e w2 ⟨rfl, hg2⟩
          have HG2 := Lib.hid hg2; clear hg2
          go_wp2_with fail
          go_ret
          exact ⟨rfl, (G1.out.trans HG.out).trans HG2.out⟩
  · have hE1 : (E != 0) = true := by simpa using hE
    obtain ⟨rfl, rfl⟩ := herr hE
    clear hok HGET HEL
    go_wp2_with fail
    refine (struck_any _).mono ?_; rintro e w2 ⟨rfl, hg2⟩
    have HG2 := Lib.hid hg2; clear hg2
    go_wp2_with fail
    go_ret
    exact ⟨rfl, G1.out.trans HG2.out⟩
end Go.Proofs.Ytbgcjbhaaelkhaa
