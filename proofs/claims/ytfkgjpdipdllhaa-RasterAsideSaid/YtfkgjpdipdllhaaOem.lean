/- Chapter 19: the document's rows hold: owned, walked. -/
import Derived.Test.YtfkgjpdipdllhaaRf2m
import Derived.Test.YtfkgjpdipdllhaaRX4
import Derived.Test.YtfkgjpdipdllhaaRX2
set_option linter.unusedVariables false
set_option linter.unusedSimpArgs false
namespace Go.Proofs.Ytfkgjpdipdllhaa
open Go.RowKit
namespace Mt
open Ro
theorem rows6_one {w : World} {b : Nat} {t0 t1 t2 t3 t4 t5 : Int} (h : Blk w b [.int .i64 t0, .int .i64 t1, .int .i64 t2, .int .i64 t3, .int .i64 t4, .int .i64 t5]) (hI : ∀ x ∈ [t0, t1, t2, t3, t4, t5], I x) : Oi.IsRows 6 w (some ⟨b, 0, none⟩) 1 [[t0, t1, t2, t3, t4, t5]] := by
  refine ⟨rfl, by omega, ?_, fun _ => ⟨b, 0, rfl, ?_⟩⟩
  · intro z hz
    simp only [List.mem_cons, List.not_mem_nil, or_false] at hz
    subst hz
    exact ⟨rfl, hI⟩
  · intro i j hi hj
    obtain rfl : i = 0 := by omega
    match j, hj with
    | 0, _ => exact h.cell 0 rfl
    | 1, _ => exact h.cell 1 rfl
    | 2, _ => exact h.cell 2 rfl
    | 3, _ => exact h.cell 3 rfl
    | 4, _ => exact h.cell 4 rfl
    | 5, _ => exact h.cell 5 rfl
theorem row_blk {w : World} {b n : Nat} {l : List Int} (hl : l.length = n) (h : Blk w b (l.map (Value.int .i64))) (hI : ∀ x ∈ l, I x) (hn : n ≤ 1000) : IsRow .i64 w (some ⟨b, 0, none⟩) n l := by
  refine ⟨hl, by omega, fun x hx => wf_of_I (hI x hx), fun _ => ⟨b, 0, rfl, fun i hi => ?_⟩⟩
  rw [Nat.zero_add]
  refine h.cell i ?_
  rw [List.getElem?_map, List.getElem?_eq_getElem (by omega)]
  simp [List.getD, List.getElem?_eq_getElem (show i < l.length by omega)]
theorem owners_at (W H : Int) (a : Option Addr) (len cap n : Nat) (zs : List (List Int)) (L : List Int) (E : Int) (w : World) (hr : Oi.IsRows 6 w a len zs) (hl : len ≤ 1000) (eL : owL W H zs = L) (eE : owE W H zs = E) (en : L.length = n) :
    Calls Try.prog 9 #[.int .i64 W, .int .i64 H, .slice a len cap] w fun e w' => ∃ a' cap', e = .returned (.tuple #[.slice a' n cap', .int .i64 E]) ∧ IsRow .i64 w' a' n L ∧ Gr w w' := by
  subst eL eE en
  exact owners_any W H a len cap zs w hr hl
theorem count_at (a : Option Addr) (len cap n : Nat) (zs L : List Int) (w : World) (hr : IsRow .i64 w a len zs) (hl : len ≤ 1000000) (eL : cntL zs = L) (en : L.length = n) :
    Calls Try.prog 14 #[.slice a len cap] w fun e w' => ∃ a' cap', e = .returned (.slice a' n cap') ∧ IsRow .i64 w' a' n L ∧ Gr w w' := by
  subst eL en
  exact count_any a len cap zs w hr hl
theorem covers_at (x y t0 t1 t2 t3 t4 t5 E : Int) (b : Bool) (w : World) (hb : cov [t0, t1, t2, t3, t4, t5] x y = b) (hE : Sx.fi 66 0 [x, y, t0, t1, t2, t3, t4, t5] = E) : Calls Try.prog 16 #[.int .i64 x, .int .i64 y, .agg #[.int .i64 t0, .int .i64 t1, .int .i64 t2, .int .i64 t3, .int .i64 t4, .int .i64 t5]] w fun e w' => e = .returned (.tuple #[.bool b, .int .i64 E]) ∧ Gr w w' := by
  subst hb hE
  exact covers_raw x y t0 t1 t2 t3 t4 t5 w
theorem texel_raw (x y : Int) (w : World) : Calls Try.prog 11 #[.agg #[.int .i64 x, .int .i64 y]] w fun e w' => e = .returned (.tuple #[.int .i64 (Sx.fi 67 0 [x, y]), .int .i64 (Sx.fi 67 1 [x, y]), .int .i64 (Sx.fi 67 2 [x, y])]) ∧ Gr w w' :=
  Sx.flat_run (Sx.c_tex w) rfl [x, y] rfl trivial
theorem texel_at (x y u v E : Int) (w : World) (hu : Sx.fi 67 0 [x, y] = u) (hv : Sx.fi 67 1 [x, y] = v) (hE : Sx.fi 67 2 [x, y] = E) : Calls Try.prog 11 #[.agg #[.int .i64 x, .int .i64 y]] w fun e w' => e = .returned (.tuple #[.int .i64 u, .int .i64 v, .int .i64 E]) ∧ Gr w w' := by
  subst hu hv hE
  exact texel_raw x y w
theorem mem6 {a b c d e f x : Int} {p : Int → Prop} (ha : p a) (hb : p b) (hc : p c) (hd : p d) (he : p e) (hf : p f) (hx : x ∈ [a, b, c, d, e, f]) : p x := by
  simp only [List.mem_cons, List.not_mem_nil, or_false] at hx
  rcases hx with rfl | rfl | rfl | rfl | rfl | rfl <;> assumption
theorem I_small {x : Int} (h : -1000 ≤ x ∧ x ≤ 1000) : I x := ⟨by omega, by omega⟩
theorem I_all {l : List Int} (h : l.all (fun x => decide (-1000 ≤ x ∧ x ≤ 1000)) = true) : ∀ x ∈ l, I x := fun x hx => I_small (of_decide_eq_true (List.all_eq_true.1 h x hx))
set_option maxHeartbeats 8000000 in
set_option maxRecDepth 100000 in
theorem owned_any (w : World) : Calls Try.prog 18 #[] w fun e w' => e = .returned (.bool true) ∧ Gr w w' := by
  go_enter Try.func18, Try.ntmps18
  go_wp2_with fail
  refine (owners_at 3 2 _ 1 1 6 [[0, 0, 33, 0, 0, 17]] [0, 0, 0, 0, -1, -1] 0 _ (rows6_one (Blk.new rfl) (I_all (by decide))) (by omega) (by decide +kernel) (by decide +kernel) rfl).mono ?_
  rintro e w1 ⟨a1, cap1, rfl, hr1, g1⟩
  have R1 := Lib.hid hr1
  have G1 := Lib.hid (((Gr.refl w).alloc _).trans g1)
  clear hr1 g1
  go_wp2_with fail
  refine (owners_at 3 2 _ 1 1 6 [[20, 5, 30, 5, 20, 9]] [-1, 0, -1, -1, -1, -1] 0 _ (rows6_one (Blk.new rfl) (I_all (by decide))) (by omega) (by decide +kernel) (by decide +kernel) rfl).mono ?_
  rintro e w2 ⟨a2, cap2, rfl, hr2, g2⟩
  have R2 := Lib.hid hr2
  have R1 := Lib.hid ((R1.out.later ((Gr.refl _).alloc _)).later g2)
  have G2 := Lib.hid ((G1.out.alloc _).trans g2)
  clear hr2 g2
  go_wp2_with fail
  refine (owners_at 2 2 _ 1 1 0 [[0, 0, 33, 0, 0, 17]] [] 1 _ (rows6_one (Blk.new rfl) (I_all (by decide))) (by omega) (by decide +kernel) (by decide +kernel) rfl).mono ?_
  rintro e w3 ⟨a3, cap3, rfl, hr3, g3⟩
  have R1 := Lib.hid ((R1.out.later ((Gr.refl _).alloc _)).later g3)
  have R2 := Lib.hid ((R2.out.later ((Gr.refl _).alloc _)).later g3)
  have G3 := Lib.hid ((G2.out.alloc _).trans g3)
  clear hr3 g3
  go_wp2_with fail
  refine (texel_at 33 15 2 0 0 _ (by decide +kernel) (by decide +kernel) (by decide +kernel)).mono ?_
  rintro e w4 ⟨rfl, g4⟩
  have R1 := Lib.hid (R1.out.later g4)
  have R2 := Lib.hid (R2.out.later g4)
  have G4 := Lib.hid (G3.out.trans g4)
  clear g4
  go_wp2_with fail
  refine (covers_at 1 0 16 5 10 5 10 9 0 true _ (by decide +kernel) (by decide +kernel)).mono ?_
  rintro e w5 ⟨rfl, g5⟩
  have R1 := Lib.hid (R1.out.later g5)
  have R2 := Lib.hid (R2.out.later g5)
  have G5 := Lib.hid (G4.out.trans g5)
  clear g5
  go_wp2_with fail
  refine (Ow.same_any a1 _ 6 cap1 6 [0, 0, 0, 0, -1, -1] _ (R1.out.later ((Gr.refl _).alloc _)) (row_blk rfl (Blk.new rfl) (I_all (by decide)) (by omega))).mono ?_
  rintro e w6 ⟨rfl, g6⟩
  have R2 := Lib.hid ((R2.out.later ((Gr.refl _).alloc _)).later g6.gr)
  have G6 := Lib.hid ((G5.out.alloc _).trans g6.gr)
  clear g6
  go_wp2_with fail
  refine (Ow.same_any a2 _ 6 cap2 6 [-1, 0, -1, -1, -1, -1] _ (R2.out.later ((Gr.refl _).alloc _)) (row_blk rfl (Blk.new rfl) (I_all (by decide)) (by omega))).mono ?_
  rintro e w7 ⟨rfl, g7⟩
  have G7 := Lib.hid ((G6.out.alloc _).trans g7.gr)
  clear g7
  go_wp2_with fail
  refine (count_at _ 4 4 3 [-1, 2, 0, 2] [1, 0, 2] _ (row_blk rfl (Blk.new rfl) (I_all (by decide)) (by omega)) (by omega) (by decide +kernel) rfl).mono ?_
  rintro e w8 ⟨a4, cap4, rfl, hr4, g8⟩
  have R4 := Lib.hid hr4
  have G8 := Lib.hid ((G7.out.alloc _).trans g8)
  clear g8 hr4
  go_wp2_with fail
  refine (Ow.same_any a4 _ 3 cap4 3 [1, 0, 2] _ (R4.out.later ((Gr.refl _).alloc _)) (row_blk rfl (Blk.new rfl) (I_all (by decide)) (by omega))).mono ?_
  rintro e w9 ⟨rfl, g9⟩
  have G9 := Lib.hid ((G8.out.alloc _).trans g9.gr)
  clear g9
  go_wp2_with fail
  go_ret
  exact ⟨rfl, G9.out⟩
end Mt
end Go.Proofs.Ytfkgjpdipdllhaa
