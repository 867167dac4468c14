/- The walk of SlabDoes: its head by hand, the rest by the reckoner. -/
import Derived.Test.YtfpnkcmplmkghaaSdp
import Derived.Test.YtfpnkcmplmkghaaSz
import Derived.Test.YtfpnkcmplmkghaaTz
import Derived.KernelRfl
import Derived.WalkKit
import Derived.WalkSpells
import Derived.Lib.Hide
set_option linter.unusedVariables false
set_option linter.unusedSimpArgs false
namespace Go.Proofs.Ytfpnkcmplmkghaa
open Go.RowKit
namespace Sx

def e_Sd : SE := (.ite (.app 20 0 .nil) (.ite (.ite (.app 54 0 (.cons (.var 0) (.cons (.var 1) (.cons (.var 2) (.cons (.var 3) (.cons (.var 4) (.cons (.var 5) (.cons (.var 6) (.cons (.var 7) (.cons (.var 8) (.cons (.var 9) (.cons (.var 10) (.cons (.var 11) .nil))))))))))))) (.app 54 0 (.cons (.var 0) (.cons (.var 1) (.cons (.var 2) (.cons (.var 3) (.cons (.var 4) (.cons (.var 5) (.cons (.var 6) (.cons (.var 7) (.cons (.var 8) (.cons (.var 9) (.cons (.var 10) (.cons (.var 11) .nil))))))))))))) (.no (.app 54 0 (.cons (.var 0) (.cons (.var 1) (.cons (.var 2) (.cons (.var 3) (.cons (.var 4) (.cons (.var 5) (.cons (.var 6) (.cons (.var 7) (.cons (.var 8) (.cons (.var 9) (.cons (.var 10) (.cons (.var 11) .nil))))))))))))))) (.ite (.ite (.app 53 0 (.cons (.var 6) (.cons (.var 7) (.cons (.var 8) (.cons (.var 9) (.cons (.var 10) (.cons (.var 11) .nil))))))) (.app 53 0 (.cons (.var 6) (.cons (.var 7) (.cons (.var 8) (.cons (.var 9) (.cons (.var 10) (.cons (.var 11) .nil))))))) (.no (.app 53 0 (.cons (.var 6) (.cons (.var 7) (.cons (.var 8) (.cons (.var 9) (.cons (.var 10) (.cons (.var 11) .nil))))))))) (.ite (.app 63 0 (.cons (.var 6) (.cons (.var 7) (.cons (.var 8) (.cons (.var 9) (.cons (.var 10) (.cons (.var 11) (.cons (.var 0) (.cons (.var 1) (.cons (.var 2) .nil)))))))))) (.app 63 0 (.cons (.var 6) (.cons (.var 7) (.cons (.var 8) (.cons (.var 9) (.cons (.var 10) (.cons (.var 11) (.cons (.var 0) (.cons (.var 1) (.cons (.var 2) .nil)))))))))) (.no (.app 63 0 (.cons (.var 6) (.cons (.var 7) (.cons (.var 8) (.cons (.var 9) (.cons (.var 10) (.cons (.var 11) (.cons (.var 0) (.cons (.var 1) (.cons (.var 2) .nil)))))))))))) (.blit false)) (.blit false)) (.blit false))
theorem k_Sd : run_Sd.map (lookT 10) = .leaf (true, some (.bool e_Sd)) := by kernel_rfl
theorem of_rel (zs : List (List Int)) (σ : Env) (ρ : Nat → Option Nat) (h : ∀ i : Fin 6, σ.v (18 + i) = (Sz.ob zs).getD i 0) (h2 : σ.v 24 = Sz.oe zs) : rel σ ρ (.tuple [.agg [.int (.var 18), .int (.var 19), .int (.var 20), .int (.var 21), .int (.var 22), .int (.var 23)], .int (.var 24)]) (.tuple #[Sz.obV zs, .int .i64 (Sz.oe zs)]) := by
  have hl : Sz.obV zs = .agg #[.int .i64 (σ.v 18), .int .i64 (σ.v 19), .int .i64 (σ.v 20), .int .i64 (σ.v 21), .int .i64 (σ.v 22), .int .i64 (σ.v 23)] := by
    rw [show σ.v 18 = _ from h 0, show σ.v 19 = _ from h 1, show σ.v 20 = _ from h 2, show σ.v 21 = _ from h 3, show σ.v 22 = _ from h 4, show σ.v 23 = _ from h 5]
    unfold Sz.obV Sz.ob
    split <;> rfl
  rw [hl, ← h2]
  exact ⟨_, rfl, _, _, rfl, ⟨_, rfl, _, _, rfl, rfl, _, _, rfl, rfl, _, _, rfl, rfl, _, _, rfl, rfl, _, _, rfl, rfl, _, _, rfl, rfl, rfl⟩, _, _, rfl, rfl, rfl⟩

theorem t_Sd (rs : List Value) (L : List Int) : ((Er rs).at L).b e_Sd = true := by
  have key : ∀ c q r : Bool, (if (true : Bool) = true then (if (if c = true then c else !c) = true then (if (if q = true then q else !q) = true then (if r = true then r else !r) else false) else false) else false) = true := by decide
  exact key _ _ _

def K_Sd (w : World) (p : Option Addr) (len cap : Nat) (zs : List (List Int)) (a0 a1 a2 a3 a4 a5 a6 a7 a8 a9 a10 a11 a12 a13 a14 a15 a16 a17 : Int) (a : Act) (w1 : World) : Prop :=
  a.defers = [] ∧ Gr (allocL w [.cells #[.int .i64 a0, .int .i64 a1, .int .i64 a2] 29, .cells #[.int .i64 a3, .int .i64 a4, .int .i64 a5] 29, .cells #[.int .i64 a6, .int .i64 a7, .int .i64 a8, .int .i64 a9, .int .i64 a10, .int .i64 a11] 69, .cells #[.int .i64 a12, .int .i64 a13, .int .i64 a14, .int .i64 a15, .int .i64 a16, .int .i64 a17] 69]) w1 ∧
    ∃ x0 x1 x2 x3 y rest, a.tmps.toList = [x0, x1, x2, x3, .slice p len cap, .pointer (some ⟨w.heap.size, 0, none⟩), .pointer (some ⟨w.heap.size + 1, 0, none⟩), .pointer (some ⟨w.heap.size + 2, 0, none⟩), .pointer (some ⟨w.heap.size + 3, 0, none⟩), y, .bool false] ++ rest ∧ rest.length = 122
set_option maxHeartbeats 4000000 in
set_option maxRecDepth 100000 in
theorem rest_Sd {w : World} {p : Option Addr} {len cap : Nat} {zs : List (List Int)} (hr : Oi.IsRows 3 w p len zs) {a0 a1 a2 a3 a4 a5 a6 a7 a8 a9 a10 a11 a12 a13 a14 a15 a16 a17 : Int} (hI : AllI [a0, a1, a2, a3, a4, a5, a6, a7, a8, a9, a10, a11, a12, a13, a14, a15, a16, a17])
    {a : Act} {w1 : World} (h : K_Sd w p len cap zs a0 a1 a2 a3 a4 a5 a6 a7 a8 a9 a10 a11 a12 a13 a14 a15 a16 a17 a w1) :
    code_Sd.wp Try.prog (bodyPost Try.prog Try.f12 fun e w' => e = .returned (.bool true) ∧ Gr w w') a w1 := by
  obtain ⟨hd, hg, x0, x1, x2, x3, y, rest, ht, hl⟩ := h
  have hw1 : Gr w w1 := (allocL_gr _ w).trans hg
  have hx : CxOk Try.prog ((Er [.slice p len cap]).at ([a0, a1, a2, a3, a4, a5, a6, a7, a8, a9, a10, a11, a12, a13, a14, a15, a16, a17, (Sz.ob zs).getD 0 0, (Sz.ob zs).getD 1 0, (Sz.ob zs).getD 2 0, (Sz.ob zs).getD 3 0, (Sz.ob zs).getD 4 0, (Sz.ob zs).getD 5 0, Sz.oe zs])) w1 c_Sd := by
    have x := cs9x_ok w1 [] trivial
    refine ⟨x.ty, x.fn, ?_, x.eqs, x.mixed⟩
    refine List.forall_mem_cons.2 ⟨flat_con' (G := Any) (conv c_sjoin rfl (fun l => rfl) (fun _ => trivial) w1) _ trivial, List.forall_mem_cons.2 ⟨flat_con' (G := Any) (conv c_rjoin rfl (fun l => rfl) (fun _ => trivial) w1) _ trivial, List.forall_mem_cons.2 ⟨flat_con' (G := Any) (conv c_smeets rfl (fun l => rfl) (fun _ => trivial) w1) _ trivial, List.forall_mem_cons.2 ⟨flat_con' (G := Any) (conv c_rmeets rfl (fun l => rfl) (fun _ => trivial) w1) _ trivial, List.forall_mem_cons.2 ⟨flat_con' (G := Any) (conv c_lon rfl (fun l => rfl) (fun _ => trivial) w1) _ trivial, List.forall_mem_cons.2 ⟨flat_con' (G := Any) (conv c_rlon rfl (fun l => rfl) (fun _ => trivial) w1) _ trivial, List.forall_mem_cons.2 ⟨flat_con' (G := Any) (conv c_sis rfl (fun l => rfl) (fun _ => trivial) w1) _ trivial, List.forall_mem_cons.2 ⟨flat_con' (G := Any) (conv c_ris rfl (fun l => rfl) (fun _ => trivial) w1) _ trivial, List.forall_mem_cons.2 ⟨flat_con' (G := Any) (conv c_has rfl (fun l => rfl) (fun _ => trivial) w1) _ trivial, List.forall_mem_cons.2 ⟨flat_con' (G := Any) (conv c_rhas rfl (fun l => rfl) (fun _ => trivial) w1) _ trivial, List.forall_mem_cons.2 ⟨flat_con' (G := Any) (conv c_boxed rfl (fun l => rfl) (fun _ => trivial) w1) _ trivial, List.forall_mem_cons.2 ⟨ptCon_ok fun w' ρ hg' => ?_, List.forall_mem_cons.2 ⟨ptCon_ok fun w' ρ hg' => ?_, fun _ h => by cases h⟩⟩⟩⟩⟩⟩⟩⟩⟩⟩⟩⟩⟩
    · exact (Sz.of_any p len cap zs w' (hr.later (hw1.trans hg'))).mono fun e w2 h => ⟨_, h.1, of_rel zs _ _ (by intro i; match i with | 0 => rfl | 1 => rfl | 2 => rfl | 3 => rfl | 4 => rfl | 5 => rfl) rfl, h.2⟩
    · exact (Sz.rof_any p len cap zs w' (hr.later (hw1.trans hg'))).mono fun e w2 h => ⟨_, h.1, of_rel zs _ _ (by intro i; match i with | 0 => rfl | 1 => rfl | 2 => rfl | 3 => rfl | 4 => rfl | 5 => rfl) rfl, h.2⟩

  have hB : boxesRel ((Er [.slice p len cap]).at ([a0, a1, a2, a3, a4, a5, a6, a7, a8, a9, a10, a11, a12, a13, a14, a15, a16, a17, (Sz.ob zs).getD 0 0, (Sz.ob zs).getD 1 0, (Sz.ob zs).getD 2 0, (Sz.ob zs).getD 3 0, (Sz.ob zs).getD 4 0, (Sz.ob zs).getD 5 0, Sz.oe zs])) (seqRho w.heap.size bx_Sd.length) bx_Sd [.cells #[.int .i64 a0, .int .i64 a1, .int .i64 a2] 29, .cells #[.int .i64 a3, .int .i64 a4, .int .i64 a5] 29, .cells #[.int .i64 a6, .int .i64 a7, .int .i64 a8, .int .i64 a9, .int .i64 a10, .int .i64 a11] 69, .cells #[.int .i64 a12, .int .i64 a13, .int .i64 a14, .int .i64 a15, .int .i64 a16, .int .i64 a17] 69] := ⟨⟨_, rfl, ⟨_, _, rfl, rfl, ⟨_, _, rfl, rfl, ⟨_, _, rfl, rfl, rfl⟩⟩⟩⟩, ⟨_, rfl, ⟨_, _, rfl, rfl, ⟨_, _, rfl, rfl, ⟨_, _, rfl, rfl, rfl⟩⟩⟩⟩, ⟨_, rfl, ⟨_, _, rfl, rfl, ⟨_, _, rfl, rfl, ⟨_, _, rfl, rfl, ⟨_, _, rfl, rfl, ⟨_, _, rfl, rfl, ⟨_, _, rfl, rfl, rfl⟩⟩⟩⟩⟩⟩⟩, ⟨_, rfl, ⟨_, _, rfl, rfl, ⟨_, _, rfl, rfl, ⟨_, _, rfl, rfl, ⟨_, _, rfl, rfl, ⟨_, _, rfl, rfl, ⟨_, _, rfl, rfl, rfl⟩⟩⟩⟩⟩⟩⟩, trivial⟩
  have hS : SRel ((Er [.slice p len cap]).at ([a0, a1, a2, a3, a4, a5, a6, a7, a8, a9, a10, a11, a12, a13, a14, a15, a16, a17, (Sz.ob zs).getD 0 0, (Sz.ob zs).getD 1 0, (Sz.ob zs).getD 2 0, (Sz.ob zs).getD 3 0, (Sz.ob zs).getD 4 0, (Sz.ob zs).getD 5 0, Sz.oe zs])) (seqRho w.heap.size bx_Sd.length) ⟨tm_Sd, boxesHp bx_Sd⟩ a w1 w1 := by
    refine ⟨?_, boxes_hrel hB hg, fun n hn => ?_⟩
    · rw [ht]
      refine relL_append (xs := [.any, .any, .any, .any, .raw 0, .ptr (some (0, 0)), .ptr (some (1, 0)), .ptr (some (2, 0)), .ptr (some (3, 0)), .any, .bool (.blit false)]) ?_ (relL_any 122 rest hl)
      exact ⟨_, _, rfl, trivial, _, _, rfl, trivial, _, _, rfl, trivial, _, _, rfl, trivial, _, _, rfl, ⟨rfl, rfl⟩, _, _, rfl, ⟨_, rfl, rfl⟩, _, _, rfl, ⟨_, rfl, rfl⟩, _, _, rfl, ⟨_, rfl, rfl⟩, _, _, rfl, ⟨_, rfl, rfl⟩, _, _, rfl, trivial, _, _, rfl, rfl, rfl⟩
    · have : ¬ n < 4 := by simp [boxesHp, bx_Sd] at hn; omega
      simp [seqRho, bx_Sd, this]
  exact rest_run hx rfl k_Sd (t_Sd _ _) hS hw1 hd
end Sx
open Sx
set_option maxHeartbeats 4000000 in
set_option maxRecDepth 100000 in
theorem walk_SlabDoes (w : World) (a0 a1 a2 : Int) (_ : I a0) (_ : I a1) (_ : I a2) (a3 a4 a5 : Int) (_ : I a3) (_ : I a4) (_ : I a5) (a6 a7 a8 a9 a10 a11 : Int) (_ : I a6) (_ : I a7) (_ : I a8) (_ : I a9) (_ : I a10) (_ : I a11) (a12 a13 a14 a15 a16 a17 : Int) (_ : I a12) (_ : I a13) (_ : I a14) (_ : I a15) (_ : I a16) (_ : I a17)
    (p : Option Addr) (len cap : Nat) (zs : List (List Int)) (hr : Oi.IsRows 3 w p len zs) (hn : p = none → cap = 0) :
    Calls Try.prog 12 #[.agg #[.int .i64 a0, .int .i64 a1, .int .i64 a2], .agg #[.int .i64 a3, .int .i64 a4, .int .i64 a5], .agg #[.int .i64 a6, .int .i64 a7, .int .i64 a8, .int .i64 a9, .int .i64 a10, .int .i64 a11], .agg #[.int .i64 a12, .int .i64 a13, .int .i64 a14, .int .i64 a15, .int .i64 a16, .int .i64 a17], .slice p len cap] w fun e w' => e = .returned (.bool true) ∧ Gr w w' := by
  have hI : AllI [a0, a1, a2, a3, a4, a5, a6, a7, a8, a9, a10, a11, a12, a13, a14, a15, a16, a17] := by
    intro a h; simp only [List.mem_cons, List.not_mem_nil, or_false] at h; rcases h with rfl | rfl | rfl | rfl | rfl | rfl | rfl | rfl | rfl | rfl | rfl | rfl | rfl | rfl | rfl | rfl | rfl | rfl <;> assumption
  have hm := hr.2.1
  by_cases hl : 60 < len
  · clear hr hn hI
    go_enter Try.func12, Try.ntmps12
    go_wp2
    go_ret
    exact ⟨rfl, allocL_gr [.cells #[.int .i64 a0, .int .i64 a1, .int .i64 a2] 29, .cells #[.int .i64 a3, .int .i64 a4, .int .i64 a5] 29, .cells #[.int .i64 a6, .int .i64 a7, .int .i64 a8, .int .i64 a9, .int .i64 a10, .int .i64 a11] 69, .cells #[.int .i64 a12, .int .i64 a13, .int .i64 a14, .int .i64 a15, .int .i64 a16, .int .i64 a17] 69] w⟩
  · have HR := Lib.hid hr; have HN := Lib.hid hn; have HI := Lib.hid hI
    have hl2 : len ≤ 1000000 := by omega
    clear hr hn hI
    go_enter Try.func12, Try.ntmps12
    refine wp_tail2 (K_Sd w p len cap zs a0 a1 a2 a3 a4 a5 a6 a7 a8 a9 a10 a11 a12 a13 a14 a15 a16 a17) ?_ (fun a w1 h => rest_Sd HR.out HI.out h)
    intro R' hR'
    have HR' := Lib.hid hR'; clear hR'
    go_wp2_with fail
    exact HR'.out _ _ ⟨rfl, Gr.refl _, _, _, _, _, _, _, (split_at' (n := 11) (m := 122) rfl rfl).1, by exact (split_at' (n := 11) (m := 122) rfl rfl).2⟩
end Go.Proofs.Ytfpnkcmplmkghaa
