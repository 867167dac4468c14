/- The walk of HitDoes: its head by hand, the rest by the reckoner. -/
import Derived.Test.YtfpnkcmplmkghaaHdp
import Derived.Test.YtfpnkcmplmkghaaHf
import Derived.Test.YtfpnkcmplmkghaaHr
import Derived.Test.YtfpnkcmplmkghaaHo
import Derived.KernelRfl
import Derived.WalkKit
import Derived.WalkSpells
import Derived.Lib.Hide
set_option linter.unusedVariables false
set_option linter.unusedSimpArgs false
namespace Go.Proofs.Ytfpnkcmplmkghaa
open Go.RowKit
namespace Sx

def e_Hd : SE := (.ite (.app 20 0 .nil) (.ite (.ite (.app 16 0 (.cons (.var 0) (.cons (.var 1) (.cons (.var 2) (.cons (.var 3) (.cons (.var 4) (.cons (.var 5) (.cons (.var 6) (.cons (.var 7) (.cons (.var 8) (.cons (.var 9) (.cons (.var 10) (.cons (.var 11) (.cons (.var 12) (.cons (.var 13) (.cons (.var 14) .nil)))))))))))))))) (.app 16 0 (.cons (.var 0) (.cons (.var 1) (.cons (.var 2) (.cons (.var 3) (.cons (.var 4) (.cons (.var 5) (.cons (.var 6) (.cons (.var 7) (.cons (.var 8) (.cons (.var 9) (.cons (.var 10) (.cons (.var 11) (.cons (.var 12) (.cons (.var 13) (.cons (.var 14) .nil)))))))))))))))) (.no (.app 16 0 (.cons (.var 0) (.cons (.var 1) (.cons (.var 2) (.cons (.var 3) (.cons (.var 4) (.cons (.var 5) (.cons (.var 6) (.cons (.var 7) (.cons (.var 8) (.cons (.var 9) (.cons (.var 10) (.cons (.var 11) (.cons (.var 12) (.cons (.var 13) (.cons (.var 14) .nil)))))))))))))))))) (.ite (.eq (.var 16) (.lit 1)) (.eq (.var 16) (.lit 1)) (.no (.eq (.var 16) (.lit 1)))) (.blit false)) (.blit false))
theorem k_Hd : run_Hd.map (lookT 8) = .leaf (true, some (.bool e_Hd)) := by kernel_rfl

theorem t_Hd (rs : List Value) (L : List Int) : ((Er rs).at L).b e_Hd = true := by
  have key : ∀ c q : Bool, (if (true : Bool) = true then (if (if c = true then c else !c) = true then (if q = true then q else !q) else false) else false) = true := by decide
  exact key _ _

def K_Hd (w : World) (p : Option Addr) (len cap : Nat) (zs : List (List Int)) (a0 a1 a2 a3 a4 a5 a6 a7 a8 a9 a10 a11 a12 a13 a14 : Int) (a : Act) (w1 : World) : Prop :=
  ∃ p1 cap1, a.defers = [] ∧ Oi.IsRows 9 w1 p1 len zs ∧ Gr (allocL w [.cells #[.int .i64 a0, .int .i64 a1, .int .i64 a2] 29, .cells #[.int .i64 a3, .int .i64 a4, .int .i64 a5] 29, .cells #[.int .i64 a6, .int .i64 a7, .int .i64 a8, .int .i64 a9, .int .i64 a10, .int .i64 a11, .int .i64 a12, .int .i64 a13, .int .i64 a14] 30]) w1 ∧
    ∃ x0 x1 x2 y rest, a.tmps.toList = [x0, x1, x2, .slice p len cap, .pointer (some ⟨w.heap.size, 0, none⟩), .pointer (some ⟨w.heap.size + 1, 0, none⟩), .pointer (some ⟨w.heap.size + 2, 0, none⟩), y, .bool false, .slice p1 len cap1] ++ rest ∧ rest.length = 102
set_option maxHeartbeats 4000000 in
set_option maxRecDepth 100000 in
theorem rest_Hd {w : World} {p : Option Addr} {len cap : Nat} {zs : List (List Int)} (hr : Oi.IsRows 9 w p len zs) {a0 a1 a2 a3 a4 a5 a6 a7 a8 a9 a10 a11 a12 a13 a14 : Int} (hI : AllI [a0, a1, a2, a3, a4, a5, a6, a7, a8, a9, a10, a11, a12, a13, a14])
    {a : Act} {w1 : World} (h : K_Hd w p len cap zs a0 a1 a2 a3 a4 a5 a6 a7 a8 a9 a10 a11 a12 a13 a14 a w1) :
    code_Hd.wp Try.prog (bodyPost Try.prog Try.f4 fun e w' => e = .returned (.bool true) ∧ Gr w w') a w1 := by
  obtain ⟨p1, cap1, hd, hr1, hg, x0, x1, x2, y, rest, ht, hl⟩ := h
  have hw1 : Gr w w1 := (allocL_gr _ w).trans hg
  have hx : CxOk Try.prog ((Er [.slice p len cap, .slice p1 len cap1]).at ([a0, a1, a2, a3, a4, a5, a6, a7, a8, a9, a10, a11, a12, a13, a14, (Hf.go 0 0 false (Hf.es a0 a1 a2 a3 a4 a5 zs)).1, (if (Hf.go 0 0 false (Hf.es a0 a1 a2 a3 a4 a5 zs)).2.1 then 1 else 0), (Hf.go 0 0 false (Hf.es a0 a1 a2 a3 a4 a5 zs)).2.2])) w1 c_Hd := by
    have x := cs10_ok w1 [] trivial
    refine ⟨x.ty, x.fn, ?_, x.eqs, x.mixed⟩
    refine List.forall_mem_cons.2 ⟨flat_con' (G := Any) (conv c_hit rfl (fun l => rfl) (fun _ => trivial) w1) _ trivial, List.forall_mem_cons.2 ⟨flat_con' (G := Any) (conv c_rhit rfl (fun l => rfl) (fun _ => trivial) w1) _ trivial, List.forall_mem_cons.2 ⟨flat_con' (G := Any) (conv c_side12 rfl (fun l => rfl) (fun _ => trivial) w1) _ trivial, List.forall_mem_cons.2 ⟨flat_con' (G := Any) (conv c_rside12 rfl (fun l => rfl) (fun _ => trivial) w1) _ trivial, List.forall_mem_cons.2 ⟨flat_con' (G := Any) (conv c_struck rfl (fun l => rfl) (fun _ => trivial) w1) _ trivial, List.forall_mem_cons.2 ⟨ptCon_ok fun w' ρ hg' => ?_, List.forall_mem_cons.2 ⟨ptCon_ok fun w' ρ hg' => ?_, List.forall_mem_cons.2 ⟨ptCon_ok fun w' ρ hg' => ?_, fun _ h => by cases h⟩⟩⟩⟩⟩⟩⟩⟩
    · exact (Hf.first_any a0 a1 a2 a3 a4 a5 p len cap zs w' (hr.later (hw1.trans hg'))).mono fun e w2 h => ⟨_, h.1, ⟨_, rfl, _, _, rfl, rfl, _, _, rfl, (by show Value.bool _ = Value.bool ((if (Hf.go 0 0 false (Hf.es a0 a1 a2 a3 a4 a5 zs)).2.1 then (1 : Int) else 0) == 1); cases (Hf.go 0 0 false (Hf.es a0 a1 a2 a3 a4 a5 zs)).2.1 <;> rfl), _, _, rfl, rfl, rfl⟩, h.2⟩
    · exact (Hf.rfirst_any a0 a1 a2 a3 a4 a5 p1 len cap1 zs w' (hr1.later hg')).mono fun e w2 h => ⟨_, h.1, ⟨_, rfl, _, _, rfl, rfl, _, _, rfl, (by show Value.bool _ = Value.bool ((if (Hf.go 0 0 false (Hf.es a0 a1 a2 a3 a4 a5 zs)).2.1 then (1 : Int) else 0) == 1); cases (Hf.go 0 0 false (Hf.es a0 a1 a2 a3 a4 a5 zs)).2.1 <;> rfl), _, _, rfl, rfl, rfl⟩, h.2⟩
    · exact (Ho.same_any p p1 len cap cap1 zs w' (hr.later (hw1.trans hg')) (hr1.later hg')).mono fun e w2 h => ⟨_, h.1, rfl, h.2.gr⟩

  have hB : boxesRel ((Er [.slice p len cap, .slice p1 len cap1]).at ([a0, a1, a2, a3, a4, a5, a6, a7, a8, a9, a10, a11, a12, a13, a14, (Hf.go 0 0 false (Hf.es a0 a1 a2 a3 a4 a5 zs)).1, (if (Hf.go 0 0 false (Hf.es a0 a1 a2 a3 a4 a5 zs)).2.1 then 1 else 0), (Hf.go 0 0 false (Hf.es a0 a1 a2 a3 a4 a5 zs)).2.2])) (seqRho w.heap.size bx_Hd.length) bx_Hd [.cells #[.int .i64 a0, .int .i64 a1, .int .i64 a2] 29, .cells #[.int .i64 a3, .int .i64 a4, .int .i64 a5] 29, .cells #[.int .i64 a6, .int .i64 a7, .int .i64 a8, .int .i64 a9, .int .i64 a10, .int .i64 a11, .int .i64 a12, .int .i64 a13, .int .i64 a14] 30] := ⟨⟨_, rfl, ⟨_, _, rfl, rfl, ⟨_, _, rfl, rfl, ⟨_, _, rfl, rfl, rfl⟩⟩⟩⟩, ⟨_, rfl, ⟨_, _, rfl, rfl, ⟨_, _, rfl, rfl, ⟨_, _, rfl, rfl, rfl⟩⟩⟩⟩, ⟨_, rfl, ⟨_, _, rfl, rfl, ⟨_, _, rfl, rfl, ⟨_, _, rfl, rfl, ⟨_, _, rfl, rfl, ⟨_, _, rfl, rfl, ⟨_, _, rfl, rfl, ⟨_, _, rfl, rfl, ⟨_, _, rfl, rfl, ⟨_, _, rfl, rfl, rfl⟩⟩⟩⟩⟩⟩⟩⟩⟩⟩, trivial⟩
  have hS : SRel ((Er [.slice p len cap, .slice p1 len cap1]).at ([a0, a1, a2, a3, a4, a5, a6, a7, a8, a9, a10, a11, a12, a13, a14, (Hf.go 0 0 false (Hf.es a0 a1 a2 a3 a4 a5 zs)).1, (if (Hf.go 0 0 false (Hf.es a0 a1 a2 a3 a4 a5 zs)).2.1 then 1 else 0), (Hf.go 0 0 false (Hf.es a0 a1 a2 a3 a4 a5 zs)).2.2])) (seqRho w.heap.size bx_Hd.length) ⟨tm_Hd, boxesHp bx_Hd⟩ a w1 w1 := by
    refine ⟨?_, boxes_hrel hB hg, fun n hn => ?_⟩
    · rw [ht]
      refine relL_append (xs := [.any, .any, .any, .raw 0, .ptr (some (0, 0)), .ptr (some (1, 0)), .ptr (some (2, 0)), .any, .bool (.blit false), .raw 1]) ?_ (relL_any 102 rest hl)
      exact ⟨_, _, rfl, trivial, _, _, rfl, trivial, _, _, rfl, trivial, _, _, rfl, ⟨rfl, rfl⟩, _, _, rfl, ⟨_, rfl, rfl⟩, _, _, rfl, ⟨_, rfl, rfl⟩, _, _, rfl, ⟨_, rfl, rfl⟩, _, _, rfl, trivial, _, _, rfl, rfl, _, _, rfl, ⟨rfl, rfl⟩, rfl⟩
    · have : ¬ n < 3 := by simp [boxesHp, bx_Hd] at hn; omega
      simp [seqRho, bx_Hd, this]
  exact rest_run hx rfl k_Hd (t_Hd _ _) hS hw1 hd
end Sx
open Sx
set_option maxHeartbeats 4000000 in
set_option maxRecDepth 100000 in
theorem walk_HitDoes (w : World) (a0 a1 a2 : Int) (_ : I a0) (_ : I a1) (_ : I a2) (a3 a4 a5 : Int) (_ : I a3) (_ : I a4) (_ : I a5) (a6 a7 a8 a9 a10 a11 a12 a13 a14 : Int) (_ : I a6) (_ : I a7) (_ : I a8) (_ : I a9) (_ : I a10) (_ : I a11) (_ : I a12) (_ : I a13) (_ : I a14)
    (p : Option Addr) (len cap : Nat) (zs : List (List Int)) (hr : Oi.IsRows 9 w p len zs) (hn : p = none → cap = 0) :
    Calls Try.prog 4 #[.agg #[.int .i64 a0, .int .i64 a1, .int .i64 a2], .agg #[.int .i64 a3, .int .i64 a4, .int .i64 a5], .agg #[.int .i64 a6, .int .i64 a7, .int .i64 a8, .int .i64 a9, .int .i64 a10, .int .i64 a11, .int .i64 a12, .int .i64 a13, .int .i64 a14], .slice p len cap] w fun e w' => e = .returned (.bool true) ∧ Gr w w' := by
  have hI : AllI [a0, a1, a2, a3, a4, a5, a6, a7, a8, a9, a10, a11, a12, a13, a14] := by
    intro a h; simp only [List.mem_cons, List.not_mem_nil, or_false] at h; rcases h with rfl | rfl | rfl | rfl | rfl | rfl | rfl | rfl | rfl | rfl | rfl | rfl | rfl | rfl | rfl <;> assumption
  have hm := hr.2.1
  by_cases hl : 30 < len
  · clear hr hn hI
    go_enter Try.func4, Try.ntmps4
    go_wp2
    go_ret
    exact ⟨rfl, allocL_gr [.cells #[.int .i64 a0, .int .i64 a1, .int .i64 a2] 29, .cells #[.int .i64 a3, .int .i64 a4, .int .i64 a5] 29, .cells #[.int .i64 a6, .int .i64 a7, .int .i64 a8, .int .i64 a9, .int .i64 a10, .int .i64 a11, .int .i64 a12, .int .i64 a13, .int .i64 a14] 30] w⟩
  · have HR := Lib.hid hr; have HN := Lib.hid hn; have HI := Lib.hid hI
    have hl2 : len ≤ 1000000 := by omega
    clear hr hn hI
    go_enter Try.func4, Try.ntmps4
    refine wp_tail3 (K_Hd w p len cap zs a0 a1 a2 a3 a4 a5 a6 a7 a8 a9 a10 a11 a12 a13 a14) ?_ (fun a w1 h => rest_Hd HR.out HI.out h)
    intro R' hR'
    have HR' := Lib.hid hR'; clear hR'
    go_wp2_with fail
    refine (Ho.own_any _ _ _ zs _ (by exact HR.out.later (allocL_gr [.cells #[.int .i64 a0, .int .i64 a1, .int .i64 a2] 29, .cells #[.int .i64 a3, .int .i64 a4, .int .i64 a5] 29, .cells #[.int .i64 a6, .int .i64 a7, .int .i64 a8, .int .i64 a9, .int .i64 a10, .int .i64 a11, .int .i64 a12, .int .i64 a13, .int .i64 a14] 30] w)) HN.out hl2).mono ?_; rintro e w1 ⟨p1, cap1, rfl, hr1, hg1⟩
    have HR1 := Lib.hid hr1; have HG1 := Lib.hid hg1; clear hr1 hg1
    go_wp2_with fail
    exact HR'.out _ _ ⟨p1, cap1, rfl, HR1.out, HG1.out, _, _, _, _, _, (split_at' (n := 10) (m := 102) rfl rfl).1, by exact (split_at' (n := 10) (m := 102) rfl rfl).2⟩
end Go.Proofs.Ytfpnkcmplmkghaa
