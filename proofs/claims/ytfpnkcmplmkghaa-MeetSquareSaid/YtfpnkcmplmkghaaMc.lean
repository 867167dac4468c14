/- Chapter 10: the contracts of In and apart, as the reckoner takes them. -/
import Derived.Test.YtfpnkcmplmkghaaAq3
import Derived.Test.YtfpnkcmplmkghaaAq4
set_option linter.unusedVariables false
namespace Go.Proofs.Ytfpnkcmplmkghaa.Sx
open Go.RowKit
theorem arr_ints {xs : Array Value} {l : List Value} (h : xs.toList = l) : xs = l.toArray := by cases xs; simp_all
theorem c_inM (W : World) : Flat Try.prog E W Any 26 [.g 2, .g 6] fun l => tupleV (resV E 57 l [.i, .i] 0 0) := flat_calls rfl fun l w hl _ => by
  have h0' : l.length = 8 := hl
  clear hl
  obtain ⟨a0, l1, rfl, g1⟩ := cut1 h0'
  obtain ⟨a1, l2, rfl, g2⟩ := cut1 g1
  obtain ⟨a2, l3, rfl, g3⟩ := cut1 g2
  obtain ⟨a3, l4, rfl, g4⟩ := cut1 g3
  obtain ⟨a4, l5, rfl, g5⟩ := cut1 g4
  obtain ⟨a5, l6, rfl, g6⟩ := cut1 g5
  obtain ⟨a6, l7, rfl, g7⟩ := cut1 g6
  obtain ⟨a7, l8, rfl, g8⟩ := cut1 g7
  obtain rfl := cut0 g8
  exact Mt.in_any a0 a1 a2 a3 a4 a5 a6 a7 w
theorem c_ap3 (W : World) : Flat Try.prog E W Any 89 [.g 6, .i, .s 44 3 6] fun l => tupleV (resV E 58 l [.b] 0 0) := by
  intro l ρ w0 w us hl _ hW hW0 h0 hv hH hf
  obtain ⟨u0, r0, rfl, ⟨xs, rfl, hx⟩, u1, r1, rfl, h1, u2, r2, rfl, ⟨b, hb, rfl⟩, hnil⟩ := hv
  obtain ⟨b', vs, e1, e2, e3, _⟩ := hH.blk 0 _ rfl
  rw [hb] at e1; simp only [Option.some.injEq] at e1; subst e1
  have hx2 := arr_ints (vars_eq 6 0 hx)
  have e4 := arr_ints (vars_eq 6 7 e3)
  have h1 : u1 = .int .i64 (l.getD 6 0) := h1
  have hnil : r2 = [] := hnil
  subst hx2; subst e4; subst h1; subst hnil
  have h0' : l.length = 13 := hl
  clear hl
  obtain ⟨a0, l1, rfl, g1⟩ := cut1 h0'
  obtain ⟨a1, l2, rfl, g2⟩ := cut1 g1
  obtain ⟨a2, l3, rfl, g3⟩ := cut1 g2
  obtain ⟨a3, l4, rfl, g4⟩ := cut1 g3
  obtain ⟨a4, l5, rfl, g5⟩ := cut1 g4
  obtain ⟨a5, l6, rfl, g6⟩ := cut1 g5
  obtain ⟨a6, l7, rfl, g7⟩ := cut1 g6
  obtain ⟨a7, l8, rfl, g8⟩ := cut1 g7
  obtain ⟨a8, l9, rfl, g9⟩ := cut1 g8
  obtain ⟨a9, l10, rfl, g10⟩ := cut1 g9
  obtain ⟨a10, l11, rfl, g11⟩ := cut1 g10
  obtain ⟨a11, l12, rfl, g12⟩ := cut1 g11
  obtain ⟨a12, l13, rfl, g13⟩ := cut1 g12
  obtain rfl := cut0 g13
  exact Mt.apart3_any a0 a1 a2 a3 a4 a5 a6 a7 a8 a9 a10 a11 a12 b w e2
theorem c_ap4 (W : World) : Flat Try.prog E W Any 89 [.g 6, .i, .s 43 4 8] fun l => tupleV (resV E 58 l [.b] 0 0) := by
  intro l ρ w0 w us hl _ hW hW0 h0 hv hH hf
  obtain ⟨u0, r0, rfl, ⟨xs, rfl, hx⟩, u1, r1, rfl, h1, u2, r2, rfl, ⟨b, hb, rfl⟩, hnil⟩ := hv
  obtain ⟨b', vs, e1, e2, e3, _⟩ := hH.blk 0 _ rfl
  rw [hb] at e1; simp only [Option.some.injEq] at e1; subst e1
  have hx2 := arr_ints (vars_eq 6 0 hx)
  have e4 := arr_ints (vars_eq 8 7 e3)
  have h1 : u1 = .int .i64 (l.getD 6 0) := h1
  have hnil : r2 = [] := hnil
  subst hx2; subst e4; subst h1; subst hnil
  have h0' : l.length = 15 := hl
  clear hl
  obtain ⟨a0, l1, rfl, g1⟩ := cut1 h0'
  obtain ⟨a1, l2, rfl, g2⟩ := cut1 g1
  obtain ⟨a2, l3, rfl, g3⟩ := cut1 g2
  obtain ⟨a3, l4, rfl, g4⟩ := cut1 g3
  obtain ⟨a4, l5, rfl, g5⟩ := cut1 g4
  obtain ⟨a5, l6, rfl, g6⟩ := cut1 g5
  obtain ⟨a6, l7, rfl, g7⟩ := cut1 g6
  obtain ⟨a7, l8, rfl, g8⟩ := cut1 g7
  obtain ⟨a8, l9, rfl, g9⟩ := cut1 g8
  obtain ⟨a9, l10, rfl, g10⟩ := cut1 g9
  obtain ⟨a10, l11, rfl, g11⟩ := cut1 g10
  obtain ⟨a11, l12, rfl, g12⟩ := cut1 g11
  obtain ⟨a12, l13, rfl, g13⟩ := cut1 g12
  obtain ⟨a13, l14, rfl, g14⟩ := cut1 g13
  obtain ⟨a14, l15, rfl, g15⟩ := cut1 g14
  obtain rfl := cut0 g15
  exact Mt.apart4_any a0 a1 a2 a3 a4 a5 a6 a7 a8 a9 a10 a11 a12 a13 a14 b w e2
noncomputable def cm2 : Cx := ⟨cm1.ty, cm1.fn, [flatCon 26 [.g 2, .g 6] [.i, .i] 57 noChk, flatCon 89 [.g 6, .i, .s 44 3 6] [.b] 58 noChk, flatCon 89 [.g 6, .i, .s 43 4 8] [.b] 58 noChk] ++ cm1.con, cm1.inl, cm1.eqs⟩
theorem cm2_ok (W : World) : ∀ l, Any l → CxOk Try.prog (E.at l) W cm2 :=
  cx_more (cm1_ok W) (List.forall_mem_cons.2 ⟨flat_con' (c_inM W), List.forall_mem_cons.2 ⟨flat_con' (c_ap3 W), List.forall_mem_cons.2 ⟨flat_con' (c_ap4 W), (fun _ h => by cases h)⟩⟩⟩)
end Go.Proofs.Ytfpnkcmplmkghaa.Sx
