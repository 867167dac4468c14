/- The contracts of the reference's Floor and Gcd (two numbers), handed to the reckoner for chapter 3. -/
import Derived.Test.YtfpnkcmplmkghaaQ9
import Derived.Test.YtfpnkcmplmkghaaGf
import Derived.Test.YtfpnkcmplmkghaaRf2
import Derived.Test.YtfpnkcmplmkghaaRg2
set_option linter.unusedVariables false
namespace Go.Proofs.Ytfpnkcmplmkghaa.Sx
open Go.RowKit

theorem c_rfloor (W : World) : Flat Try.prog E W AllI 92 [.i, .i] fun l => tupleV (resV E 30 l [.i, .i, .i] 0 0) := by
  refine flat_calls rfl fun l w hl hI => ?_
  obtain ⟨a, l1, rfl, h1⟩ := cut1 hl
  obtain ⟨b, l2, rfl, h2⟩ := cut1 h1
  obtain rfl := cut0 h2
  refine (Wh.rfloor_any a b (hI a (by simp)) (hI b (by simp)) w).mono ?_
  rintro e w' ⟨rfl, rfl⟩
  exact ⟨rfl, Gr.refl _⟩
theorem c_rgcd (W : World) : Flat Try.prog E W AllI 93 [.s 3 2 2] fun l => tupleV (resV E 52 l [.i, .i] 0 0) := by
  intro l ρ w0 w us hl hG hW hW0 h0 hv hH hf
  obtain ⟨a, l1, rfl, h1⟩ := cut1 hl
  obtain ⟨b, l2, rfl, h2⟩ := cut1 h1
  obtain rfl := cut0 h2
  obtain ⟨v, vs', rfl, ⟨bk, hb, rfl⟩, rfl⟩ := hv
  obtain ⟨b', vs, hb', hc, hr, -⟩ := hH.blk 0 _ rfl
  rw [hb] at hb'
  cases hb'
  obtain ⟨x, r1, e1, rfl, y, r2, rfl, rfl, rfl⟩ := hr
  have hB : Blk w bk [.int .i64 a, .int .i64 b] := by
    obtain ⟨vs⟩ := vs
    simp only at e1
    subst e1
    refine ⟨hH.lt 0 bk hb, fun i v hi => ⟨?_, by simp [World.frozen?, hc]⟩⟩
    rw [cell_at hc]
    show (#[Value.int .i64 a, Value.int .i64 b] : Array Value)[i]? = some v
    rw [← hi]
    match i with
    | 0 => rfl
    | 1 => rfl
    | i + 2 => simp
  refine (Wh.rgcd_any (some ⟨bk, 0, none⟩) 2 2 [a, b] w (IsRow.of_blk2 hB (hG a (by simp)) (hG b (by simp)))).mono ?_
  rintro e w' ⟨rfl, hd⟩
  exact ⟨by simp [tupleV, resV, E, fi, Wh.gv, Wh.ge, gl_two], hd.gr⟩
noncomputable def cyb : Cx := ⟨cy9.ty, cy9.fn, [flatCon 92 [.i, .i] [.i, .i, .i] 30 (rangesOk okF), flatCon 93 [.s 3 2 2] [.i, .i] 52 (rangesOk okF), flatCon 14 [.i, .i] [.i, .i, .i] 30 (rangesOk okF), flatCon 67 [.s 3 2 2] [.i, .i] 52 (rangesOk okF)] ++ cy9.con, cy9.inl, cy9.eqs⟩
theorem cyb_ok (W : World) : ∀ l, AllI l → CxOk Try.prog (E.at l) W cyb :=
  cx_more (fun l h => cy9_ok W l trivial) (List.forall_mem_cons.2 ⟨flat_conI okF_I (c_rfloor W), List.forall_mem_cons.2 ⟨flat_conI okF_I (c_rgcd W), List.forall_mem_cons.2 ⟨flat_conI okF_I (c_floor W), List.forall_mem_cons.2 ⟨flat_conI okF_I (c_gcd W), (fun _ h => by cases h)⟩⟩⟩⟩)
end Go.Proofs.Ytfpnkcmplmkghaa.Sx
