/- Numbers in digits: size, plus, minus, walked. -/
import Derived.Test.YtfpnkcmplmkghaaBo
import Derived.Test.YtfpnkcmplmkghaaBq
set_option linter.unusedVariables false
set_option linter.unusedSimpArgs false
namespace Go.Proofs.Ytfpnkcmplmkghaa
open Go.RowKit
namespace Bg
/-- A call of 'digit' behind some steps. -/
theorem digit_gw {wr : World} (b : Bool) (a : Option Addr) (len cap : Nat) (zs : List Int) (i : Nat) (hr : IsRow .i64 wr a len zs) (hi : (i : Int) ≤ 9223372036854775807) (x : GW wr) :
    Calls Try.prog 131 #[NumV b a len cap, .int .i64 i] x.val fun e w' => e = .returned (.int .i64 (zs.getD i 0)) ∧ Gr x.val w' := digit_any b a len cap zs i _ (hr.later x.gr) hi
set_option maxHeartbeats 4000000 in
set_option maxRecDepth 100000 in
theorem size_any (ba : Bool) (pa : Option Addr) (la ca : Nat) (za : List Int) (bb : Bool) (pb : Option Addr) (lb cb : Nat) (zb : List Int) (w : World) (ha : IsRow .i64 w pa la za) (hb : IsRow .i64 w pb lb zb) (da : Dg za) (db : Dg zb) (h60 : la ≤ 60) (k60 : lb ≤ 60) :
    Calls Try.prog 111 #[NumV ba pa la ca, NumV bb pb lb cb] w fun e w' => e = .returned (.int .i64 (sz (val za) (val zb))) ∧ Gr w w' := by
  have HA := Lib.hid ha; have HB := Lib.hid hb; have DA := Lib.hid da; have DB := Lib.hid db
  have za1 := Lib.hid ha.1; have zb1 := Lib.hid hb.1
  clear ha hb da db
  unfold NumV
  go_enter Try.func111, Try.ntmps111
  go_wp2_with fail
  all_goals
    go_loopw [5] (fun v5 wr => ∃ k : Nat, k ≤ max la lb ∧ v5 = .int .i64 ((k : Int) - 1) ∧ Gr w wr ∧ val (za.drop k) = val (zb.drop k)
        ∧ Blk wr w.heap.size [.bool ba, .slice pa la ca] ∧ Blk wr (w.heap.size + 1) [.bool bb, .slice pb lb cb]) (fun v _ => (intOf v + 1).toNat)
    case atStart =>
      refine ⟨max la lb, Nat.le_refl _, ?_, ((Gr.refl w).alloc _).alloc _, ?_, (Blk.new (vs := [.bool ba, .slice pa la ca]) rfl).alloc, Blk.new (vs := [.bool bb, .slice pb lb cb]) (by simp)⟩
      · go_num
      · have := za1.out; have := zb1.out
        rw [List.drop_eq_nil_of_le (by omega), List.drop_eq_nil_of_le (by omega)]
    case round =>
      obtain ⟨k, hk, rfl, hg, hv, b1, b2⟩ := hrel
      cases k with
      | zero =>
        have hf : sz (val za) (val zb) = 0 := by simp only [List.drop_zero] at hv; unfold sz; rw [hv]; simp
        have HF := Lib.hid hf; have HG := Lib.hid hg
        clear hf hv hg b1 b2
        go_wp2
        go_ret
        exact ⟨show Ending.returned (.int .i64 0) = _ by rw [HF.out], HG.out⟩
      | succ k =>
        rw [show ((k + 1 : Nat) : Int) - 1 = k by omega]
        have hlt1 : zb.getD k 0 > za.getD k 0 → sz (val za) (val zb) = -1 := fun h => by
          have := dig_lt DA.out DB.out k hv h
          unfold sz; rw [if_pos this]
        have hlt2 : za.getD k 0 > zb.getD k 0 → sz (val za) (val zb) = 1 := fun h => by
          have := dig_lt DB.out DA.out k hv.symm h
          unfold sz; rw [if_neg (by omega), if_pos this]
        have heq : za.getD k 0 = zb.getD k 0 → val (za.drop k) = val (zb.drop k) := fun h => by rw [drop_val za, drop_val zb, h, hv]
        have qa := b1.gw 0 rfl; have qb := b1.gw 1 rfl; have qc := b2.gw 0 rfl; have qd := b2.gw 1 rfl
        have ka := digit_gw ba pa la ca za k (HA.out.later hg) (by omega)
        have kb := digit_gw bb pb lb cb zb k (HB.out.later hg) (by omega)
        have b9a := DA.out.dig k; have b9b := DB.out.dig k
        unfold NumV at ka kb
        generalize za.getD k 0 = x at *
        generalize zb.getD k 0 = y at *
        have HG := Lib.hid hg; have B1 := Lib.hid b1; have B2 := Lib.hid b2
        have HL1 := Lib.hid hlt1; have HL2 := Lib.hid hlt2; have HE := Lib.hid heq
        clear hg b1 b2 hv hlt1 hlt2 heq
        go_wp2_with fail
        refine wp_region_gr (W := wr) (by kernel_rfl) (by kernel_rfl) (Gr.refl _) ?_
        repeat (go_big_quiet_step (fail))
        go_big_quiet_want; go_big_quiet_op
        go_big_quiet_call (exact Calls.cw (ka _))
        repeat (go_big_quiet_step (fail))
        go_big_quiet_want; go_big_quiet_op
        go_big_quiet_call (exact Calls.cw (kb _))
        repeat (go_big_quiet_step (fail))
        refine wpQuiet_nil ?_
        rintro _ ⟨x1, rfl⟩
        by_cases hc : x < y
        · have HF := Lib.hid (HL1.out hc)
          go_wp2
          go_ret
          exact ⟨show Ending.returned (.int .i64 (-1)) = _ by rw [HF.out], HG.out.trans x1.gr⟩
        · go_wp2_with fail
          refine wp_region_gr (W := wr) (by kernel_rfl) (by kernel_rfl) x1.gr ?_
          repeat (go_big_quiet_step (fail))
          go_big_quiet_want; go_big_quiet_op
          go_big_quiet_call (exact Calls.cw (ka _))
          repeat (go_big_quiet_step (fail))
          go_big_quiet_want; go_big_quiet_op
          go_big_quiet_call (exact Calls.cw (kb _))
          repeat (go_big_quiet_step (fail))
          refine wpQuiet_nil ?_
          rintro _ ⟨x2, rfl⟩
          by_cases hc2 : y < x
          · have HF := Lib.hid (HL2.out hc2)
            go_wp2
            go_ret
            exact ⟨show Ending.returned (.int .i64 1) = _ by rw [HF.out], HG.out.trans x2.gr⟩
          · have HE2 := Lib.hid (HE.out (by omega))
            have hx2 := x2.gr
            generalize x2.val = w2 at *
            have HX := Lib.hid hx2
            clear qa qb qc qd hx2 ka kb
            go_wp2
            go_roundw
            case rel => exact ⟨k, by omega, by go_num, HG.out.trans HX.out, HE2.out, B1.out.gr HX.out, B2.out.gr HX.out⟩
            case measure => simp [intOf]
theorem owns_gr {w w' : World} {base : Nat} {e : TypeId} {size : Nat} {v : Value} {n : Nat} {xs : List Value} (h : w.ownsRow base e size v n xs) (hg : Gr w w') : w'.ownsRow base e size v n xs := by
  refine ⟨h.1, ?_⟩
  rcases h.2 with hn | ⟨g, cap, cur, rfl, hb, hgg, rest⟩
  · exact .inl hn
  · refine .inr ⟨g, cap, cur, rfl, hb, ?_, rest⟩
    rw [hg.block g (Array.getElem?_eq_some_iff.1 hgg).1]
    exact hgg
/-- What 'plus' and 'minus' hand back: a row of digits of the call's own. -/
def Row (w w' : World) (e : Ending) (n : Int) : Prop :=
  ∃ p len cap zs, e = .returned (.slice p len cap) ∧ IsRow .i64 w' p len zs ∧ Dg zs ∧ val zs = n ∧ len ≤ cap ∧ (p = none → cap = 0) ∧ (∀ ad, p = some ad → w.heap.size ≤ ad.block) ∧ Gr w w'
set_option maxHeartbeats 4000000 in
set_option maxRecDepth 100000 in
theorem plus_any (ba : Bool) (pa : Option Addr) (la ca : Nat) (za : List Int) (bb : Bool) (pb : Option Addr) (lb cb : Nat) (zb : List Int) (w : World) (ha : IsRow .i64 w pa la za) (hb : IsRow .i64 w pb lb zb) (da : Dg za) (db : Dg zb) (h60 : la ≤ 60) (k60 : lb ≤ 60) :
    Calls Try.prog 110 #[NumV ba pa la ca, NumV bb pb lb cb] w fun e w' => Row w w' e (val za + val zb) := by
  obtain ⟨i0, hi, hz0', hz1, hz2⟩ := info_parts infoInt
  have HA := Lib.hid ha; have HB := Lib.hid hb; have DA := Lib.hid da; have DB := Lib.hid db
  have za1 := Lib.hid ha.1; have zb1 := Lib.hid hb.1
  clear ha hb da db
  unfold NumV
  go_enter Try.func110, Try.ntmps110
  go_wp2_with fail
  go_loopw [5, 6, 7] (fun v5 v6 v7 wr => ∃ (c : Int) (k : Nat) (ds : List Int), k ≤ max la lb + 1 ∧ v6 = .int .i64 c ∧ v7 = .int .i64 k ∧ ds.length = k ∧ Dg ds ∧ 0 ≤ c ∧ c ≤ 1 ∧ val ds + p10 k * c = val (za.take k) + val (zb.take k) ∧ wr.ownsRow (w.heap.size + 2) 3 1 v5 ds.length (ds.map (Value.int .i64))
      ∧ Gr ((w.alloc (.cells #[.bool ba, .slice pa la ca] 88)).alloc (.cells #[.bool bb, .slice pb lb cb] 88)) wr) (fun _ _ v _ => 62 - (intOf v).toNat)
  case atStart => exact ⟨0, 0, [], by omega, rfl, rfl, rfl, Dg.nil, by decide, by decide, by simp [val, p10], World.ownsRow_nil _ _ _ _, Gr.refl _⟩
  case round =>
    obtain ⟨c, k, ds, hk, rfl, rfl, hl, hd, hc0, hc1, hv, hown, hg⟩ := hrel
    have hg0 : Gr w wr := (((Gr.refl w).alloc _).alloc _).trans hg
    have b1 : Blk wr w.heap.size [.bool ba, .slice pa la ca] := ((Blk.new (w := w) (T := 88) (vs := [.bool ba, .slice pa la ca]) rfl).alloc).gr hg
    have b2 : Blk wr (w.heap.size + 1) [.bool bb, .slice pb lb cb] := (Blk.new (w := w.alloc (.cells #[.bool ba, .slice pa la ca] 88)) (T := 88) (vs := [.bool bb, .slice pb lb cb]) (by simp)).gr hg
    have qa := b1.gw 0 rfl; have qb := b1.gw 1 rfl; have qc := b2.gw 0 rfl; have qd := b2.gw 1 rfl
    have c0 := b1.cell 0 rfl; have c1 := b1.cell 1 rfl; have c2 := b2.cell 0 rfl; have c3 := b2.cell 1 rfl
    clear b1 b2
    by_cases hlt : k < max la lb + 1
    · have hst := plus_step hv hl _ rfl
      have ka := digit_gw ba pa la ca za k (HA.out.later hg0) (by omega)
      have kb := digit_gw bb pb lb cb zb k (HB.out.later hg0) (by omega)
      have b9a := DA.out.dig k; have b9b := DB.out.dig k
      unfold NumV at ka kb
      generalize za.getD k 0 = x at *
      generalize zb.getD k 0 = y at *
      have hx1 : 0 ≤ (x + y + c) % 10 ∧ (x + y + c) % 10 ≤ 9 := by omega
      have hx2 : 0 ≤ (x + y + c) / 10 ∧ (x + y + c) / 10 ≤ 1 := by omega
      have HG := Lib.hid hg; have HS := Lib.hid hst; have HD := Lib.hid hd; have HOW := Lib.hid hown; have HL := Lib.hid hl
      clear hg hv hst hd hown hl hg0
      go_wp2_with fail
      all_goals
        refine wp_region_gr (W := wr) (by kernel_rfl) (by kernel_rfl) (Gr.refl _) ?_
        repeat (go_big_quiet_step (fail))
        go_big_quiet_want; go_big_quiet_op
        go_big_quiet_call (exact Calls.cw (ka _))
        repeat (go_big_quiet_step (fail))
        go_big_quiet_want; go_big_quiet_op
        go_big_quiet_call (exact Calls.cw (kb _))
        repeat (go_big_quiet_step (fail))
        refine wpQuiet_nil ?_
        rintro _ ⟨x1, rfl⟩
        have hx3 := x1.gr
        generalize x1.val = w2 at *
        have HX3 := Lib.hid hx3
        have how2 := owns_gr HOW.out hx3
        have hg2 := HG.out.trans hx3
        have HOW2 := Lib.hid how2; have HG2 := Lib.hid hg2
        clear HOW how2 hg2 hx3 HG qa qb qc qd c0 c1 c2 c3 ka kb
        go_wp2_with (first
          | (at_builtin; refine wpList_append_own _ rfl (.tmp 30) (.tmp 33) 86 rfl (w.heap.size + 2) 3 i0 (.int .i64 0) 1 8 Try.underlying86 hi hz0' hz1 hz2 rfl (by decide) _ _ _ rfl (HOW2.out.alloc _) ⟨w2.heap.size, 0, none⟩ 1 1 [_] rfl rfl (by exact one_new _ _ _) ?c3 ?c4 ?c5 ?c6 ?_))
        case c3 => first | (intro u hu; simp at hu; subst hu; rfl) | rfl
        case c4 => have := HL.out; unfold maxLen; omega
        case c5 => have := HL.out; omega
        case c6 => have := HG2.out.size; simp at this; simp; omega
        intro v' w1 hown1 hgrow _
        have hg1 : Gr ((w.alloc (.cells #[.bool ba, .slice pa la ca] 88)).alloc (.cells #[.bool bb, .slice pb lb cb] 88)) w1 := Below.grown (HG2.out.alloc _) hgrow (HG2.out.alloc _).size (fun k hk => by have := (HOW2.out.lt k hk).1; simp; omega)
        have HO1 := Lib.hid hown1; have HG1 := Lib.hid hg1
        clear hown1 hgrow hg1 HOW2 HG2
        go_wp2
        go_roundw
        case rel => exact ⟨_, k + 1, ds ++ [(x + y + c) % 10], by omega, by go_num, by go_num, by simp [HL.out], HD.out.append (Dg.one hx1), hx2.1, hx2.2, HS.out, by simpa using HO1.out, HG1.out⟩
        case measure => simp [intOf]; omega
    · have hke : k = max la lb + 1 := by omega
      have hf := plus_end hv hd DA.out DB.out hc0 (by have := za1.out; omega) (by have := zb1.out; omega)
      obtain ⟨a, cap, rfl, hrow, hcap, hnone, hbl⟩ := owned_row hown (by omega) (wf_dg hd)
      have HF := Lib.hid (show Row w wr (.returned (.slice a ds.length cap)) (val za + val zb) from ⟨a, ds.length, cap, ds, rfl, hrow, hd, hf, hcap, hnone, fun ad h => by have := hbl ad h; omega, hg0⟩)
      clear hown hf hrow hcap hnone hbl hd hg hv hg0
      subst hl
      rw [hke] at HF
      go_wp2
      all_goals
        go_ret
        exact HF.out
set_option maxHeartbeats 4000000 in
set_option maxRecDepth 100000 in
theorem minus_any (ba : Bool) (pa : Option Addr) (la ca : Nat) (za : List Int) (bb : Bool) (pb : Option Addr) (lb cb : Nat) (zb : List Int) (w : World) (ha : IsRow .i64 w pa la za) (hb : IsRow .i64 w pb lb zb) (da : Dg za) (db : Canon zb) (h60 : la ≤ 60) (hle : val zb ≤ val za) :
    Calls Try.prog 112 #[NumV ba pa la ca, NumV bb pb lb cb] w fun e w' => Row w w' e (val za - val zb) := by
  obtain ⟨i0, hi, hz0', hz1, hz2⟩ := info_parts infoInt
  have HLB := Lib.hid (len_of_val db da hle); have HLE := Lib.hid hle
  have HA := Lib.hid ha; have HB := Lib.hid hb; have DA := Lib.hid da; have DB := Lib.hid db.1
  have za1 := Lib.hid ha.1; have zb1 := Lib.hid hb.1
  clear ha hb da db hle
  unfold NumV
  go_enter Try.func112, Try.ntmps112
  go_wp2_with fail
  go_loopw [5, 6, 7] (fun v5 v6 v7 wr => ∃ (c : Int) (k : Nat) (ds : List Int), k ≤ la ∧ v6 = .int .i64 c ∧ v7 = .int .i64 k ∧ ds.length = k ∧ Dg ds ∧ 0 ≤ c ∧ c ≤ 1 ∧ val ds - p10 k * c = val (za.take k) - val (zb.take k) ∧ wr.ownsRow (w.heap.size + 2) 3 1 v5 ds.length (ds.map (Value.int .i64))
      ∧ Gr ((w.alloc (.cells #[.bool ba, .slice pa la ca] 88)).alloc (.cells #[.bool bb, .slice pb lb cb] 88)) wr) (fun _ _ v _ => 62 - (intOf v).toNat)
  case atStart => exact ⟨0, 0, [], by omega, rfl, rfl, rfl, Dg.nil, by decide, by decide, by simp [val, p10], World.ownsRow_nil _ _ _ _, Gr.refl _⟩
  case round =>
    obtain ⟨c, k, ds, hk, rfl, rfl, hl, hd, hc0, hc1, hv, hown, hg⟩ := hrel
    have hg0 : Gr w wr := (((Gr.refl w).alloc _).alloc _).trans hg
    have b1 : Blk wr w.heap.size [.bool ba, .slice pa la ca] := ((Blk.new (w := w) (T := 88) (vs := [.bool ba, .slice pa la ca]) rfl).alloc).gr hg
    have b2 : Blk wr (w.heap.size + 1) [.bool bb, .slice pb lb cb] := (Blk.new (w := w.alloc (.cells #[.bool ba, .slice pa la ca] 88)) (T := 88) (vs := [.bool bb, .slice pb lb cb]) (by simp)).gr hg
    have qa := b1.gw 0 rfl; have qb := b1.gw 1 rfl; have qc := b2.gw 0 rfl; have qd := b2.gw 1 rfl
    have c0 := b1.cell 0 rfl; have c1 := b1.cell 1 rfl; have c2 := b2.cell 0 rfl; have c3 := b2.cell 1 rfl
    clear b1 b2
    by_cases hlt : k < la
    · have ka := digit_gw ba pa la ca za k (HA.out.later hg0) (by omega)
      have kb := digit_gw bb pb lb cb zb k (HB.out.later hg0) (by omega)
      have b9a := DA.out.dig k; have b9b := DB.out.dig k
      have hst : ∀ c' d : Int, d - 10 * c' = za.getD k 0 - zb.getD k 0 - c → _ := fun c' d h => minus_step hv hl h
      unfold NumV at ka kb
      generalize za.getD k 0 = x at *
      generalize zb.getD k 0 = y at *
      have HG := Lib.hid hg; have HS := Lib.hid hst; have HD := Lib.hid hd; have HOW := Lib.hid hown; have HL := Lib.hid hl
      clear hg hv hst hd hown hl hg0
      go_wp2_with fail
      refine wp_region_gr (W := wr) (by kernel_rfl) (by kernel_rfl) (Gr.refl _) ?_
      repeat (go_big_quiet_step (fail))
      go_big_quiet_want; go_big_quiet_op
      go_big_quiet_call (exact Calls.cw (ka _))
      repeat (go_big_quiet_step (fail))
      go_big_quiet_want; go_big_quiet_op
      go_big_quiet_call (exact Calls.cw (kb _))
      repeat (go_big_quiet_step (fail))
      refine wpQuiet_nil ?_
      rintro _ ⟨x1, rfl⟩
      have hx3 := x1.gr
      generalize x1.val = w2 at *
      have how2 := owns_gr HOW.out hx3
      have hg2 := HG.out.trans hx3
      have HOW2 := Lib.hid how2; have HG2 := Lib.hid hg2
      clear HOW how2 hg2 hx3 HG qa qb qc qd c0 c1 c2 c3 ka kb
      by_cases hneg : x - y - c < 0
      all_goals
        go_wp2_with (first
          | (at_builtin; refine wpList_append_own _ rfl (.tmp 29) (.tmp 31) 86 rfl (w.heap.size + 2) 3 i0 (.int .i64 0) 1 8 Try.underlying86 hi hz0' hz1 hz2 rfl (by decide) _ _ _ rfl (HOW2.out.alloc _) ⟨w2.heap.size, 0, none⟩ 1 1 [_] rfl rfl (by exact one_new _ _ _) ?c3 ?c4 ?c5 ?c6 ?_))
        case c3 => first | (intro u hu; simp at hu; subst hu; rfl) | rfl
        case c4 => have := HL.out; unfold maxLen; omega
        case c5 => have := HL.out; omega
        case c6 => have := HG2.out.size; simp at this; simp; omega
        intro v' w1 hown1 hgrow _
        have hg1 : Gr ((w.alloc (.cells #[.bool ba, .slice pa la ca] 88)).alloc (.cells #[.bool bb, .slice pb lb cb] 88)) w1 := Below.grown (HG2.out.alloc _) hgrow (HG2.out.alloc _).size (fun k hk => by have := (HOW2.out.lt k hk).1; simp; omega)
        have HO1 := Lib.hid hown1; have HG1 := Lib.hid hg1
        clear hown1 hgrow hg1 HOW2 HG2
        go_wp2
        go_roundw
        case rel =>
          first
            | exact ⟨1, k + 1, ds ++ [x - y - c + 10], by omega, by go_num, by go_num, by simp [HL.out], HD.out.append (Dg.one (by omega)), by decide, by decide, HS.out 1 _ (by omega), by simpa using HO1.out, HG1.out⟩
            | exact ⟨0, k + 1, ds ++ [x - y - c], by omega, by go_num, by go_num, by simp [HL.out], HD.out.append (Dg.one (by omega)), by decide, by decide, HS.out 0 _ (by omega), by simpa using HO1.out, HG1.out⟩
        case measure => simp [intOf]; omega
    · have hke : k = la := by omega
      have hll : ds.length = za.length := by have := za1.out; omega
      have hf := minus_end (by rw [hke, ← za1.out] at hv; exact hv) hd hll hc0 HLB.out HLE.out
      obtain ⟨a, cap, rfl, hrow, hcap, hnone, hbl⟩ := owned_row hown (by omega) (wf_dg hd)
      have HF := Lib.hid (show Row w wr (.returned (.slice a ds.length cap)) (val za - val zb) from ⟨a, ds.length, cap, ds, rfl, hrow, hd, hf, hcap, hnone, fun ad h => by have := hbl ad h; omega, hg0⟩)
      clear hown hf hrow hcap hnone hbl hd hg hv hg0 hll
      subst hl
      go_wp2
      go_ret
      exact HF.out
end Bg
end Go.Proofs.Ytfpnkcmplmkghaa
