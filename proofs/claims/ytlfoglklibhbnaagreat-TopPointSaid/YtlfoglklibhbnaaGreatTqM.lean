/- Parts of the proof of TopPoint. No condition of their own. -/
import Derived.Test.YtlfoglklibhbnaaGreatTqL
import Derived.Test.YtlfoglklibhbnaaGreatTpL
import Derived.Test.YtlfoglklibhbnaaGreatTpM
set_option linter.unusedVariables false
set_option linter.unusedSimpArgs false
namespace Go.Proofs.YtlfoglklibhbnaaGreat
open Go.RowKit Go.Shelf
attribute [local go_sem] Oper.semAt_some
namespace Mt
open Ro
def codesO : Code → Option (Code × Code)
 | .seq _ (.seq _ (.seq _ (.seq _ (.seq _ (.seq (.seq _ (.block _ l)) r))))) => some (l, r)
 | _ => none
def OwI (w : World) (W : Int) (wn hn g b3 b11 : Nat) (a : Option Addr) (len cap : Nat) (zs : List (List Int)) (A : Act) (wr : World) : Prop :=
 ∃ (ds : List Deferred) (i : Nat) (x51 : Int) (u0 u1 u2 u4 u5 u6 u7 u8 u9 u10 u12 u13 u14 u15 u16 u17 u18 u19 u20 u21 u22 u23 u24 u25 u26 u27 u28 u29 u30 u31 u32 u33 u34 u35 u36 u37 u38 u39 u40 u41 u42 u43 u44 u45 u46 u47 u48 u52 u53 u54 u55 u56 u57 u58 u59 u60 u61 u62 u63 u64 u65 u66 u67 u68 u69 u70 u71 u72 u73 u74 u75 u76 u77 u78 u79 u80 u81 u82 u83 u84 u85 u86 : Value), A.defers = ds ∧ A.tmps.toList = [u0, u1, u2, .pointer (some ⟨b3, 0, none⟩), u4, u5, u6, u7, u8, u9, u10, .pointer (some ⟨b11, 0, none⟩), u12, u13, u14, u15, u16, u17, u18, u19, u20, u21, u22, u23, u24, u25, u26, u27, u28, u29, u30, u31, u32, u33, u34, u35, u36, u37, u38, u39, u40, u41, u42, u43] ++ [u44, u45, u46, u47, u48, .slice a len cap, .int .i64 len, .int .i64 x51, u52, u53, u54, u55, u56, u57, u58, u59, u60, u61, u62, u63, u64, u65, u66, u67, u68, u69, u70, u71, u72, u73, u74, u75, u76, u77, u78, u79, u80, u81, u82, u83, u84, u85, u86] ∧ x51 = i ∧ i ≤ len ∧ Bx wr b3 3 [.int .i64 W] ∧ Bx wr b11 50 [.slice (some ⟨g, 0, none⟩) (wn * hn) (wn * hn)] ∧
  Bx wr g 3 ((outL zs wn hn i).map (Value.int .i64)) ∧ Gr w wr ∧ Marks w.heap.size ds wr
theorem act_eq {A : Act} {ds : List Deferred} {l : List Value} (h1 : A.defers = ds) (h2 : A.tmps.toList = l) : A = { tmps := l.toArray, defers := ds } := by
 subst h1 h2
 cases A
 simp
theorem not_def {w : World} {b : Nat} {T : TypeId} {vs : List Value} (h : Bx w b T vs) : w.heap[b]? ≠ some (.deferred (some [])) := by
 rw [show w.heap[b]? = _ from h]; simp
theorem box_iter (lb hb : Nat) (lx ly hx hy : Int) (X0 Y0 : Nat) (nx ny : Nat) (S : Nat → Prop) (W : World)
  (b0 : 0 ≤ lx ∧ lx ≤ hx ∧ hx ≤ 4096) (b1 : 0 ≤ ly ∧ ly ≤ hy ∧ hy ≤ 4096) (eX : (X0 : Int) = max (lx - 1) 0) (eY : (Y0 : Int) = max (ly - 1) 0) (enx : (X0 : Int) + nx = hx + 1) (eny : (Y0 : Int) + ny = hy + 1)
  (hL : Bx W lb 38 [.int .i64 lx, .int .i64 ly]) (hH : Bx W hb 38 [.int .i64 hx, .int .i64 hy]) (hSl : ¬ S lb) (hSh : ¬ S hb) :
  IterOk Tryz.prog 62 #[.pointer (some ⟨lb, 0, none⟩), .pointer (some ⟨hb, 0, none⟩)] (nx * ny) (fun k xs _ => xs = #[.int .i64 ((X0 + k % nx : Nat) : Int), .int .i64 ((Y0 + k / nx : Nat) : Int)]) S W :=
 fun n l J Jx hJ hY h0 => box1_in n l lb hb lx ly hx hy X0 Y0 nx ny S W J Jx hJ (fun k W1 hk hj => hY k _ W1 hk hj (by show _ = _; rw [Int.natCast_add, Int.natCast_add])) b0 b1 eX eY enx eny hL hH hSl hSh h0
theorem calls_round {P : Program} {f : FuncId} {args : Array Value} {w : World} {l n : Nat} {R : Ending → World → Prop} (h : Calls P f args w R) : CallsIn (Fence.wide.inRound l) n P f args w R :=
 ⟨trivial, (callsIn_wide.2 h).2⟩
theorem bx_set5 {w : World} {b : Nat} {T : TypeId} {vs : List Value} (h : Bx w b T vs) (i : Nat) (v : Value) : Bx (w.setCell ⟨b, i, none⟩ v) b T (vs.set i v) := by
 unfold Bx at *
 unfold World.setCell
 simp [Array.getElem?_modify, h]
theorem bx_far5 {w : World} {b : Nat} {T : TypeId} {vs : List Value} (h : Bx w b T vs) {p : Addr} (hp : b ≠ p.block) (v : Value) : Bx (w.setCell p v) b T vs := (Below.heap_setCell w p v b hp).trans h
theorem ks_at5 {w : World} {p : Addr} {v : Value} {g : Nat} (h : p.block = g) : Ks (fun k => k = g) w (w.setCell p v) :=
 ⟨rfl, rfl, rfl, by simp [World.setCell], fun k _ hk => Below.heap_setCell w p v k (fun e => hk (by rw [e]; exact h))⟩
theorem nob_iff {W H x y : Int} (h : oddB W H x y = false) : 0 ≤ x ∧ 0 ≤ y ∧ x < 16 * W ∧ y < 16 * H := by
 unfold oddB at h
 simp only [Bool.or_eq_false_iff, decide_eq_false_iff_not] at h
 omega
set_option maxHeartbeats 16000000 in
set_option maxRecDepth 100000 in
theorem loop2_round (w : World) (W H : Int) (wn hn g b3 b11 : Nat) (eW : W = wn) (eH : H = hn) (hW : W ≤ 256) (hH : H ≤ 256) (a : Option Addr) (len cap : Nat) (zs : List (List Int)) (hr : Oi.IsRows 6 w a len zs) (hl0 : len ≤ 1000)
  (hok : ∀ j, j < len → badT W H (zs.getD j []) = false) (hg0 : w.heap.size ≤ g) (hb3 : w.heap.size ≤ b3) (hb11 : w.heap.size ≤ b11) (hne1 : g ≠ b3) (hne2 : g ≠ b11)
  (l r : Code) (hl : Tryz.f14.body.bind codesO = some (.loop l, r)) (Q : Exit → Act → World → Prop) (hQ : ¬ LetsOut Q)
  (hend : ∀ A wr, OwI w W wn hn g b3 b11 a len cap zs A wr → (∀ i, A.tmps.getD 51 undef = .int .i64 i → i = len) → Q (.exit 2) A wr)
  (A : Act) (wr : World) (hI : OwI w W wn hn g b3 b11 a len cap zs A wr) :
  l.wpIn Fence.wide 9 Tryz.prog (Exit.then (fun A' wr' => OwI w W wn hn g b3 b11 a len cap zs A' wr' ∧ len - (intOf (A'.tmps.getD 51 undef)).toNat < len - (intOf (A.tmps.getD 51 undef)).toNat) Q) A wr := by
 obtain ⟨ds, i, x51, u0, u1, u2, u4, u5, u6, u7, u8, u9, u10, u12, u13, u14, u15, u16, u17, u18, u19, u20, u21, u22, u23, u24, u25, u26, u27, u28, u29, u30, u31, u32, u33, u34, u35, u36, u37, u38, u39, u40, u41, u42, u43, u44, u45, u46, u47, u48, u52, u53, u54, u55, u56, u57, u58, u59, u60, u61, u62, u63, u64, u65, u66, u67, u68, u69, u70, u71, u72, u73, u74, u75, u76, u77, u78, u79, u80, u81, u82, u83, u84, u85, u86, eA1, eA2, rfl, hi, h3, h11, hgx, hgr, hmk⟩ := hI
 obtain rfl := act_eq eA1 eA2
 clear eA1 eA2
 simp only [List.cons_append, List.nil_append]
 simp only [Option.bind, codesO, Tryz.f14, Option.some.injEq, Prod.mk.injEq, Code.loop.injEq] at hl
 obtain ⟨rfl, rfl⟩ := hl
 have hlen := hr.1
 have HR := Lib.hid hr; have H3 := Lib.hid h3; have H11 := Lib.hid h11; have HGX := Lib.hid hgx; have HGR := Lib.hid hgr; have HMK := Lib.hid hmk; have HEND := Lib.hid hend; have HOK := Lib.hid hok
 have hsw := hgr.size
 clear hr h3 h11 hgx hgr hmk hend hok
 by_cases hlt : i < len
 ·obtain ⟨b, off, t0, t1, t2, t3, t4, t5, rfl, hbl, ez, c0, c1, c2, c3, c4, c5⟩ := rows6_at (HR.out.later HGR.out) hlt
  have hb := HOK.out i hlt
  rw [ez] at hb
  have hbe : badT W H [t0, t1, t2, t3, t4, t5] = ((oddB W H t0 t1 || (oddB W H t2 t3 || oddB W H t4 t5)) || !Sx.rgt [t0, t1, t2, t3, t4, t5]) := rfl
  rw [hbe] at hb
  simp only [Bool.or_eq_false_iff] at hb
  obtain ⟨⟨o1, o2, o3⟩, o4⟩ := hb
  obtain ⟨p0, p1, p2, p3⟩ := nob_iff o1
  obtain ⟨p4, p5, p6, p7⟩ := nob_iff o2
  obtain ⟨p8, p9, p10, p11⟩ := nob_iff o3
  obtain ⟨X0, eX⟩ : ∃ X0 : Nat, (X0 : Int) = max (mn3 t0 t2 t4 / 16 - 1) 0 := ⟨(max (mn3 t0 t2 t4 / 16 - 1) 0).toNat, by omega⟩
  obtain ⟨Y0, eY⟩ : ∃ Y0 : Nat, (Y0 : Int) = max (mn3 t1 t3 t5 / 16 - 1) 0 := ⟨(max (mn3 t1 t3 t5 / 16 - 1) 0).toNat, by omega⟩
  have bX : 0 ≤ mn3 t0 t2 t4 / 16 ∧ mn3 t0 t2 t4 / 16 ≤ mx3 t0 t2 t4 / 16 ∧ mx3 t0 t2 t4 / 16 < wn := by unfold mn3 mx3; omega
  have bY : 0 ≤ mn3 t1 t3 t5 / 16 ∧ mn3 t1 t3 t5 / 16 ≤ mx3 t1 t3 t5 / 16 ∧ mx3 t1 t3 t5 / 16 < hn := by unfold mn3 mx3; omega
  obtain ⟨nx, enx⟩ : ∃ nx : Nat, (X0 : Int) + nx = mx3 t0 t2 t4 / 16 + 1 := ⟨(mx3 t0 t2 t4 / 16 + 1 - X0).toNat, by omega⟩
  obtain ⟨ny, eny⟩ : ∃ ny : Nat, (Y0 : Int) + ny = mx3 t1 t3 t5 / 16 + 1 := ⟨(mx3 t1 t3 t5 / 16 + 1 - Y0).toNat, by omega⟩
  have hXw : X0 + nx ≤ wn := by omega
  have hYh : Y0 + ny ≤ hn := by omega
  have hnx1 : 0 < nx := by omega
  have ALL := Lib.hid (rnd_all (zs := zs) (i := i) (w := wn) (h := hn) ez eX eY enx eny hXw hYh)
  have hwn : wn ≤ 256 := by omega
  have hhn : hn ≤ 256 := by omega
  have HBX := Lib.hid bX; have HBY := Lib.hid bY; have EX := Lib.hid eX; have EY := Lib.hid eY; have ENX := Lib.hid enx; have ENY := Lib.hid eny; have EZ := Lib.hid ez
  have q0 : 0 ≤ t0 ∧ t0 ≤ 4096 := by omega
  have q1 : 0 ≤ t1 ∧ t1 ≤ 4096 := by omega
  have q2 : 0 ≤ t2 ∧ t2 ≤ 4096 := by omega
  have q3 : 0 ≤ t3 ∧ t3 ≤ 4096 := by omega
  have q4 : 0 ≤ t4 ∧ t4 ≤ 4096 := by omega
  have q5 : 0 ≤ t5 ∧ t5 ≤ 4096 := by omega
  clear bX bY eX eY enx eny ez o1 o2 o3 o4 p0 p1 p2 p3 p4 p5 p6 p7 p8 p9 p10 p11 hbe
  have hi0 : (0 : Int) ≤ (i : Int) := by omega
  subst eW eH
  gi_wp2
  refine ⟨trivial, ?_⟩
  refine (callsIn_wide.2 (box_any_ra t0 t1 t2 t3 t4 t5 q0 q1 q2 q3 q4 q5 _)).mono ?_
  rintro e w4 ⟨rfl, hlow, hhigh, hg4⟩
  simp only [World.size_alloc] at hlow hhigh ⊢
  have x12 : Bx w4 wr.heap.size 3 [.int .i64 i] := ((Bx.new (vs := [.int .i64 i]) rfl).alloc _).gr hg4
  have x13 : Bx w4 (wr.heap.size + 1) 39 [.int .i64 t0, .int .i64 t1, .int .i64 t2, .int .i64 t3, .int .i64 t4, .int .i64 t5] := (Bx.new (w := wr.alloc (.cells #[.int .i64 i] 3)) (vs := [.int .i64 t0, .int .i64 t1, .int .i64 t2, .int .i64 t3, .int .i64 t4, .int .i64 t5]) (by simp)).gr hg4
  have x3 := ((H3.out.alloc (.cells #[.int .i64 i] 3)).alloc (.cells #[.int .i64 t0, .int .i64 t1, .int .i64 t2, .int .i64 t3, .int .i64 t4, .int .i64 t5] 39)).gr hg4
  have x11 := ((H11.out.alloc (.cells #[.int .i64 i] 3)).alloc (.cells #[.int .i64 t0, .int .i64 t1, .int .i64 t2, .int .i64 t3, .int .i64 t4, .int .i64 t5] 39)).gr hg4
  have xg := ((HGX.out.alloc (.cells #[.int .i64 i] 3)).alloc (.cells #[.int .i64 t0, .int .i64 t1, .int .i64 t2, .int .i64 t3, .int .i64 t4, .int .i64 t5] 39)).gr hg4
  have g14 : Gr wr w4 := (((Gr.refl wr).alloc (.cells #[.int .i64 i] 3)).alloc (.cells #[.int .i64 t0, .int .i64 t1, .int .i64 t2, .int .i64 t3, .int .i64 t4, .int .i64 t5] 39)).trans hg4
  have mk4 := Marks.ks (Ks.of_gr (S := fun _ => False) g14) (fun r h => h.elim) HMK.out
  have lt4 := hhigh.lt
  have ltg := HGX.out.lt
  have lt3 := H3.out.lt
  have lt11 := H11.out.lt
  have X12 := Lib.hid x12; have X13 := Lib.hid x13; have X3 := Lib.hid x3; have X11 := Lib.hid x11; have XG := Lib.hid xg; have G14 := Lib.hid g14; have MK4 := Lib.hid mk4; have HLOW := Lib.hid hlow; have HHIGH := Lib.hid hhigh
  clear x12 x13 x3 x11 xg g14 mk4 hlow hhigh hg4 c0 c1 c2 c3 c4 c5
  gi_wp2
  have hLo : (0 ≤ mn3 t0 t2 t4 / 16 ∧ mn3 t0 t2 t4 / 16 ≤ mx3 t0 t2 t4 / 16 ∧ mx3 t0 t2 t4 / 16 ≤ 4096) ∧ (0 ≤ mn3 t1 t3 t5 / 16 ∧ mn3 t1 t3 t5 / 16 ≤ mx3 t1 t3 t5 / 16 ∧ mx3 t1 t3 t5 / 16 ≤ 4096) := by have := HBX.out; have := HBY.out; omega
  have HLO := Lib.hid hLo
  clear hLo
  have hpos : ∀ k, k < nx * ny → X0 + k % nx < wn ∧ Y0 + k / nx < hn := by
   intro k hk
   have h1 := Nat.mod_lt k hnx1
   have h2 : k / nx < ny := Nat.div_lt_of_lt_mul hk
   omega
  have HPOS := Lib.hid hpos
  clear hpos
  refine rf_law (n := 9) (gf := 62) (lb := #[.pointer (some ⟨wr.heap.size + 1 + 1 + 1, 0, none⟩), .pointer (some ⟨wr.heap.size + 1 + 1 + 2, 0, none⟩)]) rfl (enters_of Tryz.func62 (by kernel_rfl) rfl) (nx * ny) (fun k xs _ => xs = #[.int .i64 ((X0 + k % nx : Nat) : Int), .int .i64 ((Y0 + k / nx : Nat) : Int)]) (fun k => k = g) ?hS ?hit
   (fun k W4 => Bx W4 g 3 ((rnd [t0, t1, t2, t3, t4, t5] i wn X0 Y0 nx (outL zs wn hn i) k).map (Value.int .i64)) ∧ Bx W4 b3 3 [.int .i64 (wn : Int)] ∧ Bx W4 b11 50 [.slice (some ⟨g, 0, none⟩) (wn * hn) (wn * hn)] ∧ Bx W4 wr.heap.size 3 [.int .i64 i] ∧ Bx W4 (wr.heap.size + 1) 39 [.int .i64 t0, .int .i64 t1, .int .i64 t2, .int .i64 t3, .int .i64 t4, .int .i64 t5]) (fun _ _ => False) ?hI ?hIx ?hPx ?hsz ?h0
   (fun xs => { tmps := #[u0, u1, u2, .pointer (some ⟨b3, 0, none⟩), u4, u5, u6, u7, u8, u9, u10, .pointer (some ⟨b11, 0, none⟩), .pointer (some ⟨wr.heap.size, 0, none⟩), .pointer (some ⟨wr.heap.size + 1, 0, none⟩), xs.getD 0 undef, xs.getD 1 undef, u16, u17, u18, u19, u20, u21, u22, u23, u24, u25, u26, u27, u28, u29, u30, u31, u32, u33, u34, u35, u36, u37, u38, u39, u40, u41, u42, u43, u44, u45, u46, u47, u48, .slice (some ⟨b, off, none⟩) len cap, .int .i64 len, .int .i64 i, .bool true, .int .i64 i, .pointer (some ⟨b, off + i * 6, none⟩), .agg #[.int .i64 t0, .int .i64 t1, .int .i64 t2, .int .i64 t3, .int .i64 t4, .int .i64 t5], .agg #[.int .i64 t0, .int .i64 t1, .int .i64 t2, .int .i64 t3, .int .i64 t4, .int .i64 t5], .func (.func 62) #[] #[.pointer (some ⟨wr.heap.size + 1 + 1 + 1, 0, none⟩), .pointer (some ⟨wr.heap.size + 1 + 1 + 2, 0, none⟩)], xs.getD 0 undef, xs.getD 1 undef, u60, u61, u62, u63, u64, u65, u66, u67, u68, u69, u70, u71, u72, u73, u74, u75, u76, u77, u78, u79, u80, u81, u82, u83, u84, u85, u86], defers := [] }) ?assign ?body ?done ?stop
  case hS => rintro k rfl; omega
  case hit =>
   intro W1 hg1 hs1
   exact box_iter _ _ _ _ _ _ X0 Y0 nx ny _ W1 HLO.out.1 HLO.out.2 EX.out EY.out ENX.out ENY.out (HLOW.out.gr hg1) (HHIGH.out.gr hg1) (by omega) (by omega)
  case hI =>
   rintro k A B ⟨h1, h2, h3, h4, h5⟩ hk hs
   exact ⟨h1.ks hk (by omega), h2.ks hk (by omega), h3.ks hk (by omega), h4.ks hk (by omega), h5.ks hk (by omega)⟩
  case hIx => rintro c A B h; exact h.elim
  case hPx => exact fun k xs A B h hk => h
  case hsz => rintro k xs A rfl; rfl
  case h0 => exact ⟨XG.out, X3.out, X11.out, X12.out, X13.out⟩
  case assign =>
   rintro l m k xs W4 K rfl hK
   gi_wp2
   exact hK
  case body =>
   rintro l m k xs W4 hk ⟨hgx, h3, h11, h12, h13⟩ rfl hks hsz
   obtain ⟨hx, hy⟩ := HPOS.out k hk
   have hlenR : (rnd [t0, t1, t2, t3, t4, t5] i wn X0 Y0 nx (outL zs wn hn i) k).length = wn * hn := by rw [rnd_len, outL_len]
   have hsucc : rnd [t0, t1, t2, t3, t4, t5] i wn X0 Y0 nx (outL zs wn hn i) (k + 1) = upd [t0, t1, t2, t3, t4, t5] i wn (X0 + k % nx) (Y0 + k / nx) (rnd [t0, t1, t2, t3, t4, t5] i wn X0 Y0 nx (outL zs wn hn i) k) := rfl
   have hxn : ∃ x, X0 + k % nx = x := ⟨_, rfl⟩
   have hyn : ∃ y, Y0 + k / nx = y := ⟨_, rfl⟩
   obtain ⟨x, hxn⟩ := hxn
   obtain ⟨y, hyn⟩ := hyn
   rw [hxn, hyn] at hsucc
   rw [hxn] at hx
   rw [hyn] at hy
   simp only [hxn, hyn]
   generalize rnd [t0, t1, t2, t3, t4, t5] i wn X0 Y0 nx (outL zs wn hn i) (k + 1) = R' at *
   generalize rnd [t0, t1, t2, t3, t4, t5] i wn X0 Y0 nx (outL zs wn hn i) k = R at *
   have hpM : y * wn + x < wn * hn := by
    have h1 : (y + 1) * wn ≤ hn * wn := Nat.mul_le_mul_right _ (by omega)
    rw [Nat.add_mul, Nat.mul_comm hn wn] at h1; omega
   have hM2 : wn * hn ≤ 65536 := Nat.mul_le_mul (by omega : wn ≤ 256) (by omega : hn ≤ 256)
   have hp2 : y * wn ≤ 65536 := by omega
   have hmulc : (y : Int) * (wn : Int) = ((y * wn : Nat) : Int) := (Int.natCast_mul y wn).symm
   unfold upd at hsucc
   obtain ⟨p, hp⟩ : ∃ p, y * wn = p := ⟨_, rfl⟩
   obtain ⟨q, hq⟩ : ∃ q, p + x = q := ⟨_, rfl⟩
   obtain ⟨M, hM⟩ : ∃ M, wn * hn = M := ⟨_, rfl⟩
   rw [hp, hq] at hsucc hpM
   rw [hp] at hp2 hmulc
   rw [hM] at hpM hM2 h11 hlenR
   have u1 : IntKind.i64.wrap ((y : Int) * (wn : Int)) = (p : Int) := by rw [hmulc]; exact IntWalk.i64_in _ (by omega)
   have u2 : IntKind.i64.wrap ((p : Int) + (x : Int)) = (q : Int) := by rw [← Int.natCast_add, hq]; exact IntWalk.i64_in _ (by omega)
   have hvR : (R.map (Value.int .i64))[q]? = some (.int .i64 (R.getD q 0)) := by
    rw [List.getElem?_map, List.getElem?_eq_getElem (by omega)]; simp [List.getD, List.getElem?_eq_getElem (show q < R.length by omega)]
   have cg := hgx.blk.cell q hvR
   have c3 := h3.blk.cell 0 rfl
   have c11 := h11.blk.cell 0 rfl
   have hq0 : (0 : Int) ≤ (q : Int) := by omega
   have hqM : (q : Int) < (M : Int) := by omega
   have lg := hgx.lt; have l3 := h3.lt; have l11 := h11.lt; have l12 := h12.lt; have l13 := h13.lt
   have HGX := Lib.hid hgx; have H3 := Lib.hid h3; have H11 := Lib.hid h11; have H12 := Lib.hid h12; have H13 := Lib.hid h13; have HS := Lib.hid hsucc; have HVR := Lib.hid hvR; have HM := Lib.hid hM
   clear hgx h3 h11 h12 h13 hsucc hvR hks hsz hmulc hp hq hxn hyn hM
   by_cases hv : R.getD q 0 = -1
   ·rw [hv] at cg
    have HV := Lib.hid hv
    clear hv
    have d0 := H13.out.blk.cell 0 rfl; have d1 := H13.out.blk.cell 1 rfl; have d2 := H13.out.blk.cell 2 rfl; have d3 := H13.out.blk.cell 3 rfl; have d4 := H13.out.blk.cell 4 rfl; have d5 := H13.out.blk.cell 5 rfl
    gi_wp2
    refine ⟨trivial, (fun h => by cases h), ?_⟩
    refine (calls_round (covers_raw (x : Int) (y : Int) t0 t1 t2 t3 t4 t5 _)).mono ?_
    rintro e W5 ⟨rfl, hg5⟩
    have HGX5 := Lib.hid (HGX.out.gr hg5); have H35 := Lib.hid (H3.out.gr hg5); have H115 := Lib.hid (H11.out.gr hg5); have H125 := Lib.hid (H12.out.gr hg5); have H135 := Lib.hid (H13.out.gr hg5)
    have K5 := Lib.hid (Ks.of_gr (S := fun k => k = g) hg5)
    clear d0 d1 d2 d3 d4 d5 c3 c11 cg lg l3 l11 l12 l13 hg5
    have cg := HGX5.out.blk.cell q HVR.out
    have fg := HGX5.out.blk.free q HVR.out
    have c3 := H35.out.blk.cell 0 rfl
    have c11 := H115.out.blk.cell 0 rfl
    have c12 := H125.out.blk.cell 0 rfl
    have lg := HGX5.out.lt; have l3 := H35.out.lt; have l11 := H115.out.lt; have l12 := H125.out.lt
    cases hc : cov [t0, t1, t2, t3, t4, t5] (x : Int) (y : Int)
    ·have eR : R' = R := by have := HS.out; rw [hc] at this; simpa using this
     have ER := Lib.hid eR
     clear eR
     gi_wp2
     refine ⟨K5.out, ?_⟩
     rw [ER.out]
     exact ⟨HGX5.out, H35.out, by rw [HM.out]; exact H115.out, H125.out, H135.out⟩
    ·have eR : R' = R.set q (i : Int) := by have := HS.out; rw [hc, HV.out] at this; simpa using this
     have ER := Lib.hid eR
     clear eR
     gi_wp2
     refine ⟨K5.out.trans (ks_at5 rfl), ?_⟩
     rw [ER.out, List.map_set]
     exact ⟨bx_set5 HGX5.out q _, bx_far5 H35.out (by simpa using hne1.symm) _, by rw [HM.out]; exact bx_far5 H115.out (by simpa using hne2.symm) _, bx_far5 H125.out (by simp; omega) _, bx_far5 H135.out (by simp; omega) _⟩
   ·have hv2 : (R.getD q 0 == -1) = false := by simpa using hv
    have HV := Lib.hid hv
    have eR : R' = R := by have := HS.out; rw [if_neg (fun h => hv h.1)] at this; exact this
    have ER := Lib.hid eR
    clear hv eR
    generalize R.getD q 0 = v at *
    gi_wp2
    refine ⟨Ks.refl _ _, ?_⟩
    rw [ER.out]
    exact ⟨HGX.out, H3.out, by rw [HM.out]; exact H11.out, H12.out, H13.out⟩
  case done =>
   rintro W4 ⟨hgx, h3, h11, h12, h13⟩ hks hK
   rw [ALL.out] at hgx
   have mkW := Marks.ks hks (by
    rintro r (rfl | rfl | rfl)
    ·exact not_def XG.out
    ·rw [Array.getElem?_eq_none (Nat.le_refl _)]; simp
    ·rw [Array.getElem?_eq_none (by omega)]; simp) MK4.out
   have hnew : ∀ d' ∈ ds, d' ≠ ({ target := .collected w4.heap.size, args := #[] } : Deferred) := by
    intro d' hd e
    obtain ⟨r, e2, hr⟩ := Marks.lt MK4.out d' hd
    rw [e] at e2
    simp at e2
    omega
   have hgrW : Gr w W4 := hks.gr (HGR.out.trans G14.out) (by intro k hk h; have := G14.out.size; omega)
   have hsw4 := G14.out.size
   have MKW := Lib.hid mkW; have HNEW := Lib.hid hnew; have HGW := Lib.hid hgrW; have H3W := Lib.hid h3; have H11W := Lib.hid h11; have HGXW := Lib.hid hgx; have HKW := Lib.hid hK
   clear mkW hnew hgrW h3 h11 hgx hK h12 h13 hks
   gi_wp2
   exact ⟨⟨{ target := .collected w4.heap.size, args := #[] } :: ds, i + 1, (i : Int) + 1, u0, u1, u2, u4, u5, u6, u7, u8, u9, u10, .pointer (some ⟨wr.heap.size, 0, none⟩), .pointer (some ⟨wr.heap.size + 1, 0, none⟩), u14, u15, u16, u17, u18, u19, u20, u21, u22, u23, u24, u25, u26, u27, u28, u29, u30, u31, u32, u33, u34, u35, u36, u37, u38, u39, u40, u41, u42, u43, u44, u45, u46, u47, u48, .bool true, .int .i64 i, .pointer (some ⟨b, off + i * 6, none⟩), .agg #[.int .i64 t0, .int .i64 t1, .int .i64 t2, .int .i64 t3, .int .i64 t4, .int .i64 t5], .agg #[.int .i64 t0, .int .i64 t1, .int .i64 t2, .int .i64 t3, .int .i64 t4, .int .i64 t5], .func (.func 62) #[] #[.pointer (some ⟨wr.heap.size + 1 + 1 + 1, 0, none⟩), .pointer (some ⟨wr.heap.size + 1 + 1 + 2, 0, none⟩)], u58, u59, u60, u61, u62, u63, u64, u65, u66, u67, u68, u69, u70, u71, u72, u73, u74, u75, u76, u77, u78, u79, u80, u81, u82, u83, u84, .int .i64 ((i : Int) + 1), u86, rfl, rfl, by omega, by omega, H3W.out, H11W.out, HGXW.out, HGW.out, ⟨⟨w4.heap.size, rfl, by omega, HKW.out, HNEW.out⟩, MKW.out⟩⟩, by (simp [intOf]; omega)⟩
  case stop => rintro c W h; exact h.elim
 ·have hil : i = len := by omega
  gi_wp2
  exact HEND.out _ _ ⟨ds, i, (i : Int), u0, u1, u2, u4, u5, u6, u7, u8, u9, u10, u12, u13, u14, u15, u16, u17, u18, u19, u20, u21, u22, u23, u24, u25, u26, u27, u28, u29, u30, u31, u32, u33, u34, u35, u36, u37, u38, u39, u40, u41, u42, u43, u44, u45, u46, u47, u48, .bool false, u53, u54, u55, u56, u57, u58, u59, u60, u61, u62, u63, u64, u65, u66, u67, u68, u69, u70, u71, u72, u73, u74, u75, u76, u77, u78, u79, u80, u81, u82, u83, u84, u85, u86, rfl, rfl, rfl, by omega, H3.out, H11.out, HGX.out, HGR.out, HMK.out⟩ (fun j e => by simp at e; omega)
end Mt
end Go.Proofs.YtlfoglklibhbnaaGreat
namespace Go.Proofs.YtlfoglklibhbnaaGreat
open Go.RowKit Go.Shelf
attribute [local go_sem] Oper.semAt_some
namespace Mt
open Ro
theorem row_bx_ra {w : World} {b : Nat} {T : TypeId} {l : List Int} (h : Bx w b T (l.map (Value.int .i64))) (hl : l.length ≤ 9223372036854775807) (hI : ∀ n ∈ l, (Lit.int .i64 n).wf = true) : IsRow .i64 w (some ⟨b, 0, none⟩) l.length l := by
 refine ⟨rfl, hl, hI, fun _ => ⟨b, 0, rfl, fun i hi => ?_⟩⟩
 rw [Nat.zero_add]
 refine h.blk.cell i ?_
 rw [List.getElem?_map, List.getElem?_eq_getElem hi]
 simp [List.getD, List.getElem?_eq_getElem hi]
set_option maxHeartbeats 8000000 in
set_option maxRecDepth 100000 in
theorem owners_any (W H : Int) (a : Option Addr) (len cap : Nat) (zs : List (List Int)) (w : World) (hr : Oi.IsRows 6 w a len zs) (hl : len ≤ 1000) :
  Calls Tryz.prog 14 #[.int .i64 W, .int .i64 H, .slice a len cap] w fun e w' => ∃ a' cap', e = .returned (.tuple #[.slice a' (owL W H zs).length cap', .int .i64 (owE W H zs)]) ∧ IsRow .i64 w' a' (owL W H zs).length (owL W H zs) ∧ Gr w w' := by
 refine (callsIn_wide (n := 9)).1 ?_
 refine callsIn_of_wp_marks Tryz.func14 rfl trivial ?_ rfl
 simp only [Tryz.ntmps14, List.size_toArray, List.length_cons, List.length_nil, Nat.reduceAdd, Nat.reduceSub, Array.replicate_succ, Array.replicate_zero, List.push_toArray, List.append_toArray, List.nil_append, List.cons_append]
 have hmf : ∀ (fn : Fn) (first cap : Array Value) (w : World), (Instr.makeFunc fn first cap).run Tryz.prog w = .ok (.func fn first cap) w := fun _ _ _ _ => rfl
 have m1 : (if H < W then H else W) = min W H := by split <;> omega
 have m2 : (if W < H then H else W) = max W H := by split <;> omega
 have hB1 : Bx ((w.alloc (.cells #[.int .i64 W] 3)).alloc (.cells #[.int .i64 H] 3)) w.heap.size 3 [.int .i64 W] := (Bx.new (vs := [.int .i64 W]) rfl).alloc _
 have hB2 : Bx ((w.alloc (.cells #[.int .i64 W] 3)).alloc (.cells #[.int .i64 H] 3)) (w.heap.size + 1) 3 [.int .i64 H] := Bx.new (vs := [.int .i64 H]) (by simp)
 have HB1 := Lib.hid hB1; have HB2 := Lib.hid hB2; have HR := Lib.hid hr
 clear hB1 hB2 hr
 by_cases hs1 : min W H < 1
 ·have d1 : decide (min W H < 1) = true := by simp; omega
  have hsz : sizB W H = false := by unfold sizB; simp; omega
  have EE := Lib.hid (owE_siz (zs := zs) hsz)
  gi_wp2
  first
   | exact ⟨.tuple #[.slice none 0 0, .int .i64 1], by simp [results, Tryz.results14, go_sem], none, 0, by rw [EE.out.1, EE.out.2]; rfl, by rw [EE.out.2]; exact IsRow.nil _ _ _, ((Gr.refl w).alloc _).alloc _⟩
   | exact ⟨.tuple #[.slice none 0 0, .int .i64 1], by simp [results, Tryz.results14, go_sem], none, ⟨0, by rw [EE.out.1, EE.out.2]; rfl⟩, by rw [EE.out.2]; exact IsRow.nil _ _ _, ((Gr.refl w).alloc _).alloc _⟩
 ·have d1 : decide (min W H < 1) = false := by simp; omega
  by_cases hs2 : 256 < max W H
  ·have d2 : decide (256 < max W H) = true := by simp; omega
   have hsz : sizB W H = false := by unfold sizB; simp; omega
   have EE := Lib.hid (owE_siz (zs := zs) hsz)
   gi_wp2
   first
    | exact ⟨.tuple #[.slice none 0 0, .int .i64 1], by simp [results, Tryz.results14, go_sem], none, 0, by rw [EE.out.1, EE.out.2]; rfl, by rw [EE.out.2]; exact IsRow.nil _ _ _, ((Gr.refl w).alloc _).alloc _⟩
    | exact ⟨.tuple #[.slice none 0 0, .int .i64 1], by simp [results, Tryz.results14, go_sem], none, ⟨0, by rw [EE.out.1, EE.out.2]; rfl⟩, by rw [EE.out.2]; exact IsRow.nil _ _ _, ((Gr.refl w).alloc _).alloc _⟩
  ·have d2 : decide (256 < max W H) = false := by simp; omega
   have hsz : sizB W H = true := by unfold sizB; simp; omega
   have hWb : 0 ≤ W ∧ W ≤ 256 := by omega
   have hHb : 0 ≤ H ∧ H ≤ 256 := by omega
   have hW1 : 1 ≤ W ∧ 1 ≤ H := by omega
   gi_wp2
   clear m1 m2 d1 d2 hs1 hs2
   obtain ⟨V, hV⟩ : ∃ V, (w.alloc (.cells #[.int .i64 W] 3)).alloc (.cells #[.int .i64 H] 3) = V := ⟨_, rfl⟩
   have gV : Gr w V := by rw [← hV]; exact ((Gr.refl w).alloc _).alloc _
   have sV : V.heap.size = w.heap.size + 2 := by rw [← hV]; simp
   rw [hV] at HB1 HB2 ⊢
   have GV := Lib.hid gV
   clear hV gV
   gi_loopw [31] (fun v31 wr => ∃ k : Nat, k ≤ len ∧ v31 = .int .i64 k ∧ (∀ j, j < k → badT W H (zs.getD j []) = false) ∧ Gr V wr) (fun v31 _ => len - (intOf v31).toNat)
   case atStart => exact ⟨0, Nat.zero_le _, rfl, fun j h => absurd h (by omega), Gr.refl _⟩
   case round =>
    obtain ⟨k, hk, rfl, hall, hg⟩ := hrel
    have HG := Lib.hid hg; have HA := Lib.hid hall
    clear hg hall
    by_cases hlt : k < len
    ·obtain ⟨b, off, t0, t1, t2, t3, t4, t5, rfl, hbl, ez, c0, c1, c2, c3, c4, c5⟩ := rows6_at (HR.out.later (GV.out.trans HG.out)) hlt
     have hI6 := (Ro.rows_at HR.out hlt).2.1
     rw [ez] at hI6
     have EZ := Lib.hid ez; have HI6 := Lib.hid hI6
     have hk1 : (0 : Int) ≤ (k : Int) := by omega
     have sx := HG.out.size
     clear ez hI6
     gi_wp2
     have hBT : Blk (wr.alloc (.cells #[.int .i64 t0, .int .i64 t1, .int .i64 t2, .int .i64 t3, .int .i64 t4, .int .i64 t5] 39)) wr.heap.size [.int .i64 t0, .int .i64 t1, .int .i64 t2, .int .i64 t3, .int .i64 t4, .int .i64 t5] := Blk.new rfl
     refine ⟨trivial, ?_⟩
     refine (callsIn_wide.2 (contains_any_ra W H hWb hHb w.heap.size (w.heap.size + 1) _ ((HB1.out.gr HG.out).alloc _) ((HB2.out.gr HG.out).alloc _) _ 3 3 _ (rows3_blk hBT HI6.out) (by omega))).mono ?_
     rintro e w1 ⟨rfl, hg1⟩
     rw [any3]
     have HG1 := Lib.hid ((HG.out.alloc (.cells #[.int .i64 t0, .int .i64 t1, .int .i64 t2, .int .i64 t3, .int .i64 t4, .int .i64 t5] 39)).trans hg1)
     have HBT := Lib.hid (hBT.gr hg1)
     have hbad : badT W H (zs.getD k []) = ((oddB W H t0 t1 || (oddB W H t2 t3 || oddB W H t4 t5)) || !Sx.rgt [t0, t1, t2, t3, t4, t5]) := by rw [EZ.out]; rfl
     generalize (oddB W H t0 t1 || (oddB W H t2 t3 || oddB W H t4 t5)) = od at *
     have HBAD := Lib.hid hbad
     clear c0 c1 c2 c3 c4 c5 hg1 hBT hbad
     cases od
     ·have hBT := HBT.out
      have d0 := hBT.cell 0 rfl; have d1 := hBT.cell 1 rfl; have d2 := hBT.cell 2 rfl; have d3 := hBT.cell 3 rfl; have d4 := hBT.cell 4 rfl; have d5 := hBT.cell 5 rfl
      have hlt1 := hBT.1
      clear hBT
      gi_wp2
      refine ⟨trivial, ?_⟩
      refine (callsIn_wide.2 (right_any t0 t1 t2 t3 t4 t5 _)).mono ?_
      rintro e w2 ⟨rfl, hg2⟩
      have HG2 := Lib.hid (HG1.out.trans hg2)
      clear d0 d1 d2 d3 d4 d5 hlt1 hg2
      cases hrg : Sx.rgt [t0, t1, t2, t3, t4, t5]
      ·have EE := Lib.hid (owE_bad (W := W) (H := H) (zs := zs) (k := k) (by rw [HR.out.1]; exact hlt) (by rw [HBAD.out, hrg]; rfl))
       gi_wp2
       first
        | exact ⟨.tuple #[.slice none 0 0, .int .i64 1], by simp [results, Tryz.results14, go_sem], none, 0, by rw [EE.out.1, EE.out.2]; rfl, by rw [EE.out.2]; exact IsRow.nil _ _ _, GV.out.trans HG2.out⟩
        | exact ⟨.tuple #[.slice none 0 0, .int .i64 1], by simp [results, Tryz.results14, go_sem], none, ⟨0, by rw [EE.out.1, EE.out.2]; rfl⟩, by rw [EE.out.2]; exact IsRow.nil _ _ _, GV.out.trans HG2.out⟩
      ·have hok : badT W H (zs.getD k []) = false := by rw [HBAD.out, hrg]; rfl
       have HOK := Lib.hid hok
       clear hok
       gi_wp2
       go_roundw
       case rel =>
        refine ⟨k + 1, by omega, by go_num, fun j hj => ?_, HG2.out⟩
        by_cases e : j = k
        ·rw [e]; exact HOK.out
        ·exact HA.out j (by omega)
       case measure => simp [intOf]; omega
     ·have EE := Lib.hid (owE_bad (W := W) (H := H) (zs := zs) (k := k) (by rw [HR.out.1]; exact hlt) (by rw [HBAD.out]; rfl))
      gi_wp2
      refine ⟨trivial, ?_⟩
      gi_wp2
      first
       | exact ⟨.tuple #[.slice none 0 0, .int .i64 1], by simp [results, Tryz.results14, go_sem], none, 0, by rw [EE.out.1, EE.out.2]; rfl, by rw [EE.out.2]; exact IsRow.nil _ _ _, GV.out.trans HG1.out⟩
       | exact ⟨.tuple #[.slice none 0 0, .int .i64 1], by simp [results, Tryz.results14, go_sem], none, ⟨0, by rw [EE.out.1, EE.out.2]; rfl⟩, by rw [EE.out.2]; exact IsRow.nil _ _ _, GV.out.trans HG1.out⟩
    ·have hkl : k = len := by omega
     subst hkl
     have EE := Lib.hid (owE_ok (zs := zs) hsz (fun j hj => HA.out j (by rw [HR.out.1] at hj; exact hj)))
     have g1 := HB1.out.gr HG.out
     have g2 := HB2.out.gr HG.out
     have c1 := g1.blk.cell 0 rfl; have c2 := g2.blk.cell 0 rfl
     have l1 := g1.lt; have l2 := g2.lt
     have u1 : IntKind.i64.wrap (W * H) = W * H := IntWalk.i64_in _ (by have := Int.mul_le_mul hWb.2 hHb.2 hHb.1 (by omega); have := Int.mul_nonneg hWb.1 hHb.1; omega)
     clear g1 g2
     gi_wp2
     have hMM : W * H = (((W * H).toNat : Nat) : Int) := by have := Int.mul_nonneg hWb.1 hHb.1; omega
     have hM1 : 1 ≤ (W * H).toNat ∧ (W * H).toNat ≤ 65536 := by
      have := Int.mul_le_mul hWb.2 hHb.2 hHb.1 (by omega)
      have : 1 * 1 ≤ W * H := Int.mul_le_mul hW1.1 hW1.2 (by omega) (by omega)
      omega
     have HMM := Lib.hid hMM
     rw [hMM]
     clear hMM u1
     generalize (W * H).toNat = M at *
     refine ⟨trivial, ?_⟩
     refine (callsIn_wide.2 (repeat_any (-1) M hM1.1 hM1.2 wr.heap.size _ (Bx.new (vs := [.int .i64 (-1)]) rfl))).mono ?_
     rintro e w2 ⟨g, rfl, hout, hg0, hg2⟩
     have HG2 := Lib.hid ((HG.out.alloc (.cells #[.int .i64 (-1)] 3)).trans hg2)
     have HOUT := Lib.hid hout
     clear c1 c2 l1 l2 hg2 hout
     gi_wp2
     obtain ⟨wn, eW⟩ : ∃ wn : Nat, W = wn := ⟨W.toNat, by omega⟩
     obtain ⟨hn, eH⟩ : ∃ hn : Nat, H = hn := ⟨H.toNat, by omega⟩
     have eM : M = wn * hn := by
      have h1 := HMM.out
      rw [eW, eH, ← Int.natCast_mul] at h1
      omega
     subst eM
     have hg2 : w.heap.size ≤ w2.heap.size := by have := (GV.out.trans HG2.out).size; exact this
     have hwr2 : w.heap.size ≤ wr.heap.size := by have := (GV.out.trans HG.out).size; exact this
     have hgl := HOUT.out.lt
     have hgw : wr.heap.size + 1 ≤ g := by simpa using hg0
     have hwrs : w.heap.size + 2 ≤ wr.heap.size := by have := HG.out.size; omega
     have hok : ∀ j, j < k → badT W H (zs.getD j []) = false := fun j hj => HA.out j hj
     have hzl := HR.out.1
     refine wpIn_loop (OwI w W wn hn g w.heap.size w2.heap.size a k cap zs) (fun A _ => k - (intOf (A.tmps.getD 51 undef)).toNat) ?h0 ?round
     case h0 =>
      refine ⟨[], 0, 0, _, _, _, _, _, _, _, _, _, _, _, _, _, _, _, _, _, _, _, _, _, _, _, _, _, _, _, _, _, _, _, _, _, _, _, _, _, _, _, _, _, _, _, _, _, _, _, _, _, _, _, _, _, _, _, _, _, _, _, _, _, _, _, _, _, _, _, _, _, _, _, _, _, _, _, _, _, _, _, _, _, _, rfl, rfl, rfl, Nat.zero_le _, ((HB1.out.gr HG2.out).alloc _), Bx.new (vs := [.slice (some ⟨g, 0, none⟩) (wn * hn) (wn * hn)]) rfl, ?_, (GV.out.trans HG2.out).alloc _, trivial⟩
      have e0 : (outL zs wn hn 0).map (Value.int .i64) = List.replicate (wn * hn) (.int .i64 (-1)) := by
       unfold outL owN
       simp [List.map_const']
      rw [e0]
      exact HOUT.out.alloc _
     case round =>
      intro A wq hI
      refine loop2_round w W H wn hn g w.heap.size w2.heap.size eW eH (by omega) (by omega) a k cap zs HR.out hl hok (by omega) (Nat.le_refl _) hg2 (by omega) (by omega) _ _ rfl _ (by rintro ⟨_, _, h⟩; obtain ⟨_, _, h, _⟩ := h; cases h) ?_ A wq hI
      clear hI A wq
      rintro A wq ⟨ds, i, x51, u0, u1, u2, u4, u5, u6, u7, u8, u9, u10, u12, u13, u14, u15, u16, u17, u18, u19, u20, u21, u22, u23, u24, u25, u26, u27, u28, u29, u30, u31, u32, u33, u34, u35, u36, u37, u38, u39, u40, u41, u42, u43, u44, u45, u46, u47, u48, u52, u53, u54, u55, u56, u57, u58, u59, u60, u61, u62, u63, u64, u65, u66, u67, u68, u69, u70, u71, u72, u73, u74, u75, u76, u77, u78, u79, u80, u81, u82, u83, u84, u85, u86, eA1, eA2, rfl, hi, h3, h11, hgx, hgr, hmk⟩ he
      obtain rfl := act_eq eA1 eA2
      clear eA1 eA2
      simp only [List.cons_append, List.nil_append] at he ⊢
      have hik : i = k := by
       have := he (i : Int) (by simp)
       omega
      subst hik
      have c11 := h11.blk.cell 0 rfl
      have l11 := h11.lt
      have HX := Lib.hid hgx; have HGR := Lib.hid hgr; have HMK := Lib.hid hmk
      clear he h3 h11 hgx hgr hmk
      simp only [Exit.inBlock, Exit.then, if_true]
      gi_wp2
      refine leaves_marks (v := .tuple #[.slice (some ⟨g, 0, none⟩) (wn * hn) (wn * hn), .int .i64 0]) (B := w.heap.size) (S := fun r => w.heap.size ≤ r ∧ wq.heap[r]? = some (.deferred (some []))) (fun w' => by simp [results, Tryz.results14, go_sem]) ds wq HMK.out (fun r h1 h2 => ⟨h1, h2⟩) (fun w' hk => ?_)
      have hbx : Bx w' g 3 ((outL zs wn hn i).map (Value.int .i64)) := HX.out.ks hk (fun h => not_def HX.out h.2)
      have eL : owL W H zs = outL zs wn hn i := by
       rw [EE.out.2, hzl, eW, eH]; simp
      refine ⟨some ⟨g, 0, none⟩, wn * hn, ?_, ?_, ?_⟩
      ·rw [EE.out.1, eL, outL_len]
      ·rw [eL]
       exact row_bx_ra hbx (by rw [outL_len]; have := hM1.2; omega) (fun n hn => by
        unfold outL at hn
        rw [List.mem_map] at hn
        obtain ⟨j, _, rfl⟩ := hn
        have := owN_bd zs (j % wn : Nat) (j / wn : Nat) i
        exact wf_of_I ⟨by omega, by omega⟩)
      ·exact hk.gr HGR.out (fun r hr h => by have := h.1; omega)
end Mt
end Go.Proofs.YtlfoglklibhbnaaGreat
