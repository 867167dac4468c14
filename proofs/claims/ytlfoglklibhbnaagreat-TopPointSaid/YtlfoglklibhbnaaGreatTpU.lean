/- Parts of the proof of TopPoint. No condition of their own. -/
import Derived.Test.YtlfoglklibhbnaaGreatTpS
import Derived.Shelf.SortM.Plain
import Derived.Shelf.SlicesG.CompactI
import Derived.Shelf.SlicesG.Turned
import Derived.Shelf.SlicesG.Delete
import Derived.Shelf.SlicesG.Clone
import Derived.Shelf.SlicesE.Clone
set_option linter.unusedVariables false
set_option linter.unusedSimpArgs false
namespace Go.Proofs.YtlfoglklibhbnaaGreat
open Go.RowKit Go.Shelf Go.Sort
namespace Mt
def sortL_ren : Go.Shelf.Ren := ⟨fun | 5 => 119 | 8 => 102 | 7 => 137 | 19 => 129 | 20 => 130 | 10 => 144 | 11 => 145 | 12 => 146 | 13 => 147 | 14 => 148 | 15 => 149 | 16 => 150 | 17 => 151 | 18 => 152 | 30 => 154 | 31 => 139 | 32 => 140 | 33 => 155 | 34 => 156 | 35 => 111 | 40 => 157 | n => n, fun | 23 => 50 | 25 => 3 | 3 => 3 | 32 => 136 | 22 => 50 | 0 => 0 | 44 => 169 | 46 => 172 | 4 => 4 | 36 => 204 | 35 => 203 | 41 => 208 | 5 => 5 | 9 => 9 | 53 => 216 | 57 => 220 | 63 => 228 | 64 => 112 | n => n, fun | n => n⟩
theorem sortL : Go.Proofs.SlLaysM.n5 Tryz.prog sortL_ren := {
 mixed := by kernel_rfl,
 f5 := ⟨Tryz.f119.name, by decide, Tryz.func119.trans (congrArg some (by kernel_rfl))⟩,
 f7 := ⟨Tryz.f137.name, by decide, Tryz.func137.trans (congrArg some (by kernel_rfl))⟩,
 f8 := Tryz.func102.trans (congrArg some (by kernel_rfl)),
 f10 := ⟨Tryz.f144.name, by decide, Tryz.func144.trans (congrArg some (by kernel_rfl))⟩,
 f11 := ⟨Tryz.f145.name, by decide, Tryz.func145.trans (congrArg some (by kernel_rfl))⟩,
 f12 := ⟨Tryz.f146.name, by decide, Tryz.func146.trans (congrArg some (by kernel_rfl))⟩,
 f13 := ⟨Tryz.f147.name, by decide, Tryz.func147.trans (congrArg some (by kernel_rfl))⟩,
 f14 := ⟨Tryz.f148.name, by decide, Tryz.func148.trans (congrArg some (by kernel_rfl))⟩,
 f15 := ⟨Tryz.f149.name, by decide, Tryz.func149.trans (congrArg some (by kernel_rfl))⟩,
 f16 := ⟨Tryz.f150.name, by decide, Tryz.func150.trans (congrArg some (by kernel_rfl))⟩,
 f17 := ⟨Tryz.f151.name, by decide, Tryz.func151.trans (congrArg some (by kernel_rfl))⟩,
 f18 := ⟨Tryz.f152.name, by decide, Tryz.func152.trans (congrArg some (by kernel_rfl))⟩,
 f19 := Tryz.func129.trans (congrArg some (by kernel_rfl)),
 f20 := Tryz.func130.trans (congrArg some (by kernel_rfl)),
 f30 := ⟨Tryz.f154.name, by decide, Tryz.func154.trans (congrArg some (by kernel_rfl))⟩,
 f31 := Tryz.func139.trans (congrArg some (by kernel_rfl)),
 f32 := Tryz.func140.trans (congrArg some (by kernel_rfl)),
 f33 := ⟨Tryz.f155.name, by decide, Tryz.func155.trans (congrArg some (by kernel_rfl))⟩,
 f34 := ⟨Tryz.f156.name, by decide, Tryz.func156.trans (congrArg some (by kernel_rfl))⟩,
 f35 := ⟨Tryz.f111.name, by decide, Tryz.func111.trans (congrArg some (by kernel_rfl))⟩,
 f40 := ⟨Tryz.f157.name, by decide, Tryz.func157.trans (congrArg some (by kernel_rfl))⟩,
 t0 := Tryz.underlying0,
 a0 := Tryz.isAgg0,
 z0 := Tryz.sizeOf0,
 v0 := Tryz.zeroValue0,
 t3 := Tryz.underlying3,
 a3 := Tryz.isAgg3,
 z3 := Tryz.sizeOf3,
 v3 := Tryz.zeroValue3,
 t4 := Tryz.underlying4,
 a4 := Tryz.isAgg4,
 z4 := Tryz.sizeOf4,
 v4 := Tryz.zeroValue4,
 t5 := Tryz.underlying5,
 a5 := Tryz.isAgg5,
 z5 := Tryz.sizeOf5,
 v5 := Tryz.zeroValue5,
 t9 := Tryz.underlying9,
 a9 := Tryz.isAgg9,
 z9 := Tryz.sizeOf9,
 v9 := Tryz.zeroValue9,
 t22 := Tryz.underlying50,
 a22 := Tryz.isAgg50,
 z22 := Tryz.sizeOf50,
 v22 := Tryz.zeroValue50,
 t23 := Tryz.underlying50,
 a23 := Tryz.isAgg50,
 z23 := Tryz.sizeOf50,
 v23 := Tryz.zeroValue50,
 t25 := Tryz.underlying3,
 a25 := Tryz.isAgg3,
 z25 := Tryz.sizeOf3,
 v25 := Tryz.zeroValue3,
 t32 := Tryz.underlying136,
 a32 := Tryz.isAgg136,
 z32 := Tryz.sizeOf136,
 v32 := Tryz.zeroValue136,
 t35 := Tryz.underlying203,
 a35 := Tryz.isAgg203,
 z35 := Tryz.sizeOf203,
 v35 := Tryz.zeroValue203,
 t36 := Tryz.underlying204,
 a36 := Tryz.isAgg204,
 z36 := Tryz.sizeOf204,
 v36 := Tryz.zeroValue204,
 t41 := Tryz.underlying208,
 a41 := Tryz.isAgg208,
 z41 := Tryz.sizeOf208,
 v41 := Tryz.zeroValue208,
 t44 := Tryz.underlying169,
 a44 := Tryz.isAgg169,
 z44 := Tryz.sizeOf169,
 v44 := Tryz.zeroValue169,
 t46 := Tryz.underlying172,
 a46 := Tryz.isAgg172,
 z46 := Tryz.sizeOf172,
 v46 := Tryz.zeroValue172,
 t53 := Tryz.underlying216,
 a53 := Tryz.isAgg216,
 z53 := Tryz.sizeOf216,
 v53 := Tryz.zeroValue216,
 t57 := Tryz.underlying220,
 a57 := Tryz.isAgg220,
 z57 := Tryz.sizeOf220,
 v57 := Tryz.zeroValue220,
 t63 := Tryz.underlying228,
 a63 := Tryz.isAgg228,
 z63 := Tryz.sizeOf228,
 v63 := Tryz.zeroValue228,
 t64 := Tryz.underlying112,
 a64 := Tryz.isAgg112,
 z64 := Tryz.sizeOf112,
 v64 := Tryz.zeroValue112 }
def deleteL_ren : Go.Shelf.Ren := ⟨fun | 45 => 37 | n => n, fun | 22 => 50 | 23 => 3 | 3 => 3 | 4 => 4 | 0 => 0 | n => n, fun | n => n⟩
theorem deleteL : Go.Proofs.SlLaysN.n45 Tryz.prog deleteL_ren := {
 mixed := by kernel_rfl,
 f45 := ⟨Tryz.f37.name, by decide, Tryz.func37.trans (congrArg some (by kernel_rfl))⟩,
 t0 := Tryz.underlying0,
 a0 := Tryz.isAgg0,
 z0 := Tryz.sizeOf0,
 v0 := Tryz.zeroValue0,
 t3 := Tryz.underlying3,
 a3 := Tryz.isAgg3,
 z3 := Tryz.sizeOf3,
 v3 := Tryz.zeroValue3,
 t4 := Tryz.underlying4,
 a4 := Tryz.isAgg4,
 z4 := Tryz.sizeOf4,
 v4 := Tryz.zeroValue4,
 t22 := Tryz.underlying50,
 a22 := Tryz.isAgg50,
 z22 := Tryz.sizeOf50,
 v22 := Tryz.zeroValue50,
 t23 := Tryz.underlying3,
 a23 := Tryz.isAgg3,
 z23 := Tryz.sizeOf3,
 v23 := Tryz.zeroValue3,
 i23 := by kernel_rfl }
def compactL_ren : Go.Shelf.Ren := ⟨fun | 43 => 120 | n => n, fun | 22 => 50 | 23 => 3 | 3 => 3 | 4 => 4 | 0 => 0 | n => n, fun | n => n⟩
theorem compactL : Go.Proofs.SlLaysN.n43 Tryz.prog compactL_ren := {
 mixed := by kernel_rfl,
 f43 := ⟨Tryz.f120.name, by decide, Tryz.func120.trans (congrArg some (by kernel_rfl))⟩,
 t0 := Tryz.underlying0,
 a0 := Tryz.isAgg0,
 z0 := Tryz.sizeOf0,
 v0 := Tryz.zeroValue0,
 t3 := Tryz.underlying3,
 a3 := Tryz.isAgg3,
 z3 := Tryz.sizeOf3,
 v3 := Tryz.zeroValue3,
 t4 := Tryz.underlying4,
 a4 := Tryz.isAgg4,
 z4 := Tryz.sizeOf4,
 v4 := Tryz.zeroValue4,
 t22 := Tryz.underlying50,
 a22 := Tryz.isAgg50,
 z22 := Tryz.sizeOf50,
 v22 := Tryz.zeroValue50,
 t23 := Tryz.underlying3,
 a23 := Tryz.isAgg3,
 z23 := Tryz.sizeOf3,
 v23 := Tryz.zeroValue3,
 i23 := by kernel_rfl }
def cloneL_ren : Go.Shelf.Ren := ⟨fun | 41 => 43 | n => n, fun | 22 => 50 | 23 => 3 | 4 => 4 | n => n, fun | n => n⟩
theorem cloneL : Go.Proofs.SlLaysN.n41 Tryz.prog cloneL_ren := {
 mixed := by kernel_rfl,
 f41 := ⟨Tryz.f43.name, by decide, Tryz.func43.trans (congrArg some (by kernel_rfl))⟩,
 t4 := Tryz.underlying4,
 a4 := Tryz.isAgg4,
 z4 := Tryz.sizeOf4,
 v4 := Tryz.zeroValue4,
 t22 := Tryz.underlying50,
 a22 := Tryz.isAgg50,
 z22 := Tryz.sizeOf50,
 v22 := Tryz.zeroValue50,
 t23 := Tryz.underlying3,
 a23 := Tryz.isAgg3,
 z23 := Tryz.sizeOf3,
 v23 := Tryz.zeroValue3,
 i23 := by kernel_rfl }
def clone6L_ren : Go.Shelf.Ren := ⟨fun | 41 => 72 | n => n, fun | 22 => 49 | 23 => 39 | 4 => 4 | n => n, fun | n => n⟩
theorem clone6L : Go.Proofs.SlLaysE0.n41 Tryz.prog clone6L_ren := {
 mixed := by kernel_rfl,
 f41 := ⟨Tryz.f72.name, by decide, Tryz.func72.trans (congrArg some (by kernel_rfl))⟩,
 t4 := Tryz.underlying4,
 a4 := Tryz.isAgg4,
 z4 := Tryz.sizeOf4,
 v4 := Tryz.zeroValue4,
 t22 := Tryz.underlying49,
 a22 := Tryz.isAgg49,
 z22 := Tryz.sizeOf49,
 v22 := Tryz.zeroValue49 }
def containsL_ren : Go.Shelf.Ren := ⟨fun | 31 => 65 | 29 => 22 | n => n, fun | 22 => 50 | 23 => 3 | 4 => 4 | 3 => 3 | 0 => 0 | n => n, fun | n => n⟩
theorem containsL : Go.Proofs.SlLaysN.n31 Tryz.prog containsL_ren := {
 mixed := by kernel_rfl,
 f29 := ⟨Tryz.f22.name, by decide, Tryz.func22.trans (congrArg some (by kernel_rfl))⟩,
 f31 := ⟨Tryz.f65.name, by decide, Tryz.func65.trans (congrArg some (by kernel_rfl))⟩,
 t0 := Tryz.underlying0,
 a0 := Tryz.isAgg0,
 z0 := Tryz.sizeOf0,
 v0 := Tryz.zeroValue0,
 t3 := Tryz.underlying3,
 a3 := Tryz.isAgg3,
 z3 := Tryz.sizeOf3,
 v3 := Tryz.zeroValue3,
 t4 := Tryz.underlying4,
 a4 := Tryz.isAgg4,
 z4 := Tryz.sizeOf4,
 v4 := Tryz.zeroValue4,
 t22 := Tryz.underlying50,
 a22 := Tryz.isAgg50,
 z22 := Tryz.sizeOf50,
 v22 := Tryz.zeroValue50,
 t23 := Tryz.underlying3,
 a23 := Tryz.isAgg3,
 z23 := Tryz.sizeOf3,
 v23 := Tryz.zeroValue3 }
def indexL_ren : Go.Shelf.Ren := ⟨fun | 29 => 22 | n => n, fun | 22 => 50 | 23 => 3 | 3 => 3 | 0 => 0 | 4 => 4 | n => n, fun | n => n⟩
theorem indexL : Go.Proofs.SlLaysN.n29 Tryz.prog indexL_ren := {
 mixed := by kernel_rfl,
 f29 := ⟨Tryz.f22.name, by decide, Tryz.func22.trans (congrArg some (by kernel_rfl))⟩,
 t0 := Tryz.underlying0,
 a0 := Tryz.isAgg0,
 z0 := Tryz.sizeOf0,
 v0 := Tryz.zeroValue0,
 t3 := Tryz.underlying3,
 a3 := Tryz.isAgg3,
 z3 := Tryz.sizeOf3,
 v3 := Tryz.zeroValue3,
 t4 := Tryz.underlying4,
 a4 := Tryz.isAgg4,
 z4 := Tryz.sizeOf4,
 v4 := Tryz.zeroValue4,
 t22 := Tryz.underlying50,
 a22 := Tryz.isAgg50,
 z22 := Tryz.sizeOf50,
 v22 := Tryz.zeroValue50,
 t23 := Tryz.underlying3,
 a23 := Tryz.isAgg3,
 z23 := Tryz.sizeOf3,
 v23 := Tryz.zeroValue3 }
def maxL_ren : Go.Shelf.Ren := ⟨fun | 37 => 104 | n => n, fun | 22 => 154 | 23 => 3 | 3 => 3 | 4 => 4 | 9 => 9 | 20 => 20 | 0 => 0 | n => n, fun | n => n⟩
theorem maxL : Go.Proofs.SlLaysN.n37 Tryz.prog maxL_ren := {
 mixed := by kernel_rfl,
 f37 := ⟨Tryz.f104.name, by decide, Tryz.func104.trans (congrArg some (by kernel_rfl))⟩,
 t0 := Tryz.underlying0,
 a0 := Tryz.isAgg0,
 z0 := Tryz.sizeOf0,
 v0 := Tryz.zeroValue0,
 t3 := Tryz.underlying3,
 a3 := Tryz.isAgg3,
 z3 := Tryz.sizeOf3,
 v3 := Tryz.zeroValue3,
 t4 := Tryz.underlying4,
 a4 := Tryz.isAgg4,
 z4 := Tryz.sizeOf4,
 v4 := Tryz.zeroValue4,
 t9 := Tryz.underlying9,
 a9 := Tryz.isAgg9,
 z9 := Tryz.sizeOf9,
 v9 := Tryz.zeroValue9,
 t20 := Tryz.underlying20,
 a20 := Tryz.isAgg20,
 z20 := Tryz.sizeOf20,
 v20 := Tryz.zeroValue20,
 t22 := Tryz.underlying154,
 a22 := Tryz.isAgg154,
 z22 := Tryz.sizeOf154,
 v22 := Tryz.zeroValue154,
 t23 := Tryz.underlying3,
 a23 := Tryz.isAgg3,
 z23 := Tryz.sizeOf3,
 v23 := Tryz.zeroValue3 }
theorem holds_blk {w : World} {g : Nat} {zs : List Int} (h : Blk w g (zs.map (Value.int .i64))) : Holds (Value.int .i64) w g 0 zs.toArray := by
 intro j hj
 have hj' : j < zs.length := by simpa using hj
 have := h.2 j (.int .i64 (zs[j]'hj')) (by rw [List.getElem?_map, List.getElem?_eq_getElem hj']; rfl)
 simp only [Nat.zero_add]
 refine ⟨?_, this.2⟩
 rw [this.1]
 simp [hj']
theorem blk_holds {w : World} {g : Nat} {zs : List Int} (hg : g < w.heap.size) (h : Holds (Value.int .i64) w g 0 zs.toArray) : Blk w g (zs.map (Value.int .i64)) := by
 refine ⟨hg, fun i v hi => ?_⟩
 rw [List.getElem?_map] at hi
 have hlt : i < zs.length := by
  apply Classical.byContradiction; intro hn
  rw [List.getElem?_eq_none (by omega)] at hi; cases hi
 rw [List.getElem?_eq_getElem hlt] at hi
 simp at hi
 subst hi
 have := h i (by simpa using hlt)
 simp only [Nat.zero_add] at this
 refine ⟨?_, this.2⟩
 rw [this.1]
 simp [hlt]
theorem grown_put {w : World} {g q : Nat} {d : Array Int} (os : Array Obj) : w.grownBy (grow (putRow (Value.int .i64) (Sort.ahead w q) g 0 d) os) (some g) := by
 refine ⟨rfl, rfl, rfl, by simp [Sort.ahead], fun k hk hne => ?_⟩
 rw [heap_grow_old _ _ (by simpa [Sort.ahead] using hk)]
 unfold putRow mapBlock
 rw [Array.getElem?_modify, if_neg (fun e => hne (by rw [e]))]
 rfl
theorem blk_put {w : World} {g q : Nat} {zs zs' : List Int} (h : Blk w g (zs.map (Value.int .i64))) (hl : zs'.length = zs.length) (os : Array Obj) : Blk (grow (putRow (Value.int .i64) (Sort.ahead w q) g 0 zs'.toArray) os) g (zs'.map (Value.int .i64)) := by
 have h1 : Holds (Value.int .i64) (Sort.ahead w q) g 0 zs.toArray := holds_blk h
 have h2 := holds_putRow (Value.int .i64) (Sort.ahead w q) g 0 zs.toArray zs'.toArray h1 (by simpa using hl)
 have hg : g < (putRow (Value.int .i64) (Sort.ahead w q) g 0 zs'.toArray).heap.size := by simpa [Sort.ahead] using h.1
 exact blk_holds (by simp [Sort.ahead]; have := h.1; omega) (holds_grow _ _ _ _ _ _ hg h2)
theorem own_cap {w : World} {base : Nat} {e : TypeId} {size : Nat} {a : Option Addr} {n m cap : Nat} {xs : List Value} (h : w.ownsRow base e size (.slice a n cap) m xs) : n ≤ cap ∧ cap ≤ maxLen := by
 rcases h.2 with ⟨hv, h0⟩ | ⟨g, c, cur, hv, hb, hh, h1, h2, _⟩
 ·injection hv with h1 h2 h3; subst h2 h3; exact ⟨Nat.le_refl _, Nat.zero_le _⟩
 ·injection hv with q1 q2 q3; subst q2 q3; exact ⟨h1, h2⟩
theorem sort_any (g cap : Nat) (zs : List Int) (w : World) (h : Blk w g (zs.map (Value.int .i64))) (hl : zs.length < 4611686018427387904) :
  Calls Tryz.prog 119 #[.slice (some ⟨g, 0, none⟩) zs.length cap] w fun e w' => e = .returned (.tuple #[]) ∧ ∃ zs' : List Int, zs'.length = zs.length ∧ (∀ z ∈ zs', z ∈ zs) ∧ Blk w' g (zs'.map (Value.int .i64)) ∧ w.grownBy w' (some g) := by
 have hc := AnyM.slices_Sort_int sortL g 0 cap zs w (holds_blk h) h.1 hl
 change Calls Tryz.prog 119 _ _ _ at hc
 refine hc.mono ?_
 rintro e w' ⟨rfl, n, os, rfl⟩
 exact ⟨rfl, _, List.length_mergeSort _, fun z hz => List.mem_mergeSort.1 hz, blk_put h (List.length_mergeSort _) os, grown_put os⟩
theorem grow_none (w : World) : grow w #[] = w := by simp [grow]
theorem compact_any (g cap : Nat) (zs : List Int) (w : World) (h : Blk w g (zs.map (Value.int .i64))) (hl : zs.length ≤ 9223372036854775807) (hcap : zs.length ≤ cap) :
  Calls Tryz.prog 120 #[.slice (some ⟨g, 0, none⟩) zs.length cap] w fun e w' => ∃ xs ys : List Int, e = .returned (.slice (some ⟨g, 0, none⟩) xs.length cap) ∧ xs.length ≤ zs.length ∧ (∀ z ∈ xs, z ∈ zs) ∧ Blk w' g ((xs ++ ys).map (Value.int .i64)) ∧ w.grownBy w' (some g) := by
 have hc := AnyG.slices_Compact_int compactL g 0 cap zs w (holds_blk h) hl hcap
 change Calls Tryz.prog 120 _ _ _ at hc
 refine hc.mono ?_
 rintro e w' ⟨rfl, q, rfl⟩
 have hle : (Lib.compact zs).length ≤ zs.length := by
  unfold Lib.compact Lib.compactUpTo
  rw [List.length_map]
  exact Nat.le_trans (List.length_filter_le _ _) (by simp)
 refine ⟨Lib.compact zs, List.replicate (zs.length - (Lib.compact zs).length) 0, rfl, hle, fun z hz => ?_, ?_, ?_⟩
 ·unfold Lib.compact Lib.compactUpTo at hz
  rw [List.mem_map] at hz
  obtain ⟨i, hi, rfl⟩ := hz
  have hi2 := List.mem_range.1 (List.mem_filter.1 hi).1
  rw [getElem!_pos zs.toArray i (by simpa using hi2)]
  simp
 ·have := blk_put (q := q) h (zs' := Lib.compact zs ++ List.replicate (zs.length - (Lib.compact zs).length) 0) (by simp; omega) #[]
  rwa [grow_none] at this
 ·have := grown_put (w := w) (g := g) (q := q) (d := (Lib.compact zs ++ List.replicate (zs.length - (Lib.compact zs).length) 0).toArray) #[]
  rwa [grow_none] at this
theorem delete_any (g cap i : Nat) (zs : List Int) (w : World) (h : Blk w g (zs.map (Value.int .i64))) (hcap : zs.length ≤ cap) (hm : cap ≤ 9223372036854775807) (hi : i < zs.length) :
  Calls Tryz.prog 37 #[.slice (some ⟨g, 0, none⟩) zs.length cap, .int .i64 i, .int .i64 (i + 1 : Nat)] w fun e w' => e = .returned (.slice (some ⟨g, 0, none⟩) (zs.length - 1) cap) ∧ Blk w' g ((zs.take i ++ zs.drop (i + 1) ++ [0]).map (Value.int .i64)) ∧ w.grownBy w' (some g) := by
 have hc := AnyG.slices_Delete_int deleteL g 0 cap i (i + 1) zs w (holds_blk h) hcap hm (by omega) (by omega)
 change Calls Tryz.prog 37 _ _ _ at hc
 rw [show i + 1 - i = 1 by omega] at hc
 refine hc.mono ?_
 rintro e w' ⟨rfl, q, rfl⟩
 refine ⟨rfl, ?_, ?_⟩
 ·have := blk_put (q := q) h (zs' := zs.take i ++ zs.drop (i + 1) ++ [0]) (by simp; omega) #[]
  rwa [grow_none] at this
 ·have := grown_put (w := w) (g := g) (q := q) (d := (zs.take i ++ zs.drop (i + 1) ++ [0]).toArray) #[]
  rwa [grow_none] at this
theorem contains_any (a : Option Addr) (len cap : Nat) (zs : List Int) (x : Int) (w : World) (hr : IsRow .i64 w a len zs) :
  Calls Tryz.prog 65 #[.slice a len cap, .int .i64 x] w fun e w' => e = .returned (.bool (zs.contains x)) ∧ w = w' := by
 by_cases h0 : len = 0
 ·subst h0
  have : zs = [] := List.eq_nil_of_length_eq_zero hr.1
  subst this
  have hc := AnyG.slices_Contains_int_empty containsL a cap x w
  change Calls Tryz.prog 65 _ _ _ at hc
  exact hc.mono fun e w' h => ⟨h.1, h.2.symm⟩
 ·obtain ⟨b, off, rfl, hcell⟩ := hr.2.2.2 (by omega)
  have hc := AnyG.slices_Contains_int containsL b off len cap zs x w (by rw [hr.1]; exact Nat.le_refl _) hr.2.1 (fun j hj => hcell j (by rw [← hr.1]; exact hj))
  change Calls Tryz.prog 65 _ _ _ at hc
  refine hc.mono fun e w' h => ⟨?_, h.2.symm⟩
  rw [h.1, List.take_of_length_le (by rw [hr.1]; exact Nat.le_refl _)]
theorem index_any (a : Option Addr) (len cap : Nat) (zs : List Int) (x : Int) (w : World) (hr : IsRow .i64 w a len zs) :
  Calls Tryz.prog 22 #[.slice a len cap, .int .i64 x] w fun e w' => e = .returned (.int .i64 (Lib.idxOf zs x)) ∧ w = w' := by
 by_cases h0 : len = 0
 ·subst h0
  have : zs = [] := List.eq_nil_of_length_eq_zero hr.1
  subst this
  have hc := AnyG.slices_Index_int_empty indexL a cap x w
  change Calls Tryz.prog 22 _ _ _ at hc
  exact hc.mono fun e w' h => ⟨h.1, h.2.symm⟩
 ·obtain ⟨b, off, rfl, hcell⟩ := hr.2.2.2 (by omega)
  have hc := AnyG.slices_Index_int indexL b off len cap zs x w (by rw [hr.1]; exact Nat.le_refl _) hr.2.1 (fun j hj => hcell j (by rw [← hr.1]; exact hj))
  change Calls Tryz.prog 22 _ _ _ at hc
  refine hc.mono fun e w' h => ⟨?_, h.2.symm⟩
  rw [h.1, List.take_of_length_le (by rw [hr.1]; exact Nat.le_refl _)]
theorem max_any (a : Option Addr) (len cap : Nat) (zs : List Int) (w : World) (hr : IsRow .i64 w a len zs) (h0 : 0 < len) :
  Calls Tryz.prog 104 #[.slice a len cap] w fun e w' => e = .returned (.int .i64 (Lib.maxOf zs)) ∧ w = w' := by
 obtain ⟨b, off, rfl, hcell⟩ := hr.2.2.2 (by omega)
 have hc := AnyG.slices_Max_int maxL b off len cap zs w h0 (by rw [hr.1]; exact Nat.le_refl _) hr.2.1 (fun j hj => hcell j (by rw [← hr.1]; exact hj))
 change Calls Tryz.prog 104 _ _ _ at hc
 refine hc.mono fun e w' h => ⟨?_, h.2.symm⟩
 rw [h.1, List.take_of_length_le (by rw [hr.1]; exact Nat.le_refl _)]
end Mt
end Go.Proofs.YtlfoglklibhbnaaGreat
