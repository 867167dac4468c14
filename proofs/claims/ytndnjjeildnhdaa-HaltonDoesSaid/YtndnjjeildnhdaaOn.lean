/- Package sync's Once, in one goroutine: its slow road around a function that the Once's own struct is told of. -/
import Derived.Test.YtndnjjeildnhdaaKt
import Derived.Test.YtndnjjeildnhdaaC0
import Derived.Tactics
import Derived.Tactics2
import Derived.Defers
import Derived.Laws.Pointers
import Derived.Laws.LoneSync
import Derived.RegionTactic
import Derived.RegionCalls
set_option linter.unusedVariables false
set_option linter.unusedSimpArgs false
namespace Go.Proofs.Ytndnjjeildnhdaa
open Go.RowKit
namespace Mt
theorem bx_seti {w : World} {b : Nat} {T : TypeId} {vs : List Value} (h : Bx w b T vs) (i : Nat) (v : Value) : Bx (w.setCell ⟨b, i, none⟩ v) b T (vs.set i v) := by
  unfold Bx at *
  unfold World.setCell
  simp [Array.getElem?_modify, h]
theorem bx_drew {w : World} {b : Nat} {T : TypeId} {vs : List Value} (h : Bx w b T vs) : Bx w.drew b T vs := h
theorem bx_far {w : World} {b : Nat} {T : TypeId} {vs : List Value} (h : Bx w b T vs) {p : Addr} (hp : b ≠ p.block) (v : Value) : Bx (w.setCell p v) b T vs := (Below.heap_setCell w p v b hp).trans h
theorem ks_at {w : World} {p : Addr} (v : Value) {S : Nat → Prop} (h : S p.block) : Ks S w (w.setCell p v) :=
  ⟨rfl, rfl, rfl, by simp [World.setCell], fun k _ hk => Below.heap_setCell w p v k (fun e => hk (by rw [e]; exact h))⟩
theorem ks_drew {w : World} {S : Nat → Prop} : Ks S w w.drew := ⟨rfl, rfl, rfl, Nat.le_refl _, fun _ _ _ => rfl⟩
namespace On
theorem disable (w : World) : (callFunc 48 #[]).run Try.prog w = .ok (.value (.tuple #[])) w := run_call_mark0 Try.func48 (by kernel_rfl) (by kernel_rfl) (by kernel_rfl) .disable (by kernel_rfl) w
theorem enable (w : World) : (callFunc 50 #[]).run Try.prog w = .ok (.value (.tuple #[])) w := run_call_mark0 Try.func50 (by kernel_rfl) (by kernel_rfl) (by kernel_rfl) .enable (by kernel_rfl) w
theorem acquire (a : Addr) (w : World) : (callFunc 51 #[.pointer (some a)]).run Try.prog w = .ok (.value (.tuple #[])) w := run_call_marked Try.func51 (by kernel_rfl) (by kernel_rfl) (by kernel_rfl) .acquire (by kernel_rfl) a w
theorem releaseMerge (a : Addr) (w : World) : (callFunc 53 #[.pointer (some a)]).run Try.prog w = .ok (.value (.tuple #[])) w := run_call_marked Try.func53 (by kernel_rfl) (by kernel_rfl) (by kernel_rfl) .releaseMerge (by kernel_rfl) a w
/-- '(*sync/atomic.Bool).Store(true)', entered as a deferred call. -/
theorem store_deferred (a : Addr) (x : Value) (u : FrameMode) (w : World) (hc : w.cell? a = some x) (hz : w.frozen? a = false) :
    CallsD Try.prog 41 #[.pointer (some a), .bool true] u w fun e u' w' => u' = u ∧ (e = .returned (.tuple #[]) ∧ w' = w.drew.setCell a (.int .u32 1)) := by
  have hc' : w.drew.cell? a = some x := by go_simp
  have hz' : w.drew.frozen? a = false := by go_simp
  have hst := run_call_store (P := Try.prog) Try.func46 (by kernel_rfl) (by kernel_rfl) (by kernel_rfl) (by kernel_rfl) (k := .u32) (y := 1) hc' hz'
  go_enter_d Try.func41, Try.ntmps41
  go_wp2
  go_region_calls
  all_goals (go_end0; exact ⟨rfl, rfl⟩)
set_option maxRecDepth 100000 in
set_option maxHeartbeats 1600000 in
/-- '(*sync.Mutex).Unlock', entered as a deferred call, the lock held and nobody waiting. -/
theorem unlock_deferred (a : Addr) (u : FrameMode) (w : World) (hc : w.cell? a = some (.int .i32 1)) (hz : w.frozen? a = false) :
    CallsD Try.prog 40 #[.pointer (some a)] u w fun e u' w' => u' = u ∧ (e = .returned (.tuple #[]) ∧ w' = w.setCell a (.int .i32 0)) := by
  have hd := disable
  have he := enable
  have hr := releaseMerge
  have hadd := run_call_add (P := Try.prog) Try.func54 (by kernel_rfl) (by kernel_rfl) (by kernel_rfl) .i32 (by kernel_rfl) (y := -1) (s := 0) hc hz (by simp [go_sem]; rfl)
  have hcv := run_convert_to_unsafe (P := Try.prog) (src := 89) (dst := 93) Try.underlying89 Try.underlying93 (by kernel_rfl) hc
  go_enter_d Try.func40, Try.ntmps40
  go_wp2
  go_end0
  go_wp2
  go_end0
  exact ⟨rfl, rfl⟩
set_option maxRecDepth 100000 in
set_option maxHeartbeats 1600000 in
/-- '(*sync.Mutex).Lock', the lock free. -/
theorem lock_free (a : Addr) (w : World) (hc : w.cell? a = some (.int .i32 0)) (hz : w.frozen? a = false) :
    Calls Try.prog 39 #[.pointer (some a)] w fun e w' => e = .returned (.tuple #[]) ∧ w' = w.setCell a (.int .i32 1) := by
  have hd := disable
  have he := enable
  have ha := acquire
  have hcas := run_call_cas_hit (P := Try.prog) Try.func49 (by kernel_rfl) (by kernel_rfl) (by kernel_rfl) .i32 (by kernel_rfl) (y := 1) hc hz
  have hc' : (w.setCell a (.int .i32 1)).cell? a = some (.int .i32 1) := World.cell?_setCell_same w a _ hc
  have hcv := run_convert_to_unsafe (P := Try.prog) (src := 89) (dst := 93) Try.underlying89 Try.underlying93 (by kernel_rfl) hc'
  go_enter Try.func39, Try.ntmps39
  go_wp2
  first | go_end0 | (simp only [Exit.inBlock, Exit.then]; refine bodyPost_ret (results_none rfl _ _ _) rfl ?_) | refine bodyPost_ret (results_none rfl _ _ _) rfl ?_
  go_wp2
  go_end0
  exact ⟨rfl, rfl⟩
set_option maxRecDepth 100000 in
set_option maxHeartbeats 1600000 in
/-- '(*sync.Once).doSlow', not yet done and the lock free, around a function that is told by a contract of its own. -/
theorem slow_any (b : Nat) (caps : Array Value) (v0 : Value) (w : World) (Q : Value → World → Prop) (hB : Bx w b 59 [.int .u32 0, .int .i32 0, .int .u32 0, v0])
    (hcall : ∀ w1, Bx w1 b 59 [.int .u32 0, .int .i32 1, .int .u32 0, v0] → Ks (fun k => k = b) w w1 →
      Calls Try.prog 26 caps w1 fun e w' => e = .returned (.tuple #[]) ∧ ∃ v, Bx w' b 59 [.int .u32 0, .int .i32 1, .int .u32 0, v] ∧ Q v w') :
    Calls Try.prog 34 #[.pointer (some ⟨b, 0, none⟩), .func (.func 26) #[] caps] w fun e w' => e = .returned (.tuple #[]) ∧
      ∃ v w2, Q v w2 ∧ Bx w2 b 59 [.int .u32 0, .int .i32 1, .int .u32 0, v] ∧ w' = (w2.drew.setCell ⟨b, 0, none⟩ (.int .u32 1)).setCell ⟨b, 1, none⟩ (.int .i32 0) := by
  have hB1 : Bx (w.setCell ⟨b, 1, none⟩ (.int .i32 1)) b 59 [.int .u32 0, .int .i32 1, .int .u32 0, v0] := bx_seti hB 1 _
  have h0 := hB1.blk.cell 0 rfl
  have hl := run_call_load (P := Try.prog) Try.func38 (by kernel_rfl) (by kernel_rfl) (by kernel_rfl) .u32 (by kernel_rfl) (w := w.setCell ⟨b, 1, none⟩ (.int .i32 1)) (a := ⟨b, 0, none⟩) (x := 0) h0
  have hnot : ∀ (x : Bool) (w : World), (Op.unary .not (.bool x)).run Try.prog w = .ok (.bool (!x)) w := fun _ _ => rfl
  have c1 := hB.blk.cell 1 rfl; have f1 := hB.blk.free 1 rfl
  have HC := Lib.hid hcall; have HB1 := Lib.hid hB1; have HB := Lib.hid hB
  clear hcall hB1 hB
  go_enter_defers Try.func34, Try.ntmps34
  go_wp2_with (first
    | (go_at_call 39; refine (lock_free ⟨b, 1, none⟩ _ (by go_simp) (by go_simp)).mono ?_; rintro e w' ⟨rfl, rfl⟩)
    | (go_at_call 26; refine (HC.out _ HB1.out (ks_at _ rfl)).mono ?_; rintro e w2 ⟨rfl, v, hB2, hQ⟩)
    | (go_at_call 33; go_in))
  go_wp2
  -- the door: two deferred calls, the last laid first
  have d0 := hB2.blk.cell 0 rfl; have d1 := hB2.blk.cell 1 rfl; have z0 := hB2.blk.free 0 rfl; have z1 := hB2.blk.free 1 rfl
  refine leaves_cons (f := 41) (args := #[.pointer (some ⟨b, 0, none⟩), .bool true]) (by simp) (by simp [go_sem]) ?_
  refine (store_deferred ⟨b, 0, none⟩ (.int .u32 0) .returning _ d0 (by simp [z0])).mono ?_
  rintro e u' w'' ⟨rfl, rfl, rfl⟩
  refine leaves_cons (f := 40) (args := #[.pointer (some ⟨b, 1, none⟩)]) (by simp [settle]) (by simp [go_sem]) ?_
  refine (unlock_deferred ⟨b, 1, none⟩ _ _ ?_ (by simp [z1])).mono ?_
  · exact (World.cell?_setCell_other _ ⟨b, 0, none⟩ ⟨b, 1, none⟩ _ (by simp)).trans d1
  rintro e u' w'' ⟨rfl, rfl, rfl⟩
  simp [Leaves, settle, results, Try.results34]
  exact ⟨v, w2, hQ, hB2, rfl⟩
set_option maxRecDepth 100000 in
set_option maxHeartbeats 1600000 in
/-- '(*sync.Once).Do', not yet done, the lock free. -/
theorem do_any (b : Nat) (caps : Array Value) (v0 : Value) (w : World) (Q : Value → World → Prop) (hB : Bx w b 59 [.int .u32 0, .int .i32 0, .int .u32 0, v0])
    (hcall : ∀ w1, Bx w1 b 59 [.int .u32 0, .int .i32 1, .int .u32 0, v0] → Ks (fun k => k = b) w w1 →
      Calls Try.prog 26 caps w1 fun e w' => e = .returned (.tuple #[]) ∧ ∃ v, Bx w' b 59 [.int .u32 0, .int .i32 1, .int .u32 0, v] ∧ Q v w') :
    Calls Try.prog 25 #[.pointer (some ⟨b, 0, none⟩), .func (.func 26) #[] caps] w fun e w' => e = .returned (.tuple #[]) ∧
      ∃ v w2, Q v w2 ∧ Bx w2 b 59 [.int .u32 0, .int .i32 1, .int .u32 0, v] ∧ w' = (w2.drew.setCell ⟨b, 0, none⟩ (.int .u32 1)).setCell ⟨b, 1, none⟩ (.int .i32 0) := by
  have h0 := hB.blk.cell 0 rfl
  have hl := run_call_load (P := Try.prog) Try.func38 (by kernel_rfl) (by kernel_rfl) (by kernel_rfl) .u32 (by kernel_rfl) h0
  have hnot : ∀ (x : Bool) (w : World), (Op.unary .not (.bool x)).run Try.prog w = .ok (.bool (!x)) w := fun _ _ => rfl
  have HC := Lib.hid hcall; have HB := Lib.hid hB
  clear hcall hB
  go_enter Try.func25, Try.ntmps25
  go_wp2_with (first | (go_at_call 34; refine (slow_any b caps v0 _ Q HB.out HC.out).mono ?_; rintro e w' ⟨rfl, h⟩) | (go_at_call 33; go_in))
  go_end0
  exact ⟨rfl, h⟩
end On
end Mt
end Go.Proofs.Ytndnjjeildnhdaa
