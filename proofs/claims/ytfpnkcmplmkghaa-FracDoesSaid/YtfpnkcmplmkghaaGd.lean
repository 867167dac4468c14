/- The contracts of package whole: size, Gcd. -/
import Derived.Test.YtfpnkcmplmkghaaFl
set_option linter.unusedVariables false
namespace Go.Proofs.Ytfpnkcmplmkghaa
open Go.RowKit

namespace Wh
theorem size_any (n : Int) (hn : I n) (w : World) :
    Calls Try.prog 106 #[.int .i64 n] w fun e w' => e = .returned (.int .u64 (n.natAbs : Int)) ∧ w = w' := by
  obtain ⟨h1, h2⟩ := hn
  by_cases h : n < 0
  · have e : (n.natAbs : Int) = -n := by omega
    rw [e]; clear e
    go_enter Try.func106, Try.ntmps106
    go_wp2
    go_ret
    exact ⟨ret1 (by simp only [IntKind.wrap, IntKind.bits, IntKind.signed]; simp; omega), rfl⟩
  · have e : (n.natAbs : Int) = n := by omega
    rw [e]; clear e
    go_enter Try.func106, Try.ntmps106
    go_wp2
    go_ret
    exact ⟨rfl, rfl⟩

def gl (l : List Int) : Nat := l.foldl (fun g n => Nat.gcd g n.natAbs) 0
theorem gl_take_succ (zs : List Int) (k : Nat) (h : k < zs.length) : gl (zs.take (k + 1)) = Nat.gcd (gl (zs.take k)) (zs.getD k 0).natAbs := by
  unfold gl
  rw [List.take_succ_eq_append_getElem h, List.foldl_append]
  simp [List.getD, List.getElem?_eq_getElem h]
theorem gcd_le_max (a b M : Nat) (ha : a ≤ M) (hb : b ≤ M) : Nat.gcd a b ≤ M := by
  by_cases h : a = 0
  · subst h; simpa using hb
  · exact Nat.le_trans (Nat.gcd_le_left _ (by omega)) ha


def ge (l : List Int) : Int := if 9223372036854775807 < gl l then 4 else 0
def gv (l : List Int) : Int := if 9223372036854775807 < gl l then 0 else gl l

theorem gl_le (l : List Int) (h : ∀ n ∈ l, I n) : gl l ≤ 9223372036854775808 := by
  unfold gl
  suffices H : ∀ (l : List Int) (g : Nat), g ≤ 9223372036854775808 → (∀ n ∈ l, I n) → l.foldl (fun g n => Nat.gcd g n.natAbs) g ≤ 9223372036854775808 from H l 0 (by omega) h
  intro l
  induction l with
  | nil => intro g hg _; exact hg
  | cons x l ih =>
    intro g hg h
    rw [List.foldl_cons]
    refine ih _ (gcd_le_max _ _ _ hg ?_) (fun n hn => h n (List.mem_cons_of_mem _ hn))
    have := h x List.mem_cons_self
    unfold I at this; omega

theorem gcd_step (g x : Nat) : Nat.gcd x (g % x) = Nat.gcd g x := by
  rw [Nat.gcd_comm g x, Nat.gcd_rec x g, Nat.gcd_comm]

theorem gcd_any (a : Option Addr) (len cap : Nat) (zs : List Int) (w : World) (hr : IsRow .i64 w a len zs) :
    Calls Try.prog 67 #[.slice a len cap] w fun e w' => e = .returned (.tuple #[.int .i64 (gv zs), .int .i64 (ge zs)]) ∧ Drew w w' := by
  obtain ⟨hz, hm, hwz, hr⟩ := hr
  by_cases h0 : len = 0
  · subst h0
    have : zs = [] := List.eq_nil_of_length_eq_zero hz
    subst this
    clear hr hwz hz
    go_enter Try.func67, Try.ntmps67
    go_wp2
    go_loopw [4, 10] (fun g i wr => i = .int .i64 0 ∧ g = .int .u64 0 ∧ w = wr) (fun _ i _ => 0)
    case atStart => exact ⟨rfl, rfl, rfl⟩
    case round =>
      obtain ⟨rfl, rfl, rfl⟩ := hrel
      go_wp2
      go_ret2
      exact ⟨rfl, 0, rfl⟩
  · obtain ⟨b, off, rfl, hcell⟩ := hr (by omega)
    clear hr
    have HZ := Lib.hid hz; have HC := Lib.hid hcell; have HW := Lib.hid hwz; clear hcell hwz
    clear hz h0
    go_enter Try.func67, Try.ntmps67
    go_wp2
    go_loopw [4, 10] (fun g i wr => ∃ k : Nat, k ≤ len ∧ i = .int .i64 k ∧ g = .int .u64 (gl (zs.take k)) ∧ Drew w wr) (fun _ i _ => len - (intOf i).toNat)
    case atStart => exact ⟨0, Nat.zero_le _, rfl, rfl, 0, rfl⟩
    case round =>
      obtain ⟨k, hk, rfl, rfl, n, rfl⟩ := hrel
      by_cases hlt : k < len
      · have hkl : k < zs.length := by rw [HZ.out]; omega
        have hkc : w.cell? ⟨b, off + k, none⟩ = some (.int .i64 (zs.getD k 0)) := HC.out k hlt
        have hg1 : gl (zs.take k) ≤ 9223372036854775808 := gl_le _ fun n hn => I_of_wf (HW.out n (List.mem_of_mem_take hn))
        have hg2 := gl_take_succ zs k hkl
        have hzI : I (zs.getD k 0) := I_of_wf (HW.out _ (by rw [List.getD_eq_getElem?_getD, List.getElem?_eq_getElem hkl]; exact List.getElem_mem _))
        generalize hzk : zs.getD k 0 = z at hkc hg2 hzI
        have HG2 := Lib.hid hg2; clear hg2
        clear hzk hkl
        generalize gl (zs.take k) = G at hg1 HG2
        have hzl : z.natAbs ≤ 9223372036854775808 := by unfold I at hzI; omega
        have HG1 := Lib.hid hg1; have HZL := Lib.hid hzl; clear hg1 hzl
        have HZI := Lib.hid hzI; clear hzI
        go_wp2_with (go_at_call 106; refine (size_any _ HZI.out _).mono ?_; rintro e w' ⟨rfl, rfl⟩)
        go_loopw [4, 7] (fun g x wr => ∃ gn xn : Nat, g = .int .u64 gn ∧ x = .int .u64 xn ∧ Nat.gcd gn xn = Nat.gcd G z.natAbs ∧ gn ≤ 9223372036854775808 ∧ xn ≤ 9223372036854775808 ∧ Drew w wr) (fun _ x _ => (intOf x).toNat)
        case atStart => exact ⟨G, z.natAbs, rfl, rfl, rfl, HG1.out, HZL.out, _, rfl⟩
        case round =>
          obtain ⟨gn, xn, rfl, rfl, hgx, hgn, hxn, n', rfl⟩ := hrel
          have HGX := Lib.hid hgx; clear hgx
          by_cases hx0 : xn = 0
          · subst hx0
            go_wp2
            go_roundw
            case rel =>
              refine ⟨k + 1, by omega, by go_num, ?_, _, rfl⟩
              rw [HG2.out, ← HGX.out, Nat.gcd_zero_right]
            case measure => simp [intOf]; omega
          · have hxb : ((xn : Int) != 0) = true := by simpa using hx0
            have hxp : (1 : Int) ≤ xn := by omega
            go_wp2
            go_quiet (fail)
            go_wp2
            go_roundw
            case rel =>
              refine ⟨xn, gn % xn, rfl, by go_num, ?_, hxn, ?_, Drew.more ⟨n', rfl⟩ _⟩
              · rw [gcd_step]; exact HGX.out
              · have := Nat.mod_lt gn (Nat.pos_of_ne_zero hx0); omega
            case measure => simp [intOf]; have := Nat.mod_lt gn (Nat.pos_of_ne_zero hx0); omega
      · have hkl : k = len := by omega
        subst hkl
        rw [List.take_of_length_le (Nat.le_of_eq HZ.out)]
        have hg1 : gl zs ≤ 9223372036854775808 := gl_le _ fun n hn => I_of_wf (HW.out n hn)
        have e1 : gv zs = if 9223372036854775807 < gl zs then 0 else (gl zs : Int) := rfl
        have e2 : ge zs = if 9223372036854775807 < gl zs then 4 else 0 := rfl
        have E1 := Lib.hid e1; have E2 := Lib.hid e2; clear e1 e2
        by_cases hb : 9223372036854775807 < gl zs
        · go_wp2
          go_ret2
          exact ⟨ret2 (by rw [E1.out, if_pos hb]) (by rw [E2.out, if_pos hb]), _, rfl⟩
        · go_wp2
          go_ret2
          exact ⟨ret2 (by rw [E1.out, if_neg hb]) (by rw [E2.out, if_neg hb]), _, rfl⟩
end Wh
end Go.Proofs.Ytfpnkcmplmkghaa
