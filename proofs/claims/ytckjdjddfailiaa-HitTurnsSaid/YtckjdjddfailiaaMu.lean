/- What the functions of chapters 4 and 9 give, as functions of rows of numbers. -/
import Derived.Test.YtckjdjddfailiaaEk
set_option linter.unusedVariables false
namespace Go.Proofs.Ytckjdjddfailiaa.Sx
open Go.RowKit

def nr (n : Int) : Bool := decide (-1048576 ≤ n) && decide (n ≤ 1048576)
def us (n : Int) : Bool := decide (-4096 ≤ n) && decide (n ≤ 4096)
def ss (n : Int) : Bool := decide (-16384 ≤ n) && decide (n ≤ 16384)
def at0 (l : List Int) (i : Nat) : Int := l.getD i 0
def sgn (n : Int) : Int := if n < 0 then -1 else if 0 < n then 1 else 0
def low (n : Int) : Int := if 0 < n then IntKind.i64.wrap (0 - n) else n
def axis (x y z : Int) : Int := if low y < low x then (if low z < low y then 2 else 1) else if low z < low x then 2 else 0
def cr2 (a b c d : Int) : Int := a * d - b * c
def areaV (l : List Int) : Int := cr2 (l.getD 2 0 - l.getD 0 0) (l.getD 3 0 - l.getD 1 0) (l.getD 4 0 - l.getD 0 0) (l.getD 5 0 - l.getD 1 0)
def nx (l : List Int) : Int := cr2 (l.getD 4 0 - l.getD 1 0) (l.getD 5 0 - l.getD 2 0) (l.getD 7 0 - l.getD 1 0) (l.getD 8 0 - l.getD 2 0)
def ny (l : List Int) : Int := cr2 (l.getD 5 0 - l.getD 2 0) (l.getD 3 0 - l.getD 0 0) (l.getD 8 0 - l.getD 2 0) (l.getD 6 0 - l.getD 0 0)
def nz (l : List Int) : Int := cr2 (l.getD 3 0 - l.getD 0 0) (l.getD 4 0 - l.getD 1 0) (l.getD 6 0 - l.getD 0 0) (l.getD 7 0 - l.getD 1 0)
def volV (l : List Int) : Int := nx l * (l.getD 9 0 - l.getD 0 0) + ny l * (l.getD 10 0 - l.getD 1 0) + nz l * (l.getD 11 0 - l.getD 2 0)
def faceA (l : List Int) : Int := axis (nx l) (ny l) (nz l)
def faceS (l : List Int) : Int := if faceA l = 0 then sgn (nx l) else if faceA l = 1 then sgn (ny l) else sgn (nz l)
def flat0 (l : List Int) : Bool := nx l == 0 && ny l == 0 && nz l == 0

/- Chapter 12. -/
def sdV (l : List Int) : Int := volV [l.getD 3 0, l.getD 4 0, l.getD 5 0, l.getD 6 0, l.getD 7 0, l.getD 8 0, l.getD 9 0, l.getD 10 0, l.getD 11 0, l.getD 0 0, l.getD 1 0, l.getD 2 0]
def vA (l : List Int) : Int := volV [l.getD 6 0, l.getD 7 0, l.getD 8 0, l.getD 9 0, l.getD 10 0, l.getD 11 0, l.getD 12 0, l.getD 13 0, l.getD 14 0, l.getD 0 0, l.getD 1 0, l.getD 2 0]
def vB (l : List Int) : Int := volV [l.getD 6 0, l.getD 7 0, l.getD 8 0, l.getD 9 0, l.getD 10 0, l.getD 11 0, l.getD 12 0, l.getD 13 0, l.getD 14 0, l.getD 3 0, l.getD 4 0, l.getD 5 0]
def r0 (l : List Int) : Int := volV [l.getD 0 0, l.getD 1 0, l.getD 2 0, l.getD 3 0, l.getD 4 0, l.getD 5 0, l.getD 6 0, l.getD 7 0, l.getD 8 0, l.getD 9 0, l.getD 10 0, l.getD 11 0]
def r1 (l : List Int) : Int := volV [l.getD 0 0, l.getD 1 0, l.getD 2 0, l.getD 3 0, l.getD 4 0, l.getD 5 0, l.getD 9 0, l.getD 10 0, l.getD 11 0, l.getD 12 0, l.getD 13 0, l.getD 14 0]
def r2 (l : List Int) : Int := volV [l.getD 0 0, l.getD 1 0, l.getD 2 0, l.getD 3 0, l.getD 4 0, l.getD 5 0, l.getD 12 0, l.getD 13 0, l.getD 14 0, l.getD 6 0, l.getD 7 0, l.getD 8 0]
def hitB (A B x y z : Int) : Bool := ((decide (A < 0) && decide (0 < B)) || (decide (0 < A) && decide (B < 0))) && ((decide (0 ≤ x) && decide (0 ≤ y) && decide (0 ≤ z)) || (decide (x ≤ 0) && decide (y ≤ 0) && decide (z ≤ 0)))

def fi : Nat → Nat → List Int → Int
  | 3, k, l => if l.all nr then l.getD k 0 - l.getD (k + 2) 0 else 0
  | 4, k, l => if l.all nr then l.getD k 0 - l.getD (k + 3) 0 else 0
  | 5, 0, l => if l.all nr then cr2 (l.getD 0 0) (l.getD 1 0) (l.getD 2 0) (l.getD 3 0) else 0
  | 5, _, l => if l.all nr then 0 else 5
  | 6, 0, l => if l.all nr then cr2 (l.getD 1 0) (l.getD 2 0) (l.getD 4 0) (l.getD 5 0) else 0
  | 6, 1, l => if l.all nr then cr2 (l.getD 2 0) (l.getD 0 0) (l.getD 5 0) (l.getD 3 0) else 0
  | 6, 2, l => if l.all nr then cr2 (l.getD 0 0) (l.getD 1 0) (l.getD 3 0) (l.getD 4 0) else 0
  | 6, _, l => if l.all nr then 0 else 5
  | 7, 0, l => if l.all nr then l.getD 0 0 * l.getD 3 0 + l.getD 1 0 * l.getD 4 0 + l.getD 2 0 * l.getD 5 0 else 0
  | 7, _, l => if l.all nr then 0 else 5
  | 8, _, l => axis (l.getD 0 0) (l.getD 1 0) (l.getD 2 0)
  | 10, 0, l => if l.all us then areaV l else 0
  | 10, _, l => if l.all us then 0 else 5
  | 11, 0, l => if l.all us then sgn (areaV l) else 0
  | 11, _, l => if l.all us then 0 else 5
  | 12, 0, l => if l.all ss then nx l else 0
  | 12, 1, l => if l.all ss then ny l else 0
  | 12, 2, l => if l.all ss then nz l else 0
  | 12, _, l => if l.all ss then 0 else 5
  | 13, 0, l => if l.all ss then volV l else 0
  | 13, _, l => if l.all ss then 0 else 5
  | 14, 0, l => if l.all ss && !flat0 l then faceA l else 0
  | 14, 1, l => if l.all ss && !flat0 l then faceS l else 0
  | 14, _, l => if l.all ss then (if flat0 l then 3 else 0) else 5
  | 15, 0, l => if l.all ss then sgn (sdV l) else 0
  | 15, _, l => if l.all ss then 0 else 5
  | 16, _, l => if l.all ss then 0 else 5
  | _, _, _ => 0
def fb : Nat → Nat → List Int → Bool
  | 0, _, l => l.all nr
  | 1, _, l => l.all us
  | 2, _, l => l.all ss
  | 16, _, l => l.all ss && hitB (vA l) (vB l) (r0 l) (r1 l) (r2 l)
  | 20, _, _ => true
  | _, _, _ => false
def E : Env := ⟨fun _ => 0, fi, fb, fun _ => undef⟩
end Go.Proofs.Ytckjdjddfailiaa.Sx
