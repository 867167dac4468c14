/- Parts of the proof of TopPoint. No condition of their own. -/
import Derived.Test.YtlfoglklibhbnaaGreatTpA
import Derived.Test.YtlfoglklibhbnaaGreatTpG
set_option linter.unusedVariables false
set_option linter.unusedSimpArgs false
namespace Go.Proofs.YtlfoglklibhbnaaGreat
namespace Wh
def fe (a b : Int) : Int := if b = 0 then 3 else if a = -9223372036854775808 ∧ b = -1 then 4 else 0
def fq (a b : Int) : Int := if fe a b = 0 then a.fdiv b else 0
def fr (a b : Int) : Int := if fe a b = 0 then a.fmod b else 0
end Wh
end Go.Proofs.YtlfoglklibhbnaaGreat
namespace Go.Proofs.YtlfoglklibhbnaaGreat
open Go.RowKit
namespace Wh
def sqStep (n : Int) : Nat → Int → Int
 | 0, r => r
 | i + 1, r => if (r + 2 ^ i) * (r + 2 ^ i) ≤ n then sqStep n i (r + 2 ^ i) else sqStep n i r
def sqC (n : Int) : Int := sqStep n 32 0
end Wh
end Go.Proofs.YtlfoglklibhbnaaGreat
namespace Go.Proofs.YtlfoglklibhbnaaGreat.Sx
open Go.RowKit
def nr (n : Int) : Bool := decide (-1048576 ≤ n) && decide (n ≤ 1048576)
def us (n : Int) : Bool := decide (-4096 ≤ n) && decide (n ≤ 4096)
def ss (n : Int) : Bool := decide (-16384 ≤ n) && decide (n ≤ 16384)
def sgn (n : Int) : Int := if n < 0 then -1 else if 0 < n then 1 else 0
def low (n : Int) : Int := if 0 < n then IntKind.i64.wrap (0 - n) else n
def axis (x y z : Int) : Int := if low y < low x then (if low z < low y then 2 else 1) else if low z < low x then 2 else 0
def cr2 (a b c d : Int) : Int := a * d - b * c
def areaV (l : List Int) : Int := cr2 (l.getD 2 0 - l.getD 0 0) (l.getD 3 0 - l.getD 1 0) (l.getD 4 0 - l.getD 0 0) (l.getD 5 0 - l.getD 1 0)
def nx (l : List Int) : Int := cr2 (l.getD 4 0 - l.getD 1 0) (l.getD 5 0 - l.getD 2 0) (l.getD 7 0 - l.getD 1 0) (l.getD 8 0 - l.getD 2 0)
def ny (l : List Int) : Int := cr2 (l.getD 5 0 - l.getD 2 0) (l.getD 3 0 - l.getD 0 0) (l.getD 8 0 - l.getD 2 0) (l.getD 6 0 - l.getD 0 0)
def nz (l : List Int) : Int := cr2 (l.getD 3 0 - l.getD 0 0) (l.getD 4 0 - l.getD 1 0) (l.getD 6 0 - l.getD 0 0) (l.getD 7 0 - l.getD 1 0)
def volV (l : List Int) : Int := nx l * (l.getD 9 0 - l.getD 0 0) + ny l * (l.getD 10 0 - l.getD 1 0) + nz l * (l.getD 11 0 - l.getD 2 0)
def faceA (l : List Int) : Int := axis (nx l) (ny l) (nz l)
def faceS (l : List Int) : Int := if faceA l = 0 then sgn (nx l) else if faceA l = 1 then sgn (ny l) else sgn (nz l)
def flat0 (l : List Int) : Bool := nx l == 0 && ny l == 0 && nz l == 0
def sdV (l : List Int) : Int := volV [l.getD 3 0, l.getD 4 0, l.getD 5 0, l.getD 6 0, l.getD 7 0, l.getD 8 0, l.getD 9 0, l.getD 10 0, l.getD 11 0, l.getD 0 0, l.getD 1 0, l.getD 2 0]
def vA (l : List Int) : Int := volV [l.getD 6 0, l.getD 7 0, l.getD 8 0, l.getD 9 0, l.getD 10 0, l.getD 11 0, l.getD 12 0, l.getD 13 0, l.getD 14 0, l.getD 0 0, l.getD 1 0, l.getD 2 0]
def vB (l : List Int) : Int := volV [l.getD 6 0, l.getD 7 0, l.getD 8 0, l.getD 9 0, l.getD 10 0, l.getD 11 0, l.getD 12 0, l.getD 13 0, l.getD 14 0, l.getD 3 0, l.getD 4 0, l.getD 5 0]
def r0 (l : List Int) : Int := volV [l.getD 0 0, l.getD 1 0, l.getD 2 0, l.getD 3 0, l.getD 4 0, l.getD 5 0, l.getD 6 0, l.getD 7 0, l.getD 8 0, l.getD 9 0, l.getD 10 0, l.getD 11 0]
def r1 (l : List Int) : Int := volV [l.getD 0 0, l.getD 1 0, l.getD 2 0, l.getD 3 0, l.getD 4 0, l.getD 5 0, l.getD 9 0, l.getD 10 0, l.getD 11 0, l.getD 12 0, l.getD 13 0, l.getD 14 0]
def r2 (l : List Int) : Int := volV [l.getD 0 0, l.getD 1 0, l.getD 2 0, l.getD 3 0, l.getD 4 0, l.getD 5 0, l.getD 12 0, l.getD 13 0, l.getD 14 0, l.getD 6 0, l.getD 7 0, l.getD 8 0]
def hitB (A B x y z : Int) : Bool := ((decide (A < 0) && decide (0 < B)) || (decide (0 < A) && decide (B < 0))) && ((decide (0 ≤ x) && decide (0 ≤ y) && decide (0 ≤ z)) || (decide (x ≤ 0) && decide (y ≤ 0) && decide (z ≤ 0)))
def n2 (l : List Int) : Int := l.getD 0 0 * l.getD 0 0 + l.getD 1 0 * l.getD 1 0 + l.getD 2 0 * l.getD 2 0
def z3 (l : List Int) : Bool := l.getD 0 0 == 0 && (l.getD 1 0 == 0 && l.getD 2 0 == 0)
def ue (l : List Int) : Int := if l.all nr then (if z3 l then 3 else 0) else 5
def uq (k : Nat) (l : List Int) : Int := Wh.fq (1048576 * l.getD k 0) (Wh.sqC (1048576 * n2 l))
def uv (k : Nat) (l : List Int) : Int := if ue l = 0 then uq k l else 0
def uu (l : List Int) : List Int := [uv 0 l, uv 1 l, uv 2 l]
def tc (u : List Int) : List Int :=
 if axis (u.getD 0 0) (u.getD 1 0) (u.getD 2 0) = 2 then [0, - u.getD 2 0, u.getD 1 0]
 else if axis (u.getD 0 0) (u.getD 1 0) (u.getD 2 0) = 0 then [u.getD 2 0, 0, - u.getD 0 0] else [- u.getD 1 0, u.getD 0 0, 0]
def te (l : List Int) : Int := if ue l = 0 then ue (tc (uu l)) else ue l
def tu (l : List Int) : List Int := uu (tc (uu l))
def tb (l : List Int) : List Int := [Wh.fq (cr2 (uv 1 l) (uv 2 l) ((tu l).getD 1 0) ((tu l).getD 2 0)) 1024, Wh.fq (cr2 (uv 2 l) (uv 0 l) ((tu l).getD 2 0) ((tu l).getD 0 0)) 1024, Wh.fq (cr2 (uv 0 l) (uv 1 l) ((tu l).getD 0 0) ((tu l).getD 1 0)) 1024]
def fv (k : Nat) (l : List Int) : Int := if te l = 0 then ([uv 0 l, uv 1 l, uv 2 l] ++ tu l ++ tb l).getD k 0 else 0
def kk (n : Int) : Bool := decide (-1024 ≤ n) && decide (n ≤ 1024)
def de (l : List Int) : Int := if te (l.take 3) = 0 then (if (l.drop 3).all kk then 0 else 1) else te (l.take 3)
def dz (l : List Int) : Int := Wh.sqC (max (1048576 - l.getD 3 0 * l.getD 3 0 - l.getD 4 0 * l.getD 4 0) 0)
def dv (k : Nat) (l : List Int) : Int := if de l = 0 then Wh.fq (fv (k + 3) (l.take 3) * l.getD 3 0 + fv (k + 6) (l.take 3) * l.getD 4 0 + fv k (l.take 3) * dz l) 1024 else 0
def lf (n : Int) : Bool := decide (-2048 ≤ n) && decide (n ≤ 2048)
def lam (l : List Int) : Int := if l.all lf then min ((max (l.getD 0 0 * l.getD 3 0 + l.getD 1 0 * l.getD 4 0 + l.getD 2 0 * l.getD 5 0) 0).tdiv 1024) 1024 else 0
def home (n : Int) : Bool := decide (-8192 ≤ n) && decide (n ≤ 8192)
def lr (l : List Int) : Bool := (decide (1 ≤ l.getD 0 0) && (decide (l.getD 0 0 ≤ 3) && (decide (0 ≤ l.getD 7 0) && (decide (l.getD 7 0 ≤ 255) && (decide (0 ≤ l.getD 8 0) && (decide (l.getD 8 0 ≤ 1024) && ((l.drop 1).take 6).all ss)))))) && (l.getD 0 0 == 2 || !z3 ((l.drop 4).take 3))
def ldir (l : List Int) : List Int := [l.getD 4 0, l.getD 5 0, l.getD 6 0]
def lway (l : List Int) : List Int := [l.getD 1 0 - l.getD 9 0, l.getD 2 0 - l.getD 10 0, l.getD 3 0 - l.getD 11 0]
def we (l : List Int) : Int := if lr (l.take 9) then (if (l.drop 9).all home then (if l.getD 0 0 = 1 then 0 else if z3 (lway l) then 3 else 0) else 5) else 1
def wv (k : Nat) (l : List Int) : Int := if we l = 0 then (if l.getD 0 0 = 1 then 0 - uv k (ldir l) else uv k (lway l)) else 0
def wp (k : Nat) (l : List Int) : Int := if we l = 0 then (if l.getD 0 0 = 1 then l.getD (k + 9) 0 + 4 * (0 - uv k (ldir l)) else l.getD (k + 1) 0) else 0
def we1 (l : List Int) : Int := we (l.take 12)
def se (l : List Int) : Int := if we1 l = 3 then 0 else if we1 l = 0 then ue (l.drop 12) else we1 l
def dark (l : List Int) : Bool := l.getD 0 0 == 3 && decide (lam [uv 0 (ldir l), uv 1 (ldir l), uv 2 (ldir l), 0 - wv 0 (l.take 12), 0 - wv 1 (l.take 12), 0 - wv 2 (l.take 12)] < l.getD 8 0)
def sv (l : List Int) : Int := if we1 l = 0 ∧ se l = 0 then (if dark l then 0 else (lam (uu (l.drop 12) ++ [wv 0 (l.take 12), wv 1 (l.take 12), wv 2 (l.take 12)]) * l.getD 7 0).tdiv 1024) else 0
def fr1 (n d : Int) : Bool := decide (1 ≤ d) && (decide (d ≤ 1000000000000000000) && (decide (-1000000000000000000 ≤ n) && decide (n ≤ 1000000000000000000)))
def sgc (x y : Int) : Int := if x < y then -1 else if y < x then 1 else 0
def fcmp (l : List Int) : Int :=
 if fr1 (l.getD 0 0) (l.getD 1 0) && fr1 (l.getD 2 0) (l.getD 3 0) then sgc (l.getD 0 0 * l.getD 3 0) (l.getD 2 0 * l.getD 1 0)
 else if fr1 (l.getD 2 0) (l.getD 3 0) then -1 else if fr1 (l.getD 0 0) (l.getD 1 0) then 1
 else if l.getD 0 0 = l.getD 2 0 then sgc (l.getD 1 0) (l.getD 3 0) else sgc (l.getD 0 0) (l.getD 2 0)
def wok (l : List Int) : Bool := decide (-1000000000000000000 ≤ l.getD 0 0) && (decide (l.getD 0 0 ≤ 1000000000000000000) && (decide (-1000000000000000000 ≤ l.getD 1 0) && decide (l.getD 1 0 ≤ 1000000000000000000)))
def sis (l : List Int) : Bool := (l.take 6).all ss && (decide (l.getD 0 0 ≤ l.getD 3 0) && (decide (l.getD 1 0 ≤ l.getD 4 0) && decide (l.getD 2 0 ≤ l.getD 5 0)))
def clL (low high p q n d : Int) : Int × Int :=
 if p < q then (if 0 < fcmp [low - p, q - p, n, d] then (low - p, q - p) else (n, d))
 else if q < p then (if 0 < fcmp [p - high, p - q, n, d] then (p - high, p - q) else (n, d)) else (n, d)
def clU (low high p q n d : Int) : Int × Int :=
 if p < q then (if fcmp [high - p, q - p, n, d] < 0 then (high - p, q - p) else (n, d))
 else if q < p then (if fcmp [p - low, p - q, n, d] < 0 then (p - low, p - q) else (n, d)) else (n, d)
def outA (low high p q : Int) : Bool := p == q && (decide (p < low) || decide (high < p))
def mL1 (l : List Int) : Int × Int := clL (l.getD 6 0) (l.getD 9 0) (l.getD 0 0) (l.getD 3 0) 0 1
def mL2 (l : List Int) : Int × Int := clL (l.getD 7 0) (l.getD 10 0) (l.getD 1 0) (l.getD 4 0) (mL1 l).1 (mL1 l).2
def mL3 (l : List Int) : Int × Int := clL (l.getD 8 0) (l.getD 11 0) (l.getD 2 0) (l.getD 5 0) (mL2 l).1 (mL2 l).2
def mU1 (l : List Int) : Int × Int := clU (l.getD 6 0) (l.getD 9 0) (l.getD 0 0) (l.getD 3 0) 1 1
def mU2 (l : List Int) : Int × Int := clU (l.getD 7 0) (l.getD 10 0) (l.getD 1 0) (l.getD 4 0) (mU1 l).1 (mU1 l).2
def mU3 (l : List Int) : Int × Int := clU (l.getD 8 0) (l.getD 11 0) (l.getD 2 0) (l.getD 5 0) (mU2 l).1 (mU2 l).2
def meetB (l : List Int) : Bool := !outA (l.getD 6 0) (l.getD 9 0) (l.getD 0 0) (l.getD 3 0) && (!outA (l.getD 7 0) (l.getD 10 0) (l.getD 1 0) (l.getD 4 0) && (!outA (l.getD 8 0) (l.getD 11 0) (l.getD 2 0) (l.getD 5 0) &&
 decide (fcmp [(mL3 l).1, (mL3 l).2, (mU3 l).1, (mU3 l).2] ≤ 0)))
def gc (a b : Int) : Nat := Nat.gcd a.natAbs b.natAbs
def lg (x y z : Int) : Int := if y ≤ x ∧ z ≤ x then 0 else if z ≤ y then 1 else 2
def hasB (l : List Int) : Bool := sis (l.take 6) && (decide (l.getD 0 0 ≤ l.getD 6 0) && (decide (l.getD 6 0 ≤ l.getD 3 0) && (decide (l.getD 1 0 ≤ l.getD 7 0) && (decide (l.getD 7 0 ≤ l.getD 4 0) && (decide (l.getD 2 0 ≤ l.getD 8 0) && decide (l.getD 8 0 ≤ l.getD 5 0))))))
def rgt (l : List Int) : Bool := l.all us && !(areaV l == 0)
def sdq (l : List Int) : Int := if l.all us then sgn (areaV l) else 0
def edq (t : List Int) (i : Nat) (x y : Int) : Int := sdq t * sdq [t.getD (2 * i) 0, t.getD (2 * i + 1) 0, t.getD ((2 * i + 2) % 6) 0, t.getD ((2 * i + 3) % 6) 0, x, y]
def ptsOf : List Int → List (Int × Int)
 | x :: y :: r => (x, y) :: ptsOf r
 | _ => []
def outE (t : List Int) (i : Nat) (b : Int) (l : List (Int × Int)) : Bool := l.all fun p => decide (edq t i p.1 p.2 < b)
def apB (t : List Int) (b : Int) (l : List Int) : Bool := outE t 0 b (ptsOf l) || (outE t 1 b (ptsOf l) || outE t 2 b (ptsOf l))
def inV (l : List Int) : Int := min (min (min 1 (edq (l.drop 2) 0 (l.getD 0 0) (l.getD 1 0))) (edq (l.drop 2) 1 (l.getD 0 0) (l.getD 1 0))) (edq (l.drop 2) 2 (l.getD 0 0) (l.getD 1 0)) + 1
def ine (l : List Int) : Int := if (l.take 2).all us then (if rgt (l.drop 2) then 0 else 1) else 5
def bothB (b : Int) (l : List Int) : Bool := !apB (l.take 6) b (l.drop 6) && !apB (l.drop 6) b (l.take 6)
def bothe (l : List Int) : Int := if rgt (l.take 6) && rgt (l.drop 6) then 0 else 1
def sqg (l : List Int) : Bool := decide (1 ≤ l.getD 2 0) && (decide (l.getD 2 0 ≤ 4096) && (us (l.getD 0 0) && (us (l.getD 1 0) && (us (l.getD 0 0 + l.getD 2 0) && us (l.getD 1 0 + l.getD 2 0)))))
def sqe (l : List Int) : Int := if sqg l then (if rgt (l.drop 3) then 0 else 1) else 5
def sqBox (l : List Int) : Bool := (decide (min (min (l.getD 3 0) (l.getD 5 0)) (l.getD 7 0) ≤ l.getD 0 0 + l.getD 2 0) && decide (min (min (l.getD 4 0) (l.getD 6 0)) (l.getD 8 0) ≤ l.getD 1 0 + l.getD 2 0)) &&
 (decide (l.getD 0 0 ≤ max (max (l.getD 3 0) (l.getD 5 0)) (l.getD 7 0)) && decide (l.getD 1 0 ≤ max (max (l.getD 4 0) (l.getD 6 0)) (l.getD 8 0)))
def sqC (l : List Int) : List Int := [l.getD 0 0, l.getD 1 0, l.getD 0 0 + l.getD 2 0, l.getD 1 0, l.getD 0 0 + l.getD 2 0, l.getD 1 0 + l.getD 2 0, l.getD 0 0, l.getD 1 0 + l.getD 2 0]
def sqB (l : List Int) : Bool := sqBox l && !apB (l.drop 3) 0 (sqC l)
def mx (t : List Int) (i : Nat) (l : List (Int × Int)) : Int := l.foldl (fun m p => max m (edq t i p.1 p.2)) (-1)
def cvr (l : List Int) : Bool := decide (0 ≤ l.getD 0 0) && (decide (l.getD 0 0 ≤ 255) && (decide (0 ≤ l.getD 1 0) && decide (l.getD 1 0 ≤ 255)))
def covL (l : List Int) : List Int := 16 * l.getD 0 0 :: 16 * l.getD 1 0 :: 16 :: l.drop 2
def tok (l : List Int) : Bool := decide (0 ≤ l.getD 0 0) && (decide (l.getD 0 0 ≤ 4095) && (decide (0 ≤ l.getD 1 0) && decide (l.getD 1 0 ≤ 4095)))
def hI (b : Int) : Nat → Int → Int × Int → Int × Int
 | 0, _, a => a
 | n + 1, i, a => if i ≤ 0 then a else hI b n (i / b) (a.1 * b + i % b, a.2 * b)
def hok (l : List Int) : Bool := decide (2 ≤ l.getD 0 0) && (decide (l.getD 0 0 ≤ 16) && (decide (0 ≤ l.getD 1 0) && decide (l.getD 1 0 ≤ 65535)))
def hinv (l : List Int) : Int × Int := hI (l.getD 0 0) 17 (l.getD 1 0) (0, 1)
def pok (i : Int) : Bool := decide (0 ≤ i) && decide (i ≤ 65535)
def hpt (b i : Int) : Int := 65536 * (hI b 17 i (0, 1)).1 / (hI b 17 i (0, 1)).2
def hins (x y : Int) : Bool := (decide (0 ≤ x) && (decide (x ≤ 65536) && (decide (0 ≤ y) && decide (y ≤ 65536)))) && decide ((2 * x - 65536) * (2 * x - 65536) + (2 * y - 65536) * (2 * y - 65536) ≤ 4294967296)
def fi : Nat → Nat → List Int → Int
 | 65, _, l => mx (l.take 6) (l.getD 6 0).toNat (ptsOf (l.drop 7))
 | 66, _, l => if cvr l then (if rgt (l.drop 2) then 0 else 1) else 5
 | 67, 0, l => if tok l then l.getD 0 0 / 16 else 0
 | 67, 1, l => if tok l then l.getD 1 0 / 16 else 0
 | 67, _, l => if tok l then 0 else 5
 | 68, 0, l => if fr1 (l.getD 0 0) (l.getD 1 0) then l.getD 0 0 / l.getD 1 0 else 0
 | 68, _, l => if fr1 (l.getD 0 0) (l.getD 1 0) then 0 else 1
 | 69, 2, l => if fr1 (l.getD 0 0) (l.getD 1 0) then 0 else 1
 | 69, k, l => if fr1 (l.getD 0 0) (l.getD 1 0) then (l.getD k 0).tdiv (gc (l.getD 0 0) (l.getD 1 0)) else 0
 | 72, 0, l => if hok l then (hinv l).1 else 0
 | 72, 1, l => if hok l then (hinv l).2 else 0
 | 72, _, l => if hok l then 0 else 1
 | 73, 0, l => if pok (l.getD 0 0) then hpt 2 (l.getD 0 0) else 0
 | 73, 1, l => if pok (l.getD 0 0) then hpt 3 (l.getD 0 0) else 0
 | 73, _, l => if pok (l.getD 0 0) then 0 else 1
 | 57, 0, l => if (l.take 2).all us && rgt (l.drop 2) then inV l else 0
 | 57, _, l => ine l
 | 59, _, l => bothe l
 | 60, _, l => bothe l
 | 61, _, l => sqe l
 | 62, 0, l => if sis l then lg (l.getD 3 0 - l.getD 0 0) (l.getD 4 0 - l.getD 1 0) (l.getD 5 0 - l.getD 2 0) else 0
 | 62, _, l => if sis l then 0 else 1
 | 54, _, l => if (l.take 6).all ss then (if sis (l.drop 6) then 0 else 1) else 5
 | 55, 6, l => if sis (l.take 6) && sis (l.drop 6) then 0 else 1
 | 55, k, l => if sis (l.take 6) && sis (l.drop 6) then (if k < 3 then min (l.getD k 0) (l.getD (k + 6) 0) else max (l.getD k 0) (l.getD (k + 6) 0)) else 0
 | 52, 0, l => if 9223372036854775807 < gc (l.getD 0 0) (l.getD 1 0) then 0 else gc (l.getD 0 0) (l.getD 1 0)
 | 52, _, l => if 9223372036854775807 < gc (l.getD 0 0) (l.getD 1 0) then 4 else 0
 | 50, 0, l => if wok l then (l.getD 0 0 * l.getD 1 0) / 1000000000000000000 else 0
 | 50, 1, l => if wok l then (l.getD 0 0 * l.getD 1 0) % 1000000000000000000 else 0
 | 50, _, l => if wok l then 0 else 2
 | 51, _, l => fcmp l
 | 40, 3, l => ue l
 | 40, k, l => uv k l
 | 41, 9, l => te l
 | 41, k, l => fv k l
 | 42, 3, l => de l
 | 42, k, l => dv k l
 | 43, 0, l => lam l
 | 43, _, l => if l.all lf then 0 else 5
 | 44, 0, l => wv 0 l
 | 44, 1, l => wv 1 l
 | 44, 2, l => wv 2 l
 | 44, 6, l => we l
 | 44, k, l => wp (k - 3) l
 | 45, 0, l => sv l
 | 45, _, l => se l
 | 47, 0, l => fv 3 l
 | 47, 1, l => fv 4 l
 | 47, 2, l => fv 5 l
 | 47, 3, l => fv 6 l
 | 47, 4, l => fv 7 l
 | 47, 5, l => fv 8 l
 | 47, 6, l => fv 0 l
 | 47, 7, l => fv 1 l
 | 47, 8, l => fv 2 l
 | 47, _, l => te l
 | 3, k, l => if l.all nr then l.getD k 0 - l.getD (k + 2) 0 else 0
 | 4, k, l => if l.all nr then l.getD k 0 - l.getD (k + 3) 0 else 0
 | 5, 0, l => if l.all nr then cr2 (l.getD 0 0) (l.getD 1 0) (l.getD 2 0) (l.getD 3 0) else 0
 | 5, _, l => if l.all nr then 0 else 5
 | 6, 0, l => if l.all nr then cr2 (l.getD 1 0) (l.getD 2 0) (l.getD 4 0) (l.getD 5 0) else 0
 | 6, 1, l => if l.all nr then cr2 (l.getD 2 0) (l.getD 0 0) (l.getD 5 0) (l.getD 3 0) else 0
 | 6, 2, l => if l.all nr then cr2 (l.getD 0 0) (l.getD 1 0) (l.getD 3 0) (l.getD 4 0) else 0
 | 6, _, l => if l.all nr then 0 else 5
 | 7, 0, l => if l.all nr then l.getD 0 0 * l.getD 3 0 + l.getD 1 0 * l.getD 4 0 + l.getD 2 0 * l.getD 5 0 else 0
 | 7, _, l => if l.all nr then 0 else 5
 | 8, _, l => axis (l.getD 0 0) (l.getD 1 0) (l.getD 2 0)
 | 10, 0, l => if l.all us then areaV l else 0
 | 10, _, l => if l.all us then 0 else 5
 | 11, 0, l => if l.all us then sgn (areaV l) else 0
 | 11, _, l => if l.all us then 0 else 5
 | 12, 0, l => if l.all ss then nx l else 0
 | 12, 1, l => if l.all ss then ny l else 0
 | 12, 2, l => if l.all ss then nz l else 0
 | 12, _, l => if l.all ss then 0 else 5
 | 13, 0, l => if l.all ss then volV l else 0
 | 13, _, l => if l.all ss then 0 else 5
 | 14, 0, l => if l.all ss && !flat0 l then faceA l else 0
 | 14, 1, l => if l.all ss && !flat0 l then faceS l else 0
 | 14, _, l => if l.all ss then (if flat0 l then 3 else 0) else 5
 | 15, 0, l => if l.all ss then sgn (sdV l) else 0
 | 15, _, l => if l.all ss then 0 else 5
 | 16, _, l => if l.all ss then 0 else 5
 | 30, 0, l => Wh.fq (l.getD 0 0) (l.getD 1 0)
 | 30, 1, l => Wh.fr (l.getD 0 0) (l.getD 1 0)
 | 30, _, l => Wh.fe (l.getD 0 0) (l.getD 1 0)
 | 31, 0, l => if l.getD 0 0 < 0 then 0 else if 9223372036854775807 < l.getD 0 0 then 0 else Wh.sqC (l.getD 0 0)
 | 31, _, l => if l.getD 0 0 < 0 then 1 else 0
 | _, _, _ => 0
def fb : Nat → Nat → List Int → Bool
 | 0, _, l => l.all nr
 | 1, _, l => l.all us
 | 2, _, l => l.all ss
 | 16, _, l => l.all ss && hitB (vA l) (vB l) (r0 l) (r1 l) (r2 l)
 | 20, _, _ => true
 | 53, _, l => sis l
 | 54, _, l => (l.take 6).all ss && (sis (l.drop 6) && meetB l)
 | 46, _, l => lr l
 | 56, _, l => rgt l
 | 58, _, l => apB (l.take 6) (l.getD 6 0) (l.drop 7)
 | 59, _, l => rgt (l.take 6) && rgt (l.drop 6) && bothB 1 l
 | 60, _, l => rgt (l.take 6) && rgt (l.drop 6) && bothB 0 l
 | 61, _, l => sqg l && (rgt (l.drop 3) && sqB l)
 | 63, _, l => hasB l
 | 66, _, l => cvr l && (rgt (l.drop 2) && sqB (covL l))
 | 70, _, l => fr1 (l.getD 0 0) (l.getD 1 0)
 | 71, _, l => hins (l.getD 0 0) (l.getD 1 0)
 | _, _, _ => false
def E : Env := ⟨fun _ => 0, fi, fb, fun _ => undef⟩
end Go.Proofs.YtlfoglklibhbnaaGreat.Sx
