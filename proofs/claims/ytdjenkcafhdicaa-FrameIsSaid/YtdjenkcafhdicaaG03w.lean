/- Frames, and streams of them, in plain words. -/
import Derived.Test.YtdjenkcafhdicaaG02a
import Derived.Test.YtdjenkcafhdicaaG03b
namespace Go.Proofs.Ytdjenkcafhdicaa.G
def Bs (l : List Int) : Prop := ∀ x ∈ l, 0 ≤ x ∧ x < 256
theorem Bs.drop {l : List Int} (h : Bs l) (n : Nat) : Bs (l.drop n) := fun x hx => h x (List.mem_of_mem_drop hx)
theorem Bs.take {l : List Int} (h : Bs l) (n : Nat) : Bs (l.take n) := fun x hx => h x (List.mem_of_mem_take hx)
theorem Bs.app {a b : List Int} (h : Bs a) (k : Bs b) : Bs (a ++ b) := fun x hx => (List.mem_append.1 hx).elim (h x) (k x)
def enc2 (v : Int) : List Int := [v % 256, v / 256 % 256]
def enc4 (v : Int) : List Int := [v % 256, v / 256 % 256, v / 65536 % 256, v / 16777216 % 256]
/-- The sum of a frame. -/
def sumP (p : List Int) : Int := moreI (moreI 0 (enc2 (p.length : Int))) p
/-- A frame, behind what is there. -/
def putL (l p : List Int) : List Int := l ++ enc2 (p.length : Int) ++ enc4 (sumP p) ++ p
def putP (l p : List Int) : List Int × Int := if (p.length : Int) > 512 then ([], 5) else (putL l p, 0)
/-- The payload of a frame that stands at the head. -/
def payP (y : List Int) : List Int := (y.take (6 + leN (y.take 2))).drop 6
/-- What is read at a place. -/
def readY (a : Int) (y : List Int) : List Int × Int × Int :=
  if y.length < 2 then ([], 0, 2) else if leN (y.take 2) > 512 then ([], 0, 5) else if y.length < 6 + leN (y.take 2) then ([], 0, 2) else
  if (leN ((y.drop 2).take 4) : Int) = sumP (payP y) then (payP y, a + 6 + leN (y.take 2), 0) else ([], 0, 4)
def readP (x : List Int) (a : Int) : List Int × Int × Int := if a < 0 ∨ a > (x.length : Int) then ([], 0, 1) else readY a (x.drop a.toNat)
/-- All the frames from a place on: d rounds at most. -/
def allF : Nat → List Int → Int → List (List Int) × Int × Int
  | 0, _, i => ([], i, 0)
  | d + 1, x, i => if i < (x.length : Int) then (if (readP x i).2.2 = 0 then ((readP x i).1 :: (allF d x (readP x i).2.1).1, (allF d x (readP x i).2.1).2) else ([], i, (readP x i).2.2)) else ([], i, 0)
def allP (x : List Int) : List (List Int) × Int × Int := allF x.length x 0
/-- May a stream be? -/
def saneP (b : List Int) (d : Int) : Bool := if d = 0 then (b.length == 0 || (readP b 0).2.2 == 2) else ((d == 4 || d == 5) && b.length == 0)
/-- What comes out of a stream with bytes. -/
def feedR (b : List Int) (d : Int) (x : List Int) : List Int × Int × List (List Int) × Int :=
  if saneP b d = false then ([], 0, [], 1) else if d ≠ 0 then (b, d, [], 13) else
  if (allP (b ++ x)).2.2 = 4 ∨ (allP (b ++ x)).2.2 = 5 then ([], (allP (b ++ x)).2.2, (allP (b ++ x)).1, (allP (b ++ x)).2.2) else ((b ++ x).drop (allP (b ++ x)).2.1.toNat, 0, (allP (b ++ x)).1, 0)
def wantsI (b : List Int) (d : Int) : Int := if saneP b d = false ∨ d ≠ 0 then 0 else if b.length < 6 then 6 - (b.length : Int) else 6 + (leN (b.take 2) : Int) - b.length
end Go.Proofs.Ytdjenkcafhdicaa.G
