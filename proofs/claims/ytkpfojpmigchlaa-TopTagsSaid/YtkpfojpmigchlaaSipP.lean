/-
  What the keyed sum of chapter 2 is, on numbers and lists alone: no program in sight. The sum's rounds, the number that some bytes are, the bytes that numbers are.
-/
import Derived.RowKit
import Derived.Laws.Entries
import Derived.Laws.BitsLemmas
namespace Go.Proofs.Ytkpfojpmigchlaa.Own
open Go.RowKit

/-- Turned left by n bits. -/
def rotl (x : Int) (n : Nat) : Int := Go.bits .or .u64 (IntKind.u64.wrap (x * 2 ^ n)) (x / 2 ^ (64 - n))
def add64 (x y : Int) : Int := IntKind.u64.wrap (x + y)
def xor64 (x y : Int) : Int := Go.bits .xor .u64 x y
/-- A round of the four numbers. -/
def rnd (v : Int × Int × Int × Int) : Int × Int × Int × Int :=
  let a := add64 v.1 v.2.1
  let b := xor64 (rotl v.2.1 13) a
  let a := rotl a 32
  let c := add64 v.2.2.1 v.2.2.2
  let d := xor64 (rotl v.2.2.2 16) c
  let a := add64 a d
  let d := xor64 (rotl d 21) a
  let c := add64 c b
  let b := xor64 (rotl b 17) c
  (a, b, rotl c 32, d)
def rndN : Nat → Int × Int × Int × Int → Int × Int × Int × Int
  | 0, v => v
  | n + 1, v => rnd (rndN n v)
/-- A number taken in. -/
def eat (v : Int × Int × Int × Int) (n : Int) : Int × Int × Int × Int :=
  let r := rnd (rnd (v.1, v.2.1, v.2.2.1, xor64 v.2.2.2 n))
  (xor64 r.1 n, r.2.1, r.2.2.1, r.2.2.2)
/-- The first k elements as a number, the lowest first. -/
def numTo (l : List Int) : Nat → Int
  | 0 => 0
  | k + 1 => Go.bits .or .u64 (numTo l k) (IntKind.u64.wrap (IntKind.u64.wrap (l.getD k 0) * 2 ^ (8 * k)))
def num (l : List Int) : Int := numTo l (min l.length 8)
/-- What the four numbers begin with. -/
def sipInit (a b : Int) : Int × Int × Int × Int := (xor64 a 8317987319222330741, xor64 b 7237128888997146477, xor64 a 7816392313619706465, xor64 b 8387220255154660723)
/-- The four numbers behind j whole numbers. -/
def blks (v : Int × Int × Int × Int) (l : List Int) : Nat → Int × Int × Int × Int
  | 0 => v
  | j + 1 => eat (blks v l j) (num ((l.drop (8 * j)).take 8))
/-- The last number. -/
def lastNum (l : List Int) : Int := Go.bits .or .u64 (num (l.drop (8 * (l.length / 8)))) (IntKind.u64.wrap (IntKind.u64.wrap l.length * 2 ^ 56))
/-- The end: the four numbers' sum. -/
def fin (v : Int × Int × Int × Int) : Int :=
  let r := rndN 4 (v.1, v.2.1, xor64 v.2.2.1 255, v.2.2.2)
  xor64 (xor64 (xor64 r.1 r.2.1) r.2.2.1) r.2.2.2
/-- The keyed sum of bytes by the key of a, b. -/
def sipOf (a b : Int) (l : List Int) : Int := fin (eat (blks (sipInit a b) l (l.length / 8)) (lastNum l))
/-- A number's byte j. -/
def byteAt (x : Int) (j : Nat) : Int := (IntKind.u64.wrap x / 2 ^ (8 * j)) % 256
/-- A number's first j bytes. -/
def wordTo (x : Int) (j : Nat) : List Int := (List.range j).map (byteAt x)
/-- Numbers as bytes. -/
def wordBytes (l : List Int) : List Int := l.flatMap fun x => wordTo x 8
def sipWords (a b : Int) (l : List Int) : Int := sipOf a b (wordBytes l)

theorem wordTo_succ (x : Int) (j : Nat) : wordTo x (j + 1) = wordTo x j ++ [byteAt x j] := by simp [wordTo, List.range_succ]
theorem wordTo_length (x : Int) (j : Nat) : (wordTo x j).length = j := by simp [wordTo]
theorem wordBytes_append (l m : List Int) : wordBytes (l ++ m) = wordBytes l ++ wordBytes m := by simp [wordBytes]
theorem wordBytes_length (l : List Int) : (wordBytes l).length = 8 * l.length := by
  induction l with
  | nil => rfl
  | cons x l ih => simp only [wordBytes, List.flatMap_cons, List.length_append, wordTo_length, List.length_cons] at ih ⊢; omega
theorem wordBytes_take (l : List Int) (j : Nat) (h : j < l.length) : wordBytes (l.take (j + 1)) = wordBytes (l.take j) ++ wordTo (l.getD j 0) 8 := by
  rw [List.take_succ_eq_append_getElem h, wordBytes_append, List.getD_eq_getElem?_getD, List.getElem?_eq_getElem h]
  simp [wordBytes]
end Go.Proofs.Ytkpfojpmigchlaa.Own
