/- What the word functions tell, as plain functions. -/
import Derived.Test.YtgakgpbmcbegbaaGreatDoorMore
namespace Go.Proofs.YtgakgpbmcbegbaaGreatDoor.M
open Go Fr
def wHas (op : Int) : Bool := decide (1 ≤ op) && decide (op ≤ 17)
abbrev u32 (n : Int) : Int := IntKind.u32.wrap n
abbrev i32 (n : Int) : Int := IntKind.i32.wrap n
abbrev i64 (n : Int) : Int := IntKind.i64.wrap n
abbrev shl (k : IntKind) (a b : Int) : Int := k.wrap (a * 2 ^ min b.toNat k.bits)
abbrev shr (k : IntKind) (a b : Int) : Int := a.fdiv (2 ^ min b.toNat k.bits)
def wFlag (b : Bool) : Int := if b then 1 else 0
def wLogic (op a b : Int) : Int :=
  if op = 1 then u32 (a + b) else if op = 2 then u32 (a - b) else if op = 3 then bits .and .u32 a b else if op = 4 then bits .or .u32 a b else if op = 5 then bits .xor .u32 a b
  else if op = 6 then shl .u32 a (b.tmod 32) else if op = 7 then shr .u32 a (b.tmod 32) else u32 (shr .i32 (i32 a) (b.tmod 32))
def wCompared (op a b : Int) : Int :=
  if op = 9 then wFlag (decide (i32 a < i32 b)) else if op = 10 then wFlag (decide (a < b)) else if op = 11 then wFlag (decide (a = b))
  else if op = 12 then u32 (imin (i32 a) (i32 b)) else u32 (imax (i32 a) (i32 b))
def wProduct (op a b : Int) : Int :=
  if op = 14 then u32 (a * b) else if op = 15 then u32 (shr .i64 (i64 (i64 (i32 a) * i64 (i32 b))) 32) else if op = 16 then u32 (i32 ((i32 a).tdiv (i32 b))) else u32 ((i32 a).tmod (i32 b))
def wOf (op a b : Int) : Int × Int :=
  if wHas op = false then (0, 1) else if b = 0 ∧ (op = 16 ∨ op = 17) then (0, 7) else if op ≤ 8 then (wLogic op a b, 0) else if op ≤ 13 then (wCompared op a b, 0) else (wProduct op a b, 0)
def r1Of (op a b : Int) : Int × Bool :=
  if op = 1 then (u32 (a + b), true) else if op = 2 then (u32 (a - b), true) else if op = 3 then (bits .and .u32 a b, true) else if op = 4 then (bits .or .u32 a b, true) else if op = 5 then (bits .xor .u32 a b, true)
  else if op = 6 then (shl .u32 a (bits .and .u32 b 31), true) else if op = 7 then (shr .u32 a (bits .and .u32 b 31), true) else if op = 8 then (u32 (shr .i32 (i32 a) (bits .and .u32 b 31)), true)
  else if op = 9 then (wFlag (decide (i64 (i32 a) < i64 (i32 b))), true) else if op = 10 then (wFlag (decide (a < b)), true) else if op = 11 then (wFlag (decide (a = b)), true)
  else if op = 12 then (u32 (imin (i64 (i32 a)) (i64 (i32 b))), true) else if op = 13 then (u32 (imax (i64 (i32 a)) (i64 (i32 b))), true)
  else if op = 14 then (u32 (i64 (i64 (i32 a) * i64 (i32 b))), true) else if op = 15 then (u32 (shr .i64 (i64 (i64 (i32 a) * i64 (i32 b))) 32), true)
  else if i64 (i32 b) = 0 then (0, false) else if op = 16 then (u32 (i64 ((i64 (i32 a)).tdiv (i64 (i32 b)))), true) else (u32 ((i64 (i32 a)).tmod (i64 (i32 b))), true)
theorem i32_zero {b : Int} (hb : 0 ≤ b ∧ b < 4294967296) (h : IntKind.i32.wrap b = 0) : b = 0 := by
  simp only [IntKind.wrap, IntKind.bits, IntKind.signed] at h
  simp only [Int.reducePow, Nat.reduceSub, Bool.true_and, decide_eq_true_eq, ge_iff_le] at h
  split at h <;> omega
def sized (b : Int) : Bool := decide (1 ≤ b) && decide (b ≤ 32)
def within (n b : Int) : Bool := decide (shl .i64 (-1) (b - 1) ≤ n) && decide (n < shl .i64 1 (b - 1))
def low (n b : Int) : Int := bits .and .u32 (u32 n) (u32 (shl .u32 1 b - 1))
def cut (n b : Int) : Int × Int := if sized b = false then (0, 1) else if within n b = false then (0, 7) else (low n b, 0)
def signed (x b : Int) : Int := i64 (shr .i32 (i32 (shl .u32 x (32 - b))) (32 - b))
def sign (x b : Int) : Int × Int := if sized b = false then (0, 1) else if shr .u64 (IntKind.u64.wrap x) b ≠ 0 then (0, 7) else (signed x b, 0)
end Go.Proofs.YtgakgpbmcbegbaaGreatDoor.M
