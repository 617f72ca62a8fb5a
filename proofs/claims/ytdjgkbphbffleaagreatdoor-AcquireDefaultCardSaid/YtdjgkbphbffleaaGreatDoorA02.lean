/-
  The types of the translated program.
-/
import Derived.Test.YtdjgkbphbffleaaGreatDoorA01
import Derived.Test.YtdjgkbphbffleaaGreatDoorProg
namespace Go.Cf
set_option maxRecDepth 10000

/-! ### Bits of numbers -/

theorem bvi (w : Nat) (n : Nat) (h : n < 2 ^ w) : (BitVec.ofInt w (n : Int)).toNat = n := by
  rw [BitVec.toNat_ofInt]
  have : ((n : Int) % ((2 ^ w : Nat) : Int)) = n := Int.emod_eq_of_lt (by omega) (by exact_mod_cast h)
  rw [this]; rfl

theorem bw_and (a b : Nat) (ha : a < 2 ^ 63) (hb : b < 2 ^ 63) : bw .and .i64 a b = ((a &&& b : Nat) : Int) := by
  unfold bw
  have h : ((BitVec.ofInt IntKind.i64.bits (a : Int)) &&& (BitVec.ofInt IntKind.i64.bits (b : Int))).toNat = a &&& b := by
    rw [BitVec.toNat_and, bvi _ a (by show a < 2 ^ 64; omega), bvi _ b (by show b < 2 ^ 64; omega)]
  simp only [h]
  have := Nat.and_le_left (n := a) (m := b)
  exact wrap_i64 (by omega)

theorem or_lt {a b : Nat} {k : Nat} (ha : a < 2 ^ k) (hb : b < 2 ^ k) : a ||| b < 2 ^ k := Nat.or_lt_two_pow ha hb
theorem xor_lt {a b : Nat} {k : Nat} (ha : a < 2 ^ k) (hb : b < 2 ^ k) : a ^^^ b < 2 ^ k := Nat.xor_lt_two_pow ha hb

theorem bw_or (a b : Nat) (ha : a < 2 ^ 63) (hb : b < 2 ^ 63) : bw .or .i64 a b = ((a ||| b : Nat) : Int) := by
  unfold bw
  have h : ((BitVec.ofInt IntKind.i64.bits (a : Int)) ||| (BitVec.ofInt IntKind.i64.bits (b : Int))).toNat = a ||| b := by
    rw [BitVec.toNat_or, bvi _ a (by show a < 2 ^ 64; omega), bvi _ b (by show b < 2 ^ 64; omega)]
  simp only [h]
  have := or_lt ha hb
  exact wrap_i64 (by omega)

theorem bw_xor (a b : Nat) (ha : a < 2 ^ 63) (hb : b < 2 ^ 63) : bw .xor .i64 a b = ((a ^^^ b : Nat) : Int) := by
  unfold bw
  have h : ((BitVec.ofInt IntKind.i64.bits (a : Int)) ^^^ (BitVec.ofInt IntKind.i64.bits (b : Int))).toNat = a ^^^ b := by
    rw [BitVec.toNat_xor, bvi _ a (by show a < 2 ^ 64; omega), bvi _ b (by show b < 2 ^ 64; omega)]
  simp only [h]
  have := xor_lt ha hb
  exact wrap_i64 (by omega)

theorem bvi8 (a : UInt8) : (BitVec.ofInt IntKind.u8.bits (a.toNat : Int)).toNat = a.toNat := bvi 8 _ a.toNat_lt

theorem bw_and8 (a b : UInt8) : bw .and .u8 a.toNat b.toNat = ((a &&& b).toNat : Int) := by
  unfold bw
  have h : ((BitVec.ofInt IntKind.u8.bits (a.toNat : Int)) &&& (BitVec.ofInt IntKind.u8.bits (b.toNat : Int))).toNat = (a &&& b).toNat := by
    rw [BitVec.toNat_and, bvi8, bvi8, UInt8.toNat_and]
  simp only [h]
  have := (a &&& b).toNat_lt
  exact wrap_u8 (by omega)

theorem bw_or8 (a b : UInt8) : bw .or .u8 a.toNat b.toNat = ((a ||| b).toNat : Int) := by
  unfold bw
  have h : ((BitVec.ofInt IntKind.u8.bits (a.toNat : Int)) ||| (BitVec.ofInt IntKind.u8.bits (b.toNat : Int))).toNat = (a ||| b).toNat := by
    rw [BitVec.toNat_or, bvi8, bvi8, UInt8.toNat_or]
  simp only [h]
  have := (a ||| b).toNat_lt
  exact wrap_u8 (by omega)

theorem bw_xor8 (a b : UInt8) : bw .xor .u8 a.toNat b.toNat = ((a ^^^ b).toNat : Int) := by
  unfold bw
  have h : ((BitVec.ofInt IntKind.u8.bits (a.toNat : Int)) ^^^ (BitVec.ofInt IntKind.u8.bits (b.toNat : Int))).toNat = (a ^^^ b).toNat := by
    rw [BitVec.toNat_xor, bvi8, bvi8, UInt8.toNat_xor]
  simp only [h]
  have := (a ^^^ b).toNat_lt
  exact wrap_u8 (by omega)

theorem shr_nat (a k : Nat) : ((a : Int) / 2 ^ k) = ((a / 2 ^ k : Nat) : Int) := by simp

theorem shl_nat (a k : Nat) (hk : k ≤ 64) (h : a * 2 ^ k < 2 ^ 63) : shl .i64 a (k : Int) = ((a * 2 ^ k : Nat) : Int) := by
  unfold shl
  have h1 : min ((k : Int)).toNat IntKind.i64.bits = k := by show min ((k : Int)).toNat 64 = k; omega
  rw [h1]
  have h2 : ((a : Int) * 2 ^ k) = ((a * 2 ^ k : Nat) : Int) := by simp
  rw [h2]
  exact wrap_i64 (by omega)

/-! ### How many bits -/

def popF : Nat → Nat → Nat
  | 0, _ => 0
  | k + 1, n => n % 2 + popF k (n / 2)
/-- (By well-founded recursion: so that nobody unfolds it unasked.) -/
def pop (n : Nat) : Nat := if h : n = 0 then 0 else n % 2 + pop (n / 2)
  termination_by n
  decreasing_by omega
theorem pop_zero : pop 0 = 0 := by rw [pop]; simp
theorem pop_step (n : Nat) : pop n = n % 2 + pop (n / 2) := by
  by_cases h : n = 0
  · subst h; rw [pop_zero]
  · rw [pop]; simp [h]
theorem pop_eq : ∀ (k n : Nat), n < 2 ^ k → pop n = popF k n
  | 0, n, h => by
    have : n = 0 := by simpa using h
    subst this; rw [pop_zero]; rfl
  | k + 1, n, h => by
    have h2 : n / 2 < 2 ^ k := by rw [Nat.pow_succ] at h; omega
    rw [pop_step, pop_eq k _ h2]; rfl
theorem popF_le : ∀ k n, popF k n ≤ k
  | 0, _ => Nat.le_refl _
  | k + 1, n => by
    have := popF_le k (n / 2)
    have : n % 2 < 2 := Nat.mod_lt _ (by decide)
    show n % 2 + popF k (n / 2) ≤ k + 1
    omega
theorem pop_le {k n : Nat} (h : n < 2 ^ k) : pop n ≤ k := by rw [pop_eq k n h]; exact popF_le k n
theorem pop8 (x : UInt8) : pop x.toNat ≤ 8 := pop_le x.toNat_lt

/-- Is an odd number of bits set? -/
def oddB (b : UInt8) : Bool := pop b.toNat % 2 == 1

def makeOdd (b : UInt8) : UInt8 := if oddB (b &&& 0x7f) then b &&& 0x7f else (b &&& 0x7f) ||| 0x80

/-! ### Four bits in eight -/

/-- The bits before the last watch. -/
def hp0 (n : Nat) : Nat :=
  let d1 := n % 2; let d2 := n / 2 % 2; let d3 := n / 4 % 2; let d4 := n / 8 % 2
  (d1 * 2 ||| d2 * 8 ||| d3 * 32 ||| d4 * 128) ||| ((1 ^^^ d1 ^^^ d3 ^^^ d4) ||| (1 ^^^ d1 ^^^ d2 ^^^ d4) * 4 ||| (1 ^^^ d1 ^^^ d2 ^^^ d3) * 16)
def hamPut (n : Nat) : UInt8 := let b := UInt8.ofNat (hp0 n); if oddB b then b else b ||| 64

/-- The number of a byte. -/
def hamGet (b : UInt8) : Option Nat := (List.range 16).find? fun n => decide (pop (b ^^^ hamPut n).toNat ≤ 1)

theorem hamGet_lt {b : UInt8} {n : Nat} (h : hamGet b = some n) : n < 16 := by
  have := List.mem_of_find?_eq_some h
  simpa using this

/-- The numbers of bytes. -/
def hamOpen : List UInt8 → Option (List Nat)
  | [] => some []
  | b :: r => match hamGet b with | none => none | some n => (hamOpen r).map (n :: ·)
end Go.Cf

namespace Go.Proofs
open Go.Cf
instance : TyA Tryz.prog 2 false 1 := ⟨by kernel_rfl, by kernel_rfl, by kernel_rfl⟩
instance : TyInt Tryz.prog 2 .i64 := ⟨by kernel_rfl⟩
instance : TyZ Tryz.prog 2 [.int .i64 0] := ⟨by kernel_rfl⟩
instance : TyB Tryz.prog 2 8 := ⟨by kernel_rfl⟩
instance : TyA Tryz.prog 3 false 1 := ⟨by kernel_rfl, by kernel_rfl, by kernel_rfl⟩
instance : TyInt Tryz.prog 3 .i64 := ⟨by kernel_rfl⟩
instance : TyZ Tryz.prog 3 [.int .i64 0] := ⟨by kernel_rfl⟩
instance : TyB Tryz.prog 3 8 := ⟨by kernel_rfl⟩
instance : TyA Tryz.prog 4 false 1 := ⟨by kernel_rfl, by kernel_rfl, by kernel_rfl⟩
instance : TyBo Tryz.prog 4 := ⟨by kernel_rfl⟩
instance : TyZ Tryz.prog 4 [.bool false] := ⟨by kernel_rfl⟩
instance : TyB Tryz.prog 4 1 := ⟨by kernel_rfl⟩
instance : TyA Tryz.prog 5 false 1 := ⟨by kernel_rfl, by kernel_rfl, by kernel_rfl⟩
instance : TyInt Tryz.prog 5 .u8 := ⟨by kernel_rfl⟩
instance : TyZ Tryz.prog 5 [.int .u8 0] := ⟨by kernel_rfl⟩
instance : TyB Tryz.prog 5 1 := ⟨by kernel_rfl⟩
instance : TyA Tryz.prog 6 false 1 := ⟨by kernel_rfl, by kernel_rfl, by kernel_rfl⟩
instance : TyInt Tryz.prog 6 .u8 := ⟨by kernel_rfl⟩
instance : TyZ Tryz.prog 6 [.int .u8 0] := ⟨by kernel_rfl⟩
instance : TyB Tryz.prog 6 1 := ⟨by kernel_rfl⟩
instance : TyA Tryz.prog 7 true 4 := ⟨by kernel_rfl, by kernel_rfl, by kernel_rfl⟩
instance : TyPl Tryz.prog 7 [(0, 1), (1, 1), (2, 1), (3, 1)] := ⟨by kernel_rfl⟩
instance : TyStruct Tryz.prog 7 [(0, 2), (1, 3), (2, 4), (3, 6)] := ⟨by kernel_rfl⟩
instance : TyZ Tryz.prog 7 [.int .i64 0, .int .i64 0, .bool false, .int .u8 0] := ⟨by kernel_rfl⟩
instance : TyB Tryz.prog 7 24 := ⟨by kernel_rfl⟩
instance : TyA Tryz.prog 8 true 4 := ⟨by kernel_rfl, by kernel_rfl, by kernel_rfl⟩
instance : TyPl Tryz.prog 8 [(0, 1), (1, 1), (2, 1), (3, 1)] := ⟨by kernel_rfl⟩
instance : TyStruct Tryz.prog 8 [(0, 2), (1, 3), (2, 4), (3, 6)] := ⟨by kernel_rfl⟩
instance : TyZ Tryz.prog 8 [.int .i64 0, .int .i64 0, .bool false, .int .u8 0] := ⟨by kernel_rfl⟩
instance : TyB Tryz.prog 8 24 := ⟨by kernel_rfl⟩
instance : TyA Tryz.prog 9 false 1 := ⟨by kernel_rfl, by kernel_rfl, by kernel_rfl⟩
instance : TyStr Tryz.prog 9 := ⟨by kernel_rfl⟩
instance : TyZ Tryz.prog 9 [.string ByteArray.empty] := ⟨by kernel_rfl⟩
instance : TyB Tryz.prog 9 16 := ⟨by kernel_rfl⟩
instance : TyA Tryz.prog 10 false 1 := ⟨by kernel_rfl, by kernel_rfl, by kernel_rfl⟩
instance : TyStr Tryz.prog 10 := ⟨by kernel_rfl⟩
instance : TyZ Tryz.prog 10 [.string ByteArray.empty] := ⟨by kernel_rfl⟩
instance : TyB Tryz.prog 10 16 := ⟨by kernel_rfl⟩
instance : TyA Tryz.prog 11 false 1 := ⟨by kernel_rfl, by kernel_rfl, by kernel_rfl⟩
instance : TyStr Tryz.prog 11 := ⟨by kernel_rfl⟩
instance : TyZ Tryz.prog 11 [.string ByteArray.empty] := ⟨by kernel_rfl⟩
instance : TyB Tryz.prog 11 16 := ⟨by kernel_rfl⟩
instance : TyA Tryz.prog 12 false 1 := ⟨by kernel_rfl, by kernel_rfl, by kernel_rfl⟩
instance : TyInt Tryz.prog 12 .u64 := ⟨by kernel_rfl⟩
instance : TyZ Tryz.prog 12 [.int .u64 0] := ⟨by kernel_rfl⟩
instance : TyB Tryz.prog 12 8 := ⟨by kernel_rfl⟩
instance : TyA Tryz.prog 13 true 2 := ⟨by kernel_rfl, by kernel_rfl, by kernel_rfl⟩
instance : TyPl Tryz.prog 13 [(0, 1), (1, 1)] := ⟨by kernel_rfl⟩
instance : TyStruct Tryz.prog 13 [(0, 9), (1, 12)] := ⟨by kernel_rfl⟩
instance : TyZ Tryz.prog 13 [.string ByteArray.empty, .int .u64 0] := ⟨by kernel_rfl⟩
instance : TyB Tryz.prog 13 24 := ⟨by kernel_rfl⟩
instance : TyA Tryz.prog 14 true 2 := ⟨by kernel_rfl, by kernel_rfl, by kernel_rfl⟩
instance : TyPl Tryz.prog 14 [(0, 1), (1, 1)] := ⟨by kernel_rfl⟩
instance : TyStruct Tryz.prog 14 [(0, 9), (1, 12)] := ⟨by kernel_rfl⟩
instance : TyZ Tryz.prog 14 [.string ByteArray.empty, .int .u64 0] := ⟨by kernel_rfl⟩
instance : TyB Tryz.prog 14 24 := ⟨by kernel_rfl⟩
instance : TyA Tryz.prog 15 false 1 := ⟨by kernel_rfl, by kernel_rfl, by kernel_rfl⟩
instance : TyK Tryz.prog 15 1 := ⟨by kernel_rfl⟩
instance : TyZ Tryz.prog 15 [.pointer none] := ⟨by kernel_rfl⟩
instance : TyB Tryz.prog 15 8 := ⟨by kernel_rfl⟩
instance : TyA Tryz.prog 16 false 1 := ⟨by kernel_rfl, by kernel_rfl, by kernel_rfl⟩
instance : TyK Tryz.prog 16 1 := ⟨by kernel_rfl⟩
instance : TyZ Tryz.prog 16 [.pointer none] := ⟨by kernel_rfl⟩
instance : TyB Tryz.prog 16 8 := ⟨by kernel_rfl⟩
instance : TyA Tryz.prog 17 false 1 := ⟨by kernel_rfl, by kernel_rfl, by kernel_rfl⟩
instance : TyK Tryz.prog 17 1 := ⟨by kernel_rfl⟩
instance : TyZ Tryz.prog 17 [.pointer none] := ⟨by kernel_rfl⟩
instance : TyB Tryz.prog 17 8 := ⟨by kernel_rfl⟩
instance : TyA Tryz.prog 18 true 1 := ⟨by kernel_rfl, by kernel_rfl, by kernel_rfl⟩
instance : TyPl Tryz.prog 18 [(0, 1)] := ⟨by kernel_rfl⟩
instance : TyStruct Tryz.prog 18 [(0, 17)] := ⟨by kernel_rfl⟩
instance : TyZ Tryz.prog 18 [.pointer none] := ⟨by kernel_rfl⟩
instance : TyB Tryz.prog 18 8 := ⟨by kernel_rfl⟩
instance : TyA Tryz.prog 19 true 1 := ⟨by kernel_rfl, by kernel_rfl, by kernel_rfl⟩
instance : TyPl Tryz.prog 19 [(0, 1)] := ⟨by kernel_rfl⟩
instance : TyStruct Tryz.prog 19 [(0, 17)] := ⟨by kernel_rfl⟩
instance : TyZ Tryz.prog 19 [.pointer none] := ⟨by kernel_rfl⟩
instance : TyB Tryz.prog 19 8 := ⟨by kernel_rfl⟩
instance : TyA Tryz.prog 20 false 1 := ⟨by kernel_rfl, by kernel_rfl, by kernel_rfl⟩
instance : TyK Tryz.prog 20 0 := ⟨by kernel_rfl⟩
instance : TyZ Tryz.prog 20 [.nilIface] := ⟨by kernel_rfl⟩
instance : TyB Tryz.prog 20 16 := ⟨by kernel_rfl⟩
instance : TyA Tryz.prog 21 false 1 := ⟨by kernel_rfl, by kernel_rfl, by kernel_rfl⟩
instance : TyInt Tryz.prog 21 .i32 := ⟨by kernel_rfl⟩
instance : TyZ Tryz.prog 21 [.int .i32 0] := ⟨by kernel_rfl⟩
instance : TyB Tryz.prog 21 4 := ⟨by kernel_rfl⟩
instance : TyA Tryz.prog 22 false 1 := ⟨by kernel_rfl, by kernel_rfl, by kernel_rfl⟩
instance : TySlice Tryz.prog 22 36 := ⟨by kernel_rfl⟩
instance : TyK Tryz.prog 22 2 := ⟨by kernel_rfl⟩
instance : TyZ Tryz.prog 22 [.slice none 0 0] := ⟨by kernel_rfl⟩
instance : TyB Tryz.prog 22 24 := ⟨by kernel_rfl⟩
instance : TyA Tryz.prog 26 false 1 := ⟨by kernel_rfl, by kernel_rfl, by kernel_rfl⟩
instance : TyK Tryz.prog 26 1 := ⟨by kernel_rfl⟩
instance : TyZ Tryz.prog 26 [.pointer none] := ⟨by kernel_rfl⟩
instance : TyB Tryz.prog 26 8 := ⟨by kernel_rfl⟩
instance : TyA Tryz.prog 27 false 1 := ⟨by kernel_rfl, by kernel_rfl, by kernel_rfl⟩
instance : TyK Tryz.prog 27 0 := ⟨by kernel_rfl⟩
instance : TyZ Tryz.prog 27 [.nilIface] := ⟨by kernel_rfl⟩
instance : TyB Tryz.prog 27 16 := ⟨by kernel_rfl⟩
instance : TyA Tryz.prog 28 false 1 := ⟨by kernel_rfl, by kernel_rfl, by kernel_rfl⟩
instance : TyK Tryz.prog 28 0 := ⟨by kernel_rfl⟩
instance : TyZ Tryz.prog 28 [.nilIface] := ⟨by kernel_rfl⟩
instance : TyB Tryz.prog 28 16 := ⟨by kernel_rfl⟩
instance : TyA Tryz.prog 32 false 1 := ⟨by kernel_rfl, by kernel_rfl, by kernel_rfl⟩
instance : TySlice Tryz.prog 32 5 := ⟨by kernel_rfl⟩
instance : TyK Tryz.prog 32 2 := ⟨by kernel_rfl⟩
instance : TyZ Tryz.prog 32 [.slice none 0 0] := ⟨by kernel_rfl⟩
instance : TyB Tryz.prog 32 24 := ⟨by kernel_rfl⟩
instance : TyA Tryz.prog 34 false 1 := ⟨by kernel_rfl, by kernel_rfl, by kernel_rfl⟩
instance : TySlice Tryz.prog 34 3 := ⟨by kernel_rfl⟩
instance : TyK Tryz.prog 34 2 := ⟨by kernel_rfl⟩
instance : TyZ Tryz.prog 34 [.slice none 0 0] := ⟨by kernel_rfl⟩
instance : TyB Tryz.prog 34 24 := ⟨by kernel_rfl⟩
instance : TyA Tryz.prog 35 true 9 := ⟨by kernel_rfl, by kernel_rfl, by kernel_rfl⟩
instance : TyPl Tryz.prog 35 [(0, 1), (1, 1), (2, 1), (3, 1), (4, 1), (5, 1), (6, 1), (7, 1), (8, 1)] := ⟨by kernel_rfl⟩
instance : TyStruct Tryz.prog 35 [(0, 3), (1, 3), (2, 3), (3, 3), (4, 3), (5, 34), (6, 32), (7, 32), (8, 34)] := ⟨by kernel_rfl⟩
instance : TyZ Tryz.prog 35 [.int .i64 0, .int .i64 0, .int .i64 0, .int .i64 0, .int .i64 0, .slice none 0 0, .slice none 0 0, .slice none 0 0, .slice none 0 0] := ⟨by kernel_rfl⟩
instance : TyB Tryz.prog 35 136 := ⟨by kernel_rfl⟩
instance : TyA Tryz.prog 36 true 9 := ⟨by kernel_rfl, by kernel_rfl, by kernel_rfl⟩
instance : TyPl Tryz.prog 36 [(0, 1), (1, 1), (2, 1), (3, 1), (4, 1), (5, 1), (6, 1), (7, 1), (8, 1)] := ⟨by kernel_rfl⟩
instance : TyStruct Tryz.prog 36 [(0, 3), (1, 3), (2, 3), (3, 3), (4, 3), (5, 34), (6, 32), (7, 32), (8, 34)] := ⟨by kernel_rfl⟩
instance : TyZ Tryz.prog 36 [.int .i64 0, .int .i64 0, .int .i64 0, .int .i64 0, .int .i64 0, .slice none 0 0, .slice none 0 0, .slice none 0 0, .slice none 0 0] := ⟨by kernel_rfl⟩
instance : TyB Tryz.prog 36 136 := ⟨by kernel_rfl⟩
instance : TyA Tryz.prog 38 true 3 := ⟨by kernel_rfl, by kernel_rfl, by kernel_rfl⟩
instance : TyPl Tryz.prog 38 [(0, 1), (1, 1), (2, 1)] := ⟨by kernel_rfl⟩
instance : TyStruct Tryz.prog 38 [(0, 3), (1, 4), (2, 3)] := ⟨by kernel_rfl⟩
instance : TyZ Tryz.prog 38 [.int .i64 0, .bool false, .int .i64 0] := ⟨by kernel_rfl⟩
instance : TyB Tryz.prog 38 24 := ⟨by kernel_rfl⟩
instance : TyA Tryz.prog 39 true 3 := ⟨by kernel_rfl, by kernel_rfl, by kernel_rfl⟩
instance : TyPl Tryz.prog 39 [(0, 1), (1, 1), (2, 1)] := ⟨by kernel_rfl⟩
instance : TyStruct Tryz.prog 39 [(0, 3), (1, 4), (2, 3)] := ⟨by kernel_rfl⟩
instance : TyZ Tryz.prog 39 [.int .i64 0, .bool false, .int .i64 0] := ⟨by kernel_rfl⟩
instance : TyB Tryz.prog 39 24 := ⟨by kernel_rfl⟩
instance : TyA Tryz.prog 41 false 1 := ⟨by kernel_rfl, by kernel_rfl, by kernel_rfl⟩
instance : TySlice Tryz.prog 41 45 := ⟨by kernel_rfl⟩
instance : TyK Tryz.prog 41 2 := ⟨by kernel_rfl⟩
instance : TyZ Tryz.prog 41 [.slice none 0 0] := ⟨by kernel_rfl⟩
instance : TyB Tryz.prog 41 24 := ⟨by kernel_rfl⟩
instance : TyA Tryz.prog 44 true 3 := ⟨by kernel_rfl, by kernel_rfl, by kernel_rfl⟩
instance : TyPl Tryz.prog 44 [(0, 1), (1, 1), (2, 1)] := ⟨by kernel_rfl⟩
instance : TyStruct Tryz.prog 44 [(0, 3), (1, 3), (2, 3)] := ⟨by kernel_rfl⟩
instance : TyZ Tryz.prog 44 [.int .i64 0, .int .i64 0, .int .i64 0] := ⟨by kernel_rfl⟩
instance : TyB Tryz.prog 44 24 := ⟨by kernel_rfl⟩
instance : TyA Tryz.prog 45 true 3 := ⟨by kernel_rfl, by kernel_rfl, by kernel_rfl⟩
instance : TyPl Tryz.prog 45 [(0, 1), (1, 1), (2, 1)] := ⟨by kernel_rfl⟩
instance : TyStruct Tryz.prog 45 [(0, 3), (1, 3), (2, 3)] := ⟨by kernel_rfl⟩
instance : TyZ Tryz.prog 45 [.int .i64 0, .int .i64 0, .int .i64 0] := ⟨by kernel_rfl⟩
instance : TyB Tryz.prog 45 24 := ⟨by kernel_rfl⟩
instance : TyA Tryz.prog 46 true 11 := ⟨by kernel_rfl, by kernel_rfl, by kernel_rfl⟩
instance : TyArr Tryz.prog 46 11 4 := ⟨by kernel_rfl⟩
instance : TyZ Tryz.prog 46 [.bool false, .bool false, .bool false, .bool false, .bool false, .bool false, .bool false, .bool false, .bool false, .bool false, .bool false] := ⟨by kernel_rfl⟩
instance : TyB Tryz.prog 46 11 := ⟨by kernel_rfl⟩
instance : TyA Tryz.prog 47 true 15 := ⟨by kernel_rfl, by kernel_rfl, by kernel_rfl⟩
instance : TyPl Tryz.prog 47 [(0, 3), (3, 11), (14, 1)] := ⟨by kernel_rfl⟩
instance : TyStruct Tryz.prog 47 [(0, 45), (3, 46), (14, 3)] := ⟨by kernel_rfl⟩
instance : TyZ Tryz.prog 47 [.int .i64 0, .int .i64 0, .int .i64 0, .bool false, .bool false, .bool false, .bool false, .bool false, .bool false, .bool false, .bool false, .bool false, .bool false, .bool false, .int .i64 0] := ⟨by kernel_rfl⟩
instance : TyB Tryz.prog 47 48 := ⟨by kernel_rfl⟩
instance : TyA Tryz.prog 48 true 15 := ⟨by kernel_rfl, by kernel_rfl, by kernel_rfl⟩
instance : TyPl Tryz.prog 48 [(0, 3), (3, 11), (14, 1)] := ⟨by kernel_rfl⟩
instance : TyStruct Tryz.prog 48 [(0, 45), (3, 46), (14, 3)] := ⟨by kernel_rfl⟩
instance : TyZ Tryz.prog 48 [.int .i64 0, .int .i64 0, .int .i64 0, .bool false, .bool false, .bool false, .bool false, .bool false, .bool false, .bool false, .bool false, .bool false, .bool false, .bool false, .int .i64 0] := ⟨by kernel_rfl⟩
instance : TyB Tryz.prog 48 48 := ⟨by kernel_rfl⟩
instance : TyA Tryz.prog 49 true 40 := ⟨by kernel_rfl, by kernel_rfl, by kernel_rfl⟩
instance : TyArr Tryz.prog 49 40 5 := ⟨by kernel_rfl⟩
instance : TyZ Tryz.prog 49 [.int .u8 0, .int .u8 0, .int .u8 0, .int .u8 0, .int .u8 0, .int .u8 0, .int .u8 0, .int .u8 0, .int .u8 0, .int .u8 0, .int .u8 0, .int .u8 0, .int .u8 0, .int .u8 0, .int .u8 0, .int .u8 0, .int .u8 0, .int .u8 0, .int .u8 0, .int .u8 0, .int .u8 0, .int .u8 0, .int .u8 0, .int .u8 0, .int .u8 0, .int .u8 0, .int .u8 0, .int .u8 0, .int .u8 0, .int .u8 0, .int .u8 0, .int .u8 0, .int .u8 0, .int .u8 0, .int .u8 0, .int .u8 0, .int .u8 0, .int .u8 0, .int .u8 0, .int .u8 0] := ⟨by kernel_rfl⟩
instance : TyB Tryz.prog 49 40 := ⟨by kernel_rfl⟩
instance : TyA Tryz.prog 50 true 1000 := ⟨by kernel_rfl, by kernel_rfl, by kernel_rfl⟩
instance : TyArr Tryz.prog 50 25 49 := ⟨by kernel_rfl⟩
instance : TyB Tryz.prog 50 1000 := ⟨by kernel_rfl⟩
instance : TyA Tryz.prog 51 true 25 := ⟨by kernel_rfl, by kernel_rfl, by kernel_rfl⟩
instance : TyArr Tryz.prog 51 25 4 := ⟨by kernel_rfl⟩
instance : TyZ Tryz.prog 51 [.bool false, .bool false, .bool false, .bool false, .bool false, .bool false, .bool false, .bool false, .bool false, .bool false, .bool false, .bool false, .bool false, .bool false, .bool false, .bool false, .bool false, .bool false, .bool false, .bool false, .bool false, .bool false, .bool false, .bool false, .bool false] := ⟨by kernel_rfl⟩
instance : TyB Tryz.prog 51 25 := ⟨by kernel_rfl⟩
instance : TyA Tryz.prog 52 false 1 := ⟨by kernel_rfl, by kernel_rfl, by kernel_rfl⟩
instance : TySlice Tryz.prog 52 143 := ⟨by kernel_rfl⟩
instance : TyK Tryz.prog 52 2 := ⟨by kernel_rfl⟩
instance : TyZ Tryz.prog 52 [.slice none 0 0] := ⟨by kernel_rfl⟩
instance : TyB Tryz.prog 52 24 := ⟨by kernel_rfl⟩
instance : TyA Tryz.prog 53 true 18 := ⟨by kernel_rfl, by kernel_rfl, by kernel_rfl⟩
instance : TyArr Tryz.prog 53 6 45 := ⟨by kernel_rfl⟩
instance : TyZ Tryz.prog 53 [.int .i64 0, .int .i64 0, .int .i64 0, .int .i64 0, .int .i64 0, .int .i64 0, .int .i64 0, .int .i64 0, .int .i64 0, .int .i64 0, .int .i64 0, .int .i64 0, .int .i64 0, .int .i64 0, .int .i64 0, .int .i64 0, .int .i64 0, .int .i64 0] := ⟨by kernel_rfl⟩
instance : TyB Tryz.prog 53 144 := ⟨by kernel_rfl⟩
instance : TyA Tryz.prog 54 true 1061 := ⟨by kernel_rfl, by kernel_rfl, by kernel_rfl⟩
instance : TyPl Tryz.prog 54 [(0, 15), (15, 1000), (1015, 25), (1040, 1), (1041, 18), (1059, 1), (1060, 1)] := ⟨by kernel_rfl⟩
instance : TyStruct Tryz.prog 54 [(0, 48), (15, 50), (1015, 51), (1040, 52), (1041, 53), (1059, 4), (1060, 3)] := ⟨by kernel_rfl⟩
instance : TyB Tryz.prog 54 1264 := ⟨by kernel_rfl⟩
instance : TyA Tryz.prog 55 true 1061 := ⟨by kernel_rfl, by kernel_rfl, by kernel_rfl⟩
instance : TyPl Tryz.prog 55 [(0, 15), (15, 1000), (1015, 25), (1040, 1), (1041, 18), (1059, 1), (1060, 1)] := ⟨by kernel_rfl⟩
instance : TyStruct Tryz.prog 55 [(0, 48), (15, 50), (1015, 51), (1040, 52), (1041, 53), (1059, 4), (1060, 3)] := ⟨by kernel_rfl⟩
instance : TyB Tryz.prog 55 1264 := ⟨by kernel_rfl⟩
instance : TyA Tryz.prog 68 false 1 := ⟨by kernel_rfl, by kernel_rfl, by kernel_rfl⟩
instance : TyK Tryz.prog 68 1 := ⟨by kernel_rfl⟩
instance : TyZ Tryz.prog 68 [.pointer none] := ⟨by kernel_rfl⟩
instance : TyB Tryz.prog 68 8 := ⟨by kernel_rfl⟩
instance : TyA Tryz.prog 69 false 1 := ⟨by kernel_rfl, by kernel_rfl, by kernel_rfl⟩
instance : TySlice Tryz.prog 69 55 := ⟨by kernel_rfl⟩
instance : TyK Tryz.prog 69 2 := ⟨by kernel_rfl⟩
instance : TyZ Tryz.prog 69 [.slice none 0 0] := ⟨by kernel_rfl⟩
instance : TyB Tryz.prog 69 24 := ⟨by kernel_rfl⟩
instance : TyA Tryz.prog 70 true 9 := ⟨by kernel_rfl, by kernel_rfl, by kernel_rfl⟩
instance : TyArr Tryz.prog 70 9 4 := ⟨by kernel_rfl⟩
instance : TyZ Tryz.prog 70 [.bool false, .bool false, .bool false, .bool false, .bool false, .bool false, .bool false, .bool false, .bool false] := ⟨by kernel_rfl⟩
instance : TyB Tryz.prog 70 9 := ⟨by kernel_rfl⟩
instance : TyA Tryz.prog 71 true 9549 := ⟨by kernel_rfl, by kernel_rfl, by kernel_rfl⟩
instance : TyArr Tryz.prog 71 9 55 := ⟨by kernel_rfl⟩
instance : TyB Tryz.prog 71 11376 := ⟨by kernel_rfl⟩
instance : TyA Tryz.prog 72 true 135 := ⟨by kernel_rfl, by kernel_rfl, by kernel_rfl⟩
instance : TyArr Tryz.prog 72 9 48 := ⟨by kernel_rfl⟩
instance : TyB Tryz.prog 72 432 := ⟨by kernel_rfl⟩
instance : TyA Tryz.prog 73 true 9 := ⟨by kernel_rfl, by kernel_rfl, by kernel_rfl⟩
instance : TyArr Tryz.prog 73 9 32 := ⟨by kernel_rfl⟩
instance : TyZ Tryz.prog 73 [.slice none 0 0, .slice none 0 0, .slice none 0 0, .slice none 0 0, .slice none 0 0, .slice none 0 0, .slice none 0 0, .slice none 0 0, .slice none 0 0] := ⟨by kernel_rfl⟩
instance : TyB Tryz.prog 73 216 := ⟨by kernel_rfl⟩
instance : TyA Tryz.prog 74 true 9 := ⟨by kernel_rfl, by kernel_rfl, by kernel_rfl⟩
instance : TyArr Tryz.prog 74 9 3 := ⟨by kernel_rfl⟩
instance : TyZ Tryz.prog 74 [.int .i64 0, .int .i64 0, .int .i64 0, .int .i64 0, .int .i64 0, .int .i64 0, .int .i64 0, .int .i64 0, .int .i64 0] := ⟨by kernel_rfl⟩
instance : TyB Tryz.prog 74 72 := ⟨by kernel_rfl⟩
instance : TyA Tryz.prog 75 true 10 := ⟨by kernel_rfl, by kernel_rfl, by kernel_rfl⟩
instance : TyPl Tryz.prog 75 [(0, 3), (3, 1), (4, 1), (5, 1), (6, 1), (7, 1), (8, 1), (9, 1)] := ⟨by kernel_rfl⟩
instance : TyStruct Tryz.prog 75 [(0, 45), (3, 3), (4, 3), (5, 3), (6, 3), (7, 3), (8, 3), (9, 9)] := ⟨by kernel_rfl⟩
instance : TyZ Tryz.prog 75 [.int .i64 0, .int .i64 0, .int .i64 0, .int .i64 0, .int .i64 0, .int .i64 0, .int .i64 0, .int .i64 0, .int .i64 0, .string ByteArray.empty] := ⟨by kernel_rfl⟩
instance : TyB Tryz.prog 75 88 := ⟨by kernel_rfl⟩
instance : TyA Tryz.prog 76 true 10 := ⟨by kernel_rfl, by kernel_rfl, by kernel_rfl⟩
instance : TyPl Tryz.prog 76 [(0, 3), (3, 1), (4, 1), (5, 1), (6, 1), (7, 1), (8, 1), (9, 1)] := ⟨by kernel_rfl⟩
instance : TyStruct Tryz.prog 76 [(0, 45), (3, 3), (4, 3), (5, 3), (6, 3), (7, 3), (8, 3), (9, 9)] := ⟨by kernel_rfl⟩
instance : TyZ Tryz.prog 76 [.int .i64 0, .int .i64 0, .int .i64 0, .int .i64 0, .int .i64 0, .int .i64 0, .int .i64 0, .int .i64 0, .int .i64 0, .string ByteArray.empty] := ⟨by kernel_rfl⟩
instance : TyB Tryz.prog 76 88 := ⟨by kernel_rfl⟩
instance : TyA Tryz.prog 77 true 9737 := ⟨by kernel_rfl, by kernel_rfl, by kernel_rfl⟩
instance : TyPl Tryz.prog 77 [(0, 1), (1, 1), (2, 1), (3, 3), (6, 9), (15, 9549), (9564, 9), (9573, 135), (9708, 9), (9717, 9), (9726, 1), (9727, 10)] := ⟨by kernel_rfl⟩
instance : TyStruct Tryz.prog 77 [(0, 3), (1, 69), (2, 4), (3, 45), (6, 70), (15, 71), (9564, 70), (9573, 72), (9708, 73), (9717, 74), (9726, 4), (9727, 76)] := ⟨by kernel_rfl⟩
instance : TyB Tryz.prog 77 12288 := ⟨by kernel_rfl⟩
instance : TyA Tryz.prog 78 true 9737 := ⟨by kernel_rfl, by kernel_rfl, by kernel_rfl⟩
instance : TyPl Tryz.prog 78 [(0, 1), (1, 1), (2, 1), (3, 3), (6, 9), (15, 9549), (9564, 9), (9573, 135), (9708, 9), (9717, 9), (9726, 1), (9727, 10)] := ⟨by kernel_rfl⟩
instance : TyStruct Tryz.prog 78 [(0, 3), (1, 69), (2, 4), (3, 45), (6, 70), (15, 71), (9564, 70), (9573, 72), (9708, 73), (9717, 74), (9726, 4), (9727, 76)] := ⟨by kernel_rfl⟩
instance : TyB Tryz.prog 78 12288 := ⟨by kernel_rfl⟩
instance : TyA Tryz.prog 82 true 10 := ⟨by kernel_rfl, by kernel_rfl, by kernel_rfl⟩
instance : TyPl Tryz.prog 82 [(0, 3), (3, 1), (4, 1), (5, 1), (6, 1), (7, 1), (8, 1), (9, 1)] := ⟨by kernel_rfl⟩
instance : TyStruct Tryz.prog 82 [(0, 45), (3, 3), (4, 3), (5, 3), (6, 3), (7, 3), (8, 3), (9, 9)] := ⟨by kernel_rfl⟩
instance : TyZ Tryz.prog 82 [.int .i64 0, .int .i64 0, .int .i64 0, .int .i64 0, .int .i64 0, .int .i64 0, .int .i64 0, .int .i64 0, .int .i64 0, .string ByteArray.empty] := ⟨by kernel_rfl⟩
instance : TyB Tryz.prog 82 88 := ⟨by kernel_rfl⟩
instance : TyA Tryz.prog 87 false 1 := ⟨by kernel_rfl, by kernel_rfl, by kernel_rfl⟩
instance : TyK Tryz.prog 87 1 := ⟨by kernel_rfl⟩
instance : TyZ Tryz.prog 87 [.pointer none] := ⟨by kernel_rfl⟩
instance : TyB Tryz.prog 87 8 := ⟨by kernel_rfl⟩
instance : TyA Tryz.prog 90 true 10 := ⟨by kernel_rfl, by kernel_rfl, by kernel_rfl⟩
instance : TyPl Tryz.prog 90 [(0, 3), (3, 1), (4, 3), (7, 1), (8, 1), (9, 1)] := ⟨by kernel_rfl⟩
instance : TyStruct Tryz.prog 90 [(0, 45), (3, 4), (4, 45), (7, 9), (8, 3), (9, 3)] := ⟨by kernel_rfl⟩
instance : TyZ Tryz.prog 90 [.int .i64 0, .int .i64 0, .int .i64 0, .bool false, .int .i64 0, .int .i64 0, .int .i64 0, .string ByteArray.empty, .int .i64 0, .int .i64 0] := ⟨by kernel_rfl⟩
instance : TyB Tryz.prog 90 88 := ⟨by kernel_rfl⟩
instance : TyA Tryz.prog 91 true 10 := ⟨by kernel_rfl, by kernel_rfl, by kernel_rfl⟩
instance : TyPl Tryz.prog 91 [(0, 3), (3, 1), (4, 3), (7, 1), (8, 1), (9, 1)] := ⟨by kernel_rfl⟩
instance : TyStruct Tryz.prog 91 [(0, 45), (3, 4), (4, 45), (7, 9), (8, 3), (9, 3)] := ⟨by kernel_rfl⟩
instance : TyZ Tryz.prog 91 [.int .i64 0, .int .i64 0, .int .i64 0, .bool false, .int .i64 0, .int .i64 0, .int .i64 0, .string ByteArray.empty, .int .i64 0, .int .i64 0] := ⟨by kernel_rfl⟩
instance : TyB Tryz.prog 91 88 := ⟨by kernel_rfl⟩
instance : TyA Tryz.prog 96 false 1 := ⟨by kernel_rfl, by kernel_rfl, by kernel_rfl⟩
instance : TyInt Tryz.prog 96 .u64 := ⟨by kernel_rfl⟩
instance : TyZ Tryz.prog 96 [.int .u64 0] := ⟨by kernel_rfl⟩
instance : TyB Tryz.prog 96 8 := ⟨by kernel_rfl⟩
instance : TyA Tryz.prog 97 true 10 := ⟨by kernel_rfl, by kernel_rfl, by kernel_rfl⟩
instance : TyPl Tryz.prog 97 [(0, 1), (1, 1), (2, 1), (3, 1), (4, 1), (5, 1), (6, 1), (7, 1), (8, 1), (9, 1)] := ⟨by kernel_rfl⟩
instance : TyStruct Tryz.prog 97 [(0, 3), (1, 3), (2, 3), (3, 4), (4, 4), (5, 4), (6, 4), (7, 4), (8, 3), (9, 3)] := ⟨by kernel_rfl⟩
instance : TyZ Tryz.prog 97 [.int .i64 0, .int .i64 0, .int .i64 0, .bool false, .bool false, .bool false, .bool false, .bool false, .int .i64 0, .int .i64 0] := ⟨by kernel_rfl⟩
instance : TyB Tryz.prog 97 48 := ⟨by kernel_rfl⟩
instance : TyA Tryz.prog 98 true 10 := ⟨by kernel_rfl, by kernel_rfl, by kernel_rfl⟩
instance : TyPl Tryz.prog 98 [(0, 1), (1, 1), (2, 1), (3, 1), (4, 1), (5, 1), (6, 1), (7, 1), (8, 1), (9, 1)] := ⟨by kernel_rfl⟩
instance : TyStruct Tryz.prog 98 [(0, 3), (1, 3), (2, 3), (3, 4), (4, 4), (5, 4), (6, 4), (7, 4), (8, 3), (9, 3)] := ⟨by kernel_rfl⟩
instance : TyZ Tryz.prog 98 [.int .i64 0, .int .i64 0, .int .i64 0, .bool false, .bool false, .bool false, .bool false, .bool false, .int .i64 0, .int .i64 0] := ⟨by kernel_rfl⟩
instance : TyB Tryz.prog 98 48 := ⟨by kernel_rfl⟩
instance : TyA Tryz.prog 99 true 400 := ⟨by kernel_rfl, by kernel_rfl, by kernel_rfl⟩
instance : TyArr Tryz.prog 99 40 98 := ⟨by kernel_rfl⟩
instance : TyB Tryz.prog 99 1920 := ⟨by kernel_rfl⟩
instance : TyA Tryz.prog 100 true 10000 := ⟨by kernel_rfl, by kernel_rfl, by kernel_rfl⟩
instance : TyArr Tryz.prog 100 25 99 := ⟨by kernel_rfl⟩
instance : TyB Tryz.prog 100 48000 := ⟨by kernel_rfl⟩
instance : TyA Tryz.prog 101 true 10000 := ⟨by kernel_rfl, by kernel_rfl, by kernel_rfl⟩
instance : TyArr Tryz.prog 101 25 99 := ⟨by kernel_rfl⟩
instance : TyB Tryz.prog 101 48000 := ⟨by kernel_rfl⟩
instance : TyA Tryz.prog 103 false 1 := ⟨by kernel_rfl, by kernel_rfl, by kernel_rfl⟩
instance : TySlice Tryz.prog 103 32 := ⟨by kernel_rfl⟩
instance : TyK Tryz.prog 103 2 := ⟨by kernel_rfl⟩
instance : TyZ Tryz.prog 103 [.slice none 0 0] := ⟨by kernel_rfl⟩
instance : TyB Tryz.prog 103 24 := ⟨by kernel_rfl⟩
instance : TyA Tryz.prog 107 false 1 := ⟨by kernel_rfl, by kernel_rfl, by kernel_rfl⟩
instance : TySlice Tryz.prog 107 112 := ⟨by kernel_rfl⟩
instance : TyK Tryz.prog 107 2 := ⟨by kernel_rfl⟩
instance : TyZ Tryz.prog 107 [.slice none 0 0] := ⟨by kernel_rfl⟩
instance : TyB Tryz.prog 107 24 := ⟨by kernel_rfl⟩
instance : TyA Tryz.prog 109 false 1 := ⟨by kernel_rfl, by kernel_rfl, by kernel_rfl⟩
instance : TyK Tryz.prog 109 1 := ⟨by kernel_rfl⟩
instance : TyZ Tryz.prog 109 [.pointer none] := ⟨by kernel_rfl⟩
instance : TyB Tryz.prog 109 8 := ⟨by kernel_rfl⟩
instance : TyA Tryz.prog 111 true 11 := ⟨by kernel_rfl, by kernel_rfl, by kernel_rfl⟩
instance : TyPl Tryz.prog 111 [(0, 1), (1, 1), (2, 9)] := ⟨by kernel_rfl⟩
instance : TyStruct Tryz.prog 111 [(0, 3), (1, 3), (2, 36)] := ⟨by kernel_rfl⟩
instance : TyZ Tryz.prog 111 [.int .i64 0, .int .i64 0, .int .i64 0, .int .i64 0, .int .i64 0, .int .i64 0, .int .i64 0, .slice none 0 0, .slice none 0 0, .slice none 0 0, .slice none 0 0] := ⟨by kernel_rfl⟩
instance : TyB Tryz.prog 111 152 := ⟨by kernel_rfl⟩
instance : TyA Tryz.prog 112 true 11 := ⟨by kernel_rfl, by kernel_rfl, by kernel_rfl⟩
instance : TyPl Tryz.prog 112 [(0, 1), (1, 1), (2, 9)] := ⟨by kernel_rfl⟩
instance : TyStruct Tryz.prog 112 [(0, 3), (1, 3), (2, 36)] := ⟨by kernel_rfl⟩
instance : TyZ Tryz.prog 112 [.int .i64 0, .int .i64 0, .int .i64 0, .int .i64 0, .int .i64 0, .int .i64 0, .int .i64 0, .slice none 0 0, .slice none 0 0, .slice none 0 0, .slice none 0 0] := ⟨by kernel_rfl⟩
instance : TyB Tryz.prog 112 152 := ⟨by kernel_rfl⟩
instance : TyA Tryz.prog 116 true 9 := ⟨by kernel_rfl, by kernel_rfl, by kernel_rfl⟩
instance : TyPl Tryz.prog 116 [(0, 3), (3, 1), (4, 1), (5, 1), (6, 1), (7, 1), (8, 1)] := ⟨by kernel_rfl⟩
instance : TyStruct Tryz.prog 116 [(0, 45), (3, 34), (4, 34), (5, 4), (6, 4), (7, 4), (8, 4)] := ⟨by kernel_rfl⟩
instance : TyZ Tryz.prog 116 [.int .i64 0, .int .i64 0, .int .i64 0, .slice none 0 0, .slice none 0 0, .bool false, .bool false, .bool false, .bool false] := ⟨by kernel_rfl⟩
instance : TyB Tryz.prog 116 80 := ⟨by kernel_rfl⟩
instance : TyA Tryz.prog 117 true 9 := ⟨by kernel_rfl, by kernel_rfl, by kernel_rfl⟩
instance : TyPl Tryz.prog 117 [(0, 3), (3, 1), (4, 1), (5, 1), (6, 1), (7, 1), (8, 1)] := ⟨by kernel_rfl⟩
instance : TyStruct Tryz.prog 117 [(0, 45), (3, 34), (4, 34), (5, 4), (6, 4), (7, 4), (8, 4)] := ⟨by kernel_rfl⟩
instance : TyZ Tryz.prog 117 [.int .i64 0, .int .i64 0, .int .i64 0, .slice none 0 0, .slice none 0 0, .bool false, .bool false, .bool false, .bool false] := ⟨by kernel_rfl⟩
instance : TyB Tryz.prog 117 80 := ⟨by kernel_rfl⟩
instance : TyA Tryz.prog 118 true 10809 := ⟨by kernel_rfl, by kernel_rfl, by kernel_rfl⟩
instance : TyPl Tryz.prog 118 [(0, 9737), (9737, 9), (9746, 1), (9747, 1061), (10808, 1)] := ⟨by kernel_rfl⟩
instance : TyStruct Tryz.prog 118 [(0, 78), (9737, 117), (9746, 4), (9747, 55), (10808, 3)] := ⟨by kernel_rfl⟩
instance : TyB Tryz.prog 118 13648 := ⟨by kernel_rfl⟩
instance : TyA Tryz.prog 119 true 10809 := ⟨by kernel_rfl, by kernel_rfl, by kernel_rfl⟩
instance : TyPl Tryz.prog 119 [(0, 9737), (9737, 9), (9746, 1), (9747, 1061), (10808, 1)] := ⟨by kernel_rfl⟩
instance : TyStruct Tryz.prog 119 [(0, 78), (9737, 117), (9746, 4), (9747, 55), (10808, 3)] := ⟨by kernel_rfl⟩
instance : TyB Tryz.prog 119 13648 := ⟨by kernel_rfl⟩
instance : TyA Tryz.prog 121 false 1 := ⟨by kernel_rfl, by kernel_rfl, by kernel_rfl⟩
instance : TyK Tryz.prog 121 1 := ⟨by kernel_rfl⟩
instance : TyZ Tryz.prog 121 [.pointer none] := ⟨by kernel_rfl⟩
instance : TyB Tryz.prog 121 8 := ⟨by kernel_rfl⟩
instance : TyA Tryz.prog 124 true 1081 := ⟨by kernel_rfl, by kernel_rfl, by kernel_rfl⟩
instance : TyPl Tryz.prog 124 [(0, 1), (1, 1061), (1062, 15), (1077, 1), (1078, 1), (1079, 1), (1080, 1)] := ⟨by kernel_rfl⟩
instance : TyStruct Tryz.prog 124 [(0, 4), (1, 55), (1062, 48), (1077, 32), (1078, 4), (1079, 3), (1080, 4)] := ⟨by kernel_rfl⟩
instance : TyB Tryz.prog 124 1368 := ⟨by kernel_rfl⟩
instance : TyA Tryz.prog 125 true 1081 := ⟨by kernel_rfl, by kernel_rfl, by kernel_rfl⟩
instance : TyPl Tryz.prog 125 [(0, 1), (1, 1061), (1062, 15), (1077, 1), (1078, 1), (1079, 1), (1080, 1)] := ⟨by kernel_rfl⟩
instance : TyStruct Tryz.prog 125 [(0, 4), (1, 55), (1062, 48), (1077, 32), (1078, 4), (1079, 3), (1080, 4)] := ⟨by kernel_rfl⟩
instance : TyB Tryz.prog 125 1368 := ⟨by kernel_rfl⟩
instance : TyA Tryz.prog 126 true 9729 := ⟨by kernel_rfl, by kernel_rfl, by kernel_rfl⟩
instance : TyArr Tryz.prog 126 9 125 := ⟨by kernel_rfl⟩
instance : TyB Tryz.prog 126 12312 := ⟨by kernel_rfl⟩
instance : TyA Tryz.prog 127 true 9741 := ⟨by kernel_rfl, by kernel_rfl, by kernel_rfl⟩
instance : TyPl Tryz.prog 127 [(0, 1), (1, 9729), (9730, 10), (9740, 1)] := ⟨by kernel_rfl⟩
instance : TyStruct Tryz.prog 127 [(0, 121), (1, 126), (9730, 82), (9740, 4)] := ⟨by kernel_rfl⟩
instance : TyB Tryz.prog 127 12416 := ⟨by kernel_rfl⟩
instance : TyA Tryz.prog 128 true 9741 := ⟨by kernel_rfl, by kernel_rfl, by kernel_rfl⟩
instance : TyPl Tryz.prog 128 [(0, 1), (1, 9729), (9730, 10), (9740, 1)] := ⟨by kernel_rfl⟩
instance : TyStruct Tryz.prog 128 [(0, 121), (1, 126), (9730, 82), (9740, 4)] := ⟨by kernel_rfl⟩
instance : TyB Tryz.prog 128 12416 := ⟨by kernel_rfl⟩
instance : TyA Tryz.prog 129 true 5 := ⟨by kernel_rfl, by kernel_rfl, by kernel_rfl⟩
instance : TyPl Tryz.prog 129 [(0, 1), (1, 1), (2, 1), (3, 1), (4, 1)] := ⟨by kernel_rfl⟩
instance : TyStruct Tryz.prog 129 [(0, 3), (1, 3), (2, 3), (3, 3), (4, 32)] := ⟨by kernel_rfl⟩
instance : TyZ Tryz.prog 129 [.int .i64 0, .int .i64 0, .int .i64 0, .int .i64 0, .slice none 0 0] := ⟨by kernel_rfl⟩
instance : TyB Tryz.prog 129 56 := ⟨by kernel_rfl⟩
instance : TyA Tryz.prog 130 true 5 := ⟨by kernel_rfl, by kernel_rfl, by kernel_rfl⟩
instance : TyPl Tryz.prog 130 [(0, 1), (1, 1), (2, 1), (3, 1), (4, 1)] := ⟨by kernel_rfl⟩
instance : TyStruct Tryz.prog 130 [(0, 3), (1, 3), (2, 3), (3, 3), (4, 32)] := ⟨by kernel_rfl⟩
instance : TyZ Tryz.prog 130 [.int .i64 0, .int .i64 0, .int .i64 0, .int .i64 0, .slice none 0 0] := ⟨by kernel_rfl⟩
instance : TyB Tryz.prog 130 56 := ⟨by kernel_rfl⟩
instance : TyA Tryz.prog 142 true 3 := ⟨by kernel_rfl, by kernel_rfl, by kernel_rfl⟩
instance : TyPl Tryz.prog 142 [(0, 1), (1, 1), (2, 1)] := ⟨by kernel_rfl⟩
instance : TyStruct Tryz.prog 142 [(0, 3), (1, 3), (2, 3)] := ⟨by kernel_rfl⟩
instance : TyZ Tryz.prog 142 [.int .i64 0, .int .i64 0, .int .i64 0] := ⟨by kernel_rfl⟩
instance : TyB Tryz.prog 142 24 := ⟨by kernel_rfl⟩
instance : TyA Tryz.prog 143 true 3 := ⟨by kernel_rfl, by kernel_rfl, by kernel_rfl⟩
instance : TyPl Tryz.prog 143 [(0, 1), (1, 1), (2, 1)] := ⟨by kernel_rfl⟩
instance : TyStruct Tryz.prog 143 [(0, 3), (1, 3), (2, 3)] := ⟨by kernel_rfl⟩
instance : TyZ Tryz.prog 143 [.int .i64 0, .int .i64 0, .int .i64 0] := ⟨by kernel_rfl⟩
instance : TyB Tryz.prog 143 24 := ⟨by kernel_rfl⟩
instance : TyA Tryz.prog 151 false 1 := ⟨by kernel_rfl, by kernel_rfl, by kernel_rfl⟩
instance : TyK Tryz.prog 151 1 := ⟨by kernel_rfl⟩
instance : TyZ Tryz.prog 151 [.pointer none] := ⟨by kernel_rfl⟩
instance : TyB Tryz.prog 151 8 := ⟨by kernel_rfl⟩
instance : TyA Tryz.prog 155 true 2 := ⟨by kernel_rfl, by kernel_rfl, by kernel_rfl⟩
instance : TyPl Tryz.prog 155 [(0, 1), (1, 1)] := ⟨by kernel_rfl⟩
instance : TyStruct Tryz.prog 155 [(0, 3), (1, 28)] := ⟨by kernel_rfl⟩
instance : TyZ Tryz.prog 155 [.int .i64 0, .nilIface] := ⟨by kernel_rfl⟩
instance : TyB Tryz.prog 155 24 := ⟨by kernel_rfl⟩
instance : TyA Tryz.prog 156 true 2 := ⟨by kernel_rfl, by kernel_rfl, by kernel_rfl⟩
instance : TyPl Tryz.prog 156 [(0, 1), (1, 1)] := ⟨by kernel_rfl⟩
instance : TyStruct Tryz.prog 156 [(0, 3), (1, 28)] := ⟨by kernel_rfl⟩
instance : TyZ Tryz.prog 156 [.int .i64 0, .nilIface] := ⟨by kernel_rfl⟩
instance : TyB Tryz.prog 156 24 := ⟨by kernel_rfl⟩
instance : TyA Tryz.prog 165 true 5 := ⟨by kernel_rfl, by kernel_rfl, by kernel_rfl⟩
instance : TyPl Tryz.prog 165 [(0, 1), (1, 1), (2, 1), (3, 1), (4, 1)] := ⟨by kernel_rfl⟩
instance : TyStruct Tryz.prog 165 [(0, 3), (1, 3), (2, 3), (3, 3), (4, 32)] := ⟨by kernel_rfl⟩
instance : TyZ Tryz.prog 165 [.int .i64 0, .int .i64 0, .int .i64 0, .int .i64 0, .slice none 0 0] := ⟨by kernel_rfl⟩
instance : TyB Tryz.prog 165 56 := ⟨by kernel_rfl⟩
instance : TyA Tryz.prog 179 true 9 := ⟨by kernel_rfl, by kernel_rfl, by kernel_rfl⟩
instance : TyPl Tryz.prog 179 [(0, 3), (3, 1), (4, 1), (5, 1), (6, 1), (7, 1), (8, 1)] := ⟨by kernel_rfl⟩
instance : TyStruct Tryz.prog 179 [(0, 45), (3, 34), (4, 34), (5, 4), (6, 4), (7, 4), (8, 4)] := ⟨by kernel_rfl⟩
instance : TyZ Tryz.prog 179 [.int .i64 0, .int .i64 0, .int .i64 0, .slice none 0 0, .slice none 0 0, .bool false, .bool false, .bool false, .bool false] := ⟨by kernel_rfl⟩
instance : TyB Tryz.prog 179 80 := ⟨by kernel_rfl⟩
instance : TyA Tryz.prog 181 true 1073 := ⟨by kernel_rfl, by kernel_rfl, by kernel_rfl⟩
instance : TyPl Tryz.prog 181 [(0, 1), (1, 9), (10, 1061), (1071, 1), (1072, 1)] := ⟨by kernel_rfl⟩
instance : TyStruct Tryz.prog 181 [(0, 26), (1, 179), (10, 55), (1071, 4), (1072, 3)] := ⟨by kernel_rfl⟩
instance : TyB Tryz.prog 181 1368 := ⟨by kernel_rfl⟩
instance : TyA Tryz.prog 182 true 1073 := ⟨by kernel_rfl, by kernel_rfl, by kernel_rfl⟩
instance : TyPl Tryz.prog 182 [(0, 1), (1, 9), (10, 1061), (1071, 1), (1072, 1)] := ⟨by kernel_rfl⟩
instance : TyStruct Tryz.prog 182 [(0, 26), (1, 179), (10, 55), (1071, 4), (1072, 3)] := ⟨by kernel_rfl⟩
instance : TyB Tryz.prog 182 1368 := ⟨by kernel_rfl⟩
instance : TyA Tryz.prog 190 true 2 := ⟨by kernel_rfl, by kernel_rfl, by kernel_rfl⟩
instance : TyPl Tryz.prog 190 [(0, 1), (1, 1)] := ⟨by kernel_rfl⟩
instance : TyStruct Tryz.prog 190 [(0, 4), (1, 4)] := ⟨by kernel_rfl⟩
instance : TyZ Tryz.prog 190 [.bool false, .bool false] := ⟨by kernel_rfl⟩
instance : TyB Tryz.prog 190 2 := ⟨by kernel_rfl⟩
instance : TyA Tryz.prog 191 true 2 := ⟨by kernel_rfl, by kernel_rfl, by kernel_rfl⟩
instance : TyPl Tryz.prog 191 [(0, 1), (1, 1)] := ⟨by kernel_rfl⟩
instance : TyStruct Tryz.prog 191 [(0, 4), (1, 4)] := ⟨by kernel_rfl⟩
instance : TyZ Tryz.prog 191 [.bool false, .bool false] := ⟨by kernel_rfl⟩
instance : TyB Tryz.prog 191 2 := ⟨by kernel_rfl⟩
instance : TyA Tryz.prog 199 false 1 := ⟨by kernel_rfl, by kernel_rfl, by kernel_rfl⟩
instance : TyZ Tryz.prog 199 [.map none] := ⟨by kernel_rfl⟩
instance : TyB Tryz.prog 199 8 := ⟨by kernel_rfl⟩
instance : TyA Tryz.prog 200 true 7 := ⟨by kernel_rfl, by kernel_rfl, by kernel_rfl⟩
instance : TyPl Tryz.prog 200 [(0, 1), (1, 1), (2, 1), (3, 3), (6, 1)] := ⟨by kernel_rfl⟩
instance : TyStruct Tryz.prog 200 [(0, 3), (1, 199), (2, 41), (3, 45), (6, 4)] := ⟨by kernel_rfl⟩
instance : TyZ Tryz.prog 200 [.int .i64 0, .map none, .slice none 0 0, .int .i64 0, .int .i64 0, .int .i64 0, .bool false] := ⟨by kernel_rfl⟩
instance : TyB Tryz.prog 200 72 := ⟨by kernel_rfl⟩
instance : TyA Tryz.prog 201 true 7 := ⟨by kernel_rfl, by kernel_rfl, by kernel_rfl⟩
instance : TyPl Tryz.prog 201 [(0, 1), (1, 1), (2, 1), (3, 3), (6, 1)] := ⟨by kernel_rfl⟩
instance : TyStruct Tryz.prog 201 [(0, 3), (1, 199), (2, 41), (3, 45), (6, 4)] := ⟨by kernel_rfl⟩
instance : TyZ Tryz.prog 201 [.int .i64 0, .map none, .slice none 0 0, .int .i64 0, .int .i64 0, .int .i64 0, .bool false] := ⟨by kernel_rfl⟩
instance : TyB Tryz.prog 201 72 := ⟨by kernel_rfl⟩
instance : TyA Tryz.prog 208 false 1 := ⟨by kernel_rfl, by kernel_rfl, by kernel_rfl⟩
instance : TyK Tryz.prog 208 1 := ⟨by kernel_rfl⟩
instance : TyZ Tryz.prog 208 [.pointer none] := ⟨by kernel_rfl⟩
instance : TyB Tryz.prog 208 8 := ⟨by kernel_rfl⟩
instance : TyA Tryz.prog 210 false 1 := ⟨by kernel_rfl, by kernel_rfl, by kernel_rfl⟩
instance : TySlice Tryz.prog 210 4 := ⟨by kernel_rfl⟩
instance : TyK Tryz.prog 210 2 := ⟨by kernel_rfl⟩
instance : TyZ Tryz.prog 210 [.slice none 0 0] := ⟨by kernel_rfl⟩
instance : TyB Tryz.prog 210 24 := ⟨by kernel_rfl⟩
instance : TyA Tryz.prog 219 false 1 := ⟨by kernel_rfl, by kernel_rfl, by kernel_rfl⟩
instance : TyK Tryz.prog 219 1 := ⟨by kernel_rfl⟩
instance : TyZ Tryz.prog 219 [.pointer none] := ⟨by kernel_rfl⟩
instance : TyB Tryz.prog 219 8 := ⟨by kernel_rfl⟩
instance : TyA Tryz.prog 224 true 3 := ⟨by kernel_rfl, by kernel_rfl, by kernel_rfl⟩
instance : TyArr Tryz.prog 224 3 5 := ⟨by kernel_rfl⟩
instance : TyZ Tryz.prog 224 [.int .u8 0, .int .u8 0, .int .u8 0] := ⟨by kernel_rfl⟩
instance : TyB Tryz.prog 224 3 := ⟨by kernel_rfl⟩
instance : TyA Tryz.prog 227 false 1 := ⟨by kernel_rfl, by kernel_rfl, by kernel_rfl⟩
instance : TySlice Tryz.prog 227 28 := ⟨by kernel_rfl⟩
instance : TyK Tryz.prog 227 2 := ⟨by kernel_rfl⟩
instance : TyZ Tryz.prog 227 [.slice none 0 0] := ⟨by kernel_rfl⟩
instance : TyB Tryz.prog 227 24 := ⟨by kernel_rfl⟩
instance : TyA Tryz.prog 245 false 1 := ⟨by kernel_rfl, by kernel_rfl, by kernel_rfl⟩
instance : TyK Tryz.prog 245 1 := ⟨by kernel_rfl⟩
instance : TyZ Tryz.prog 245 [.pointer none] := ⟨by kernel_rfl⟩
instance : TyB Tryz.prog 245 8 := ⟨by kernel_rfl⟩
instance : TyA Tryz.prog 272 false 1 := ⟨by kernel_rfl, by kernel_rfl, by kernel_rfl⟩
instance : TyK Tryz.prog 272 1 := ⟨by kernel_rfl⟩
instance : TyZ Tryz.prog 272 [.pointer none] := ⟨by kernel_rfl⟩
instance : TyB Tryz.prog 272 8 := ⟨by kernel_rfl⟩
instance : TyA Tryz.prog 273 true 2 := ⟨by kernel_rfl, by kernel_rfl, by kernel_rfl⟩
instance : TyPl Tryz.prog 273 [(0, 1), (1, 1)] := ⟨by kernel_rfl⟩
instance : TyStruct Tryz.prog 273 [(0, 272), (1, 32)] := ⟨by kernel_rfl⟩
instance : TyZ Tryz.prog 273 [.pointer none, .slice none 0 0] := ⟨by kernel_rfl⟩
instance : TyB Tryz.prog 273 32 := ⟨by kernel_rfl⟩
instance : TyA Tryz.prog 274 true 2 := ⟨by kernel_rfl, by kernel_rfl, by kernel_rfl⟩
instance : TyPl Tryz.prog 274 [(0, 1), (1, 1)] := ⟨by kernel_rfl⟩
instance : TyStruct Tryz.prog 274 [(0, 272), (1, 32)] := ⟨by kernel_rfl⟩
instance : TyZ Tryz.prog 274 [.pointer none, .slice none 0 0] := ⟨by kernel_rfl⟩
instance : TyB Tryz.prog 274 32 := ⟨by kernel_rfl⟩
instance : TyA Tryz.prog 279 false 1 := ⟨by kernel_rfl, by kernel_rfl, by kernel_rfl⟩
instance : TySlice Tryz.prog 279 301 := ⟨by kernel_rfl⟩
instance : TyK Tryz.prog 279 2 := ⟨by kernel_rfl⟩
instance : TyZ Tryz.prog 279 [.slice none 0 0] := ⟨by kernel_rfl⟩
instance : TyB Tryz.prog 279 24 := ⟨by kernel_rfl⟩
instance : TyA Tryz.prog 286 false 1 := ⟨by kernel_rfl, by kernel_rfl, by kernel_rfl⟩
instance : TySlice Tryz.prog 286 307 := ⟨by kernel_rfl⟩
instance : TyK Tryz.prog 286 2 := ⟨by kernel_rfl⟩
instance : TyZ Tryz.prog 286 [.slice none 0 0] := ⟨by kernel_rfl⟩
instance : TyB Tryz.prog 286 24 := ⟨by kernel_rfl⟩
instance : TyA Tryz.prog 293 false 1 := ⟨by kernel_rfl, by kernel_rfl, by kernel_rfl⟩
instance : TyInt Tryz.prog 293 .u32 := ⟨by kernel_rfl⟩
instance : TyZ Tryz.prog 293 [.int .u32 0] := ⟨by kernel_rfl⟩
instance : TyB Tryz.prog 293 4 := ⟨by kernel_rfl⟩
instance : TyA Tryz.prog 297 false 1 := ⟨by kernel_rfl, by kernel_rfl, by kernel_rfl⟩
instance : TyK Tryz.prog 297 1 := ⟨by kernel_rfl⟩
instance : TyZ Tryz.prog 297 [.pointer none] := ⟨by kernel_rfl⟩
instance : TyB Tryz.prog 297 8 := ⟨by kernel_rfl⟩
instance : TyA Tryz.prog 300 true 3 := ⟨by kernel_rfl, by kernel_rfl, by kernel_rfl⟩
instance : TyPl Tryz.prog 300 [(0, 1), (1, 1), (2, 1)] := ⟨by kernel_rfl⟩
instance : TyStruct Tryz.prog 300 [(0, 3), (1, 3), (2, 3)] := ⟨by kernel_rfl⟩
instance : TyZ Tryz.prog 300 [.int .i64 0, .int .i64 0, .int .i64 0] := ⟨by kernel_rfl⟩
instance : TyB Tryz.prog 300 24 := ⟨by kernel_rfl⟩
instance : TyA Tryz.prog 301 true 3 := ⟨by kernel_rfl, by kernel_rfl, by kernel_rfl⟩
instance : TyPl Tryz.prog 301 [(0, 1), (1, 1), (2, 1)] := ⟨by kernel_rfl⟩
instance : TyStruct Tryz.prog 301 [(0, 3), (1, 3), (2, 3)] := ⟨by kernel_rfl⟩
instance : TyZ Tryz.prog 301 [.int .i64 0, .int .i64 0, .int .i64 0] := ⟨by kernel_rfl⟩
instance : TyB Tryz.prog 301 24 := ⟨by kernel_rfl⟩
instance : TyA Tryz.prog 302 true 11 := ⟨by kernel_rfl, by kernel_rfl, by kernel_rfl⟩
instance : TyPl Tryz.prog 302 [(0, 1), (1, 1), (2, 1), (3, 1), (4, 1), (5, 1), (6, 1), (7, 1), (8, 1), (9, 1), (10, 1)] := ⟨by kernel_rfl⟩
instance : TyStruct Tryz.prog 302 [(0, 3), (1, 3), (2, 4), (3, 4), (4, 4), (5, 4), (6, 4), (7, 4), (8, 4), (9, 3), (10, 5)] := ⟨by kernel_rfl⟩
instance : TyZ Tryz.prog 302 [.int .i64 0, .int .i64 0, .bool false, .bool false, .bool false, .bool false, .bool false, .bool false, .bool false, .int .i64 0, .int .u8 0] := ⟨by kernel_rfl⟩
instance : TyB Tryz.prog 302 40 := ⟨by kernel_rfl⟩
instance : TyA Tryz.prog 303 true 11 := ⟨by kernel_rfl, by kernel_rfl, by kernel_rfl⟩
instance : TyPl Tryz.prog 303 [(0, 1), (1, 1), (2, 1), (3, 1), (4, 1), (5, 1), (6, 1), (7, 1), (8, 1), (9, 1), (10, 1)] := ⟨by kernel_rfl⟩
instance : TyStruct Tryz.prog 303 [(0, 3), (1, 3), (2, 4), (3, 4), (4, 4), (5, 4), (6, 4), (7, 4), (8, 4), (9, 3), (10, 5)] := ⟨by kernel_rfl⟩
instance : TyZ Tryz.prog 303 [.int .i64 0, .int .i64 0, .bool false, .bool false, .bool false, .bool false, .bool false, .bool false, .bool false, .int .i64 0, .int .u8 0] := ⟨by kernel_rfl⟩
instance : TyB Tryz.prog 303 40 := ⟨by kernel_rfl⟩
instance : TyA Tryz.prog 307 true 3 := ⟨by kernel_rfl, by kernel_rfl, by kernel_rfl⟩
instance : TyPl Tryz.prog 307 [(0, 1), (1, 1), (2, 1)] := ⟨by kernel_rfl⟩
instance : TyStruct Tryz.prog 307 [(0, 3), (1, 3), (2, 3)] := ⟨by kernel_rfl⟩
instance : TyZ Tryz.prog 307 [.int .i64 0, .int .i64 0, .int .i64 0] := ⟨by kernel_rfl⟩
instance : TyB Tryz.prog 307 24 := ⟨by kernel_rfl⟩
instance : TyA Tryz.prog 309 true 11 := ⟨by kernel_rfl, by kernel_rfl, by kernel_rfl⟩
instance : TyPl Tryz.prog 309 [(0, 1), (1, 1), (2, 1), (3, 1), (4, 1), (5, 1), (6, 1), (7, 1), (8, 1), (9, 1), (10, 1)] := ⟨by kernel_rfl⟩
instance : TyStruct Tryz.prog 309 [(0, 3), (1, 3), (2, 4), (3, 4), (4, 4), (5, 4), (6, 4), (7, 4), (8, 4), (9, 3), (10, 5)] := ⟨by kernel_rfl⟩
instance : TyZ Tryz.prog 309 [.int .i64 0, .int .i64 0, .bool false, .bool false, .bool false, .bool false, .bool false, .bool false, .bool false, .int .i64 0, .int .u8 0] := ⟨by kernel_rfl⟩
instance : TyB Tryz.prog 309 40 := ⟨by kernel_rfl⟩
instance : TyA Tryz.prog 316 false 1 := ⟨by kernel_rfl, by kernel_rfl, by kernel_rfl⟩
instance : TyInt Tryz.prog 316 .u64 := ⟨by kernel_rfl⟩
instance : TyZ Tryz.prog 316 [.int .u64 0] := ⟨by kernel_rfl⟩
instance : TyB Tryz.prog 316 8 := ⟨by kernel_rfl⟩
instance : TyA Tryz.prog 319 false 1 := ⟨by kernel_rfl, by kernel_rfl, by kernel_rfl⟩
instance : TyZ Tryz.prog 319 [.pointer none] := ⟨by kernel_rfl⟩
instance : TyB Tryz.prog 319 8 := ⟨by kernel_rfl⟩
instance : TyA Tryz.prog 321 true 8 := ⟨by kernel_rfl, by kernel_rfl, by kernel_rfl⟩
instance : TyArr Tryz.prog 321 8 3 := ⟨by kernel_rfl⟩
instance : TyZ Tryz.prog 321 [.int .i64 0, .int .i64 0, .int .i64 0, .int .i64 0, .int .i64 0, .int .i64 0, .int .i64 0, .int .i64 0] := ⟨by kernel_rfl⟩
instance : TyB Tryz.prog 321 64 := ⟨by kernel_rfl⟩
instance : TyA Tryz.prog 322 true 56 := ⟨by kernel_rfl, by kernel_rfl, by kernel_rfl⟩
instance : TyArr Tryz.prog 322 7 321 := ⟨by kernel_rfl⟩
instance : TyZ Tryz.prog 322 [.int .i64 0, .int .i64 0, .int .i64 0, .int .i64 0, .int .i64 0, .int .i64 0, .int .i64 0, .int .i64 0, .int .i64 0, .int .i64 0, .int .i64 0, .int .i64 0, .int .i64 0, .int .i64 0, .int .i64 0, .int .i64 0, .int .i64 0, .int .i64 0, .int .i64 0, .int .i64 0, .int .i64 0, .int .i64 0, .int .i64 0, .int .i64 0, .int .i64 0, .int .i64 0, .int .i64 0, .int .i64 0, .int .i64 0, .int .i64 0, .int .i64 0, .int .i64 0, .int .i64 0, .int .i64 0, .int .i64 0, .int .i64 0, .int .i64 0, .int .i64 0, .int .i64 0, .int .i64 0, .int .i64 0, .int .i64 0, .int .i64 0, .int .i64 0, .int .i64 0, .int .i64 0, .int .i64 0, .int .i64 0, .int .i64 0, .int .i64 0, .int .i64 0, .int .i64 0, .int .i64 0, .int .i64 0, .int .i64 0, .int .i64 0] := ⟨by kernel_rfl⟩
instance : TyB Tryz.prog 322 448 := ⟨by kernel_rfl⟩
instance : TyA Tryz.prog 331 true 96 := ⟨by kernel_rfl, by kernel_rfl, by kernel_rfl⟩
instance : TyArr Tryz.prog 331 96 3 := ⟨by kernel_rfl⟩
instance : TyB Tryz.prog 331 768 := ⟨by kernel_rfl⟩
instance : TyA Tryz.prog 333 false 1 := ⟨by kernel_rfl, by kernel_rfl, by kernel_rfl⟩
instance : TySlice Tryz.prog 333 336 := ⟨by kernel_rfl⟩
instance : TyK Tryz.prog 333 2 := ⟨by kernel_rfl⟩
instance : TyZ Tryz.prog 333 [.slice none 0 0] := ⟨by kernel_rfl⟩
instance : TyB Tryz.prog 333 24 := ⟨by kernel_rfl⟩
instance : TyA Tryz.prog 335 true 2 := ⟨by kernel_rfl, by kernel_rfl, by kernel_rfl⟩
instance : TyPl Tryz.prog 335 [(0, 1), (1, 1)] := ⟨by kernel_rfl⟩
instance : TyStruct Tryz.prog 335 [(0, 5), (1, 3)] := ⟨by kernel_rfl⟩
instance : TyZ Tryz.prog 335 [.int .u8 0, .int .i64 0] := ⟨by kernel_rfl⟩
instance : TyB Tryz.prog 335 16 := ⟨by kernel_rfl⟩
instance : TyA Tryz.prog 336 true 2 := ⟨by kernel_rfl, by kernel_rfl, by kernel_rfl⟩
instance : TyPl Tryz.prog 336 [(0, 1), (1, 1)] := ⟨by kernel_rfl⟩
instance : TyStruct Tryz.prog 336 [(0, 5), (1, 3)] := ⟨by kernel_rfl⟩
instance : TyZ Tryz.prog 336 [.int .u8 0, .int .i64 0] := ⟨by kernel_rfl⟩
instance : TyB Tryz.prog 336 16 := ⟨by kernel_rfl⟩
instance : TyA Tryz.prog 342 true 13 := ⟨by kernel_rfl, by kernel_rfl, by kernel_rfl⟩
instance : TyArr Tryz.prog 342 13 3 := ⟨by kernel_rfl⟩
instance : TyZ Tryz.prog 342 [.int .i64 0, .int .i64 0, .int .i64 0, .int .i64 0, .int .i64 0, .int .i64 0, .int .i64 0, .int .i64 0, .int .i64 0, .int .i64 0, .int .i64 0, .int .i64 0, .int .i64 0] := ⟨by kernel_rfl⟩
instance : TyB Tryz.prog 342 104 := ⟨by kernel_rfl⟩
instance : TyA Tryz.prog 343 true 14 := ⟨by kernel_rfl, by kernel_rfl, by kernel_rfl⟩
instance : TyPl Tryz.prog 343 [(0, 1), (1, 13)] := ⟨by kernel_rfl⟩
instance : TyStruct Tryz.prog 343 [(0, 9), (1, 342)] := ⟨by kernel_rfl⟩
instance : TyZ Tryz.prog 343 [.string ByteArray.empty, .int .i64 0, .int .i64 0, .int .i64 0, .int .i64 0, .int .i64 0, .int .i64 0, .int .i64 0, .int .i64 0, .int .i64 0, .int .i64 0, .int .i64 0, .int .i64 0, .int .i64 0] := ⟨by kernel_rfl⟩
instance : TyB Tryz.prog 343 120 := ⟨by kernel_rfl⟩
instance : TyA Tryz.prog 344 true 14 := ⟨by kernel_rfl, by kernel_rfl, by kernel_rfl⟩
instance : TyPl Tryz.prog 344 [(0, 1), (1, 13)] := ⟨by kernel_rfl⟩
instance : TyStruct Tryz.prog 344 [(0, 9), (1, 342)] := ⟨by kernel_rfl⟩
instance : TyZ Tryz.prog 344 [.string ByteArray.empty, .int .i64 0, .int .i64 0, .int .i64 0, .int .i64 0, .int .i64 0, .int .i64 0, .int .i64 0, .int .i64 0, .int .i64 0, .int .i64 0, .int .i64 0, .int .i64 0, .int .i64 0] := ⟨by kernel_rfl⟩
instance : TyB Tryz.prog 344 120 := ⟨by kernel_rfl⟩
instance : TyA Tryz.prog 345 false 1 := ⟨by kernel_rfl, by kernel_rfl, by kernel_rfl⟩
instance : TySlice Tryz.prog 345 344 := ⟨by kernel_rfl⟩
instance : TyK Tryz.prog 345 2 := ⟨by kernel_rfl⟩
instance : TyZ Tryz.prog 345 [.slice none 0 0] := ⟨by kernel_rfl⟩
instance : TyB Tryz.prog 345 24 := ⟨by kernel_rfl⟩
instance : TyA Tryz.prog 347 false 1 := ⟨by kernel_rfl, by kernel_rfl, by kernel_rfl⟩
instance : TyK Tryz.prog 347 1 := ⟨by kernel_rfl⟩
instance : TyZ Tryz.prog 347 [.pointer none] := ⟨by kernel_rfl⟩
instance : TyB Tryz.prog 347 8 := ⟨by kernel_rfl⟩
instance : TyA Tryz.prog 348 true 4 := ⟨by kernel_rfl, by kernel_rfl, by kernel_rfl⟩
instance : TyPl Tryz.prog 348 [(0, 1), (1, 1), (2, 1), (3, 1)] := ⟨by kernel_rfl⟩
instance : TyStruct Tryz.prog 348 [(0, 17), (1, 17), (2, 17), (3, 9)] := ⟨by kernel_rfl⟩
instance : TyZ Tryz.prog 348 [.pointer none, .pointer none, .pointer none, .string ByteArray.empty] := ⟨by kernel_rfl⟩
instance : TyB Tryz.prog 348 40 := ⟨by kernel_rfl⟩
instance : TyA Tryz.prog 349 true 4 := ⟨by kernel_rfl, by kernel_rfl, by kernel_rfl⟩
instance : TyPl Tryz.prog 349 [(0, 1), (1, 1), (2, 1), (3, 1)] := ⟨by kernel_rfl⟩
instance : TyStruct Tryz.prog 349 [(0, 17), (1, 17), (2, 17), (3, 9)] := ⟨by kernel_rfl⟩
instance : TyZ Tryz.prog 349 [.pointer none, .pointer none, .pointer none, .string ByteArray.empty] := ⟨by kernel_rfl⟩
instance : TyB Tryz.prog 349 40 := ⟨by kernel_rfl⟩
instance : TyA Tryz.prog 350 true 0 := ⟨by kernel_rfl, by kernel_rfl, by kernel_rfl⟩
instance : TyArr Tryz.prog 350 0 16 := ⟨by kernel_rfl⟩
instance : TyZ Tryz.prog 350 [] := ⟨by kernel_rfl⟩
instance : TyB Tryz.prog 350 0 := ⟨by kernel_rfl⟩
instance : TyA Tryz.prog 351 true 0 := ⟨by kernel_rfl, by kernel_rfl, by kernel_rfl⟩
instance : TyPl Tryz.prog 351 [(0, 0)] := ⟨by kernel_rfl⟩
instance : TyStruct Tryz.prog 351 [(0, 350)] := ⟨by kernel_rfl⟩
instance : TyZ Tryz.prog 351 [] := ⟨by kernel_rfl⟩
instance : TyB Tryz.prog 351 0 := ⟨by kernel_rfl⟩
instance : TyA Tryz.prog 352 true 0 := ⟨by kernel_rfl, by kernel_rfl, by kernel_rfl⟩
instance : TyPl Tryz.prog 352 [(0, 0)] := ⟨by kernel_rfl⟩
instance : TyStruct Tryz.prog 352 [(0, 350)] := ⟨by kernel_rfl⟩
instance : TyZ Tryz.prog 352 [] := ⟨by kernel_rfl⟩
instance : TyB Tryz.prog 352 0 := ⟨by kernel_rfl⟩
instance : TyA Tryz.prog 353 false 1 := ⟨by kernel_rfl, by kernel_rfl, by kernel_rfl⟩
instance : TyInt Tryz.prog 353 .u8 := ⟨by kernel_rfl⟩
instance : TyZ Tryz.prog 353 [.int .u8 0] := ⟨by kernel_rfl⟩
instance : TyB Tryz.prog 353 1 := ⟨by kernel_rfl⟩
instance : TyA Tryz.prog 354 false 1 := ⟨by kernel_rfl, by kernel_rfl, by kernel_rfl⟩
instance : TyInt Tryz.prog 354 .u8 := ⟨by kernel_rfl⟩
instance : TyZ Tryz.prog 354 [.int .u8 0] := ⟨by kernel_rfl⟩
instance : TyB Tryz.prog 354 1 := ⟨by kernel_rfl⟩
instance : TyA Tryz.prog 356 false 1 := ⟨by kernel_rfl, by kernel_rfl, by kernel_rfl⟩
instance : TyInt Tryz.prog 356 .i32 := ⟨by kernel_rfl⟩
instance : TyZ Tryz.prog 356 [.int .i32 0] := ⟨by kernel_rfl⟩
instance : TyB Tryz.prog 356 4 := ⟨by kernel_rfl⟩
instance : TyA Tryz.prog 357 false 1 := ⟨by kernel_rfl, by kernel_rfl, by kernel_rfl⟩
instance : TyInt Tryz.prog 357 .i32 := ⟨by kernel_rfl⟩
instance : TyZ Tryz.prog 357 [.int .i32 0] := ⟨by kernel_rfl⟩
instance : TyB Tryz.prog 357 4 := ⟨by kernel_rfl⟩
instance : TyA Tryz.prog 358 true 11 := ⟨by kernel_rfl, by kernel_rfl, by kernel_rfl⟩
instance : TyPl Tryz.prog 358 [(0, 1), (1, 1), (2, 1), (3, 1), (4, 1), (5, 1), (6, 1), (7, 1), (8, 1), (9, 1), (10, 1)] := ⟨by kernel_rfl⟩
instance : TyStruct Tryz.prog 358 [(0, 12), (1, 12), (2, 293), (3, 353), (4, 5), (5, 5), (6, 354), (7, 355), (8, 297), (9, 356), (10, 357)] := ⟨by kernel_rfl⟩
instance : TyZ Tryz.prog 358 [.int .u64 0, .int .u64 0, .int .u32 0, .int .u8 0, .int .u8 0, .int .u8 0, .int .u8 0, .nilFunc, .pointer none, .int .i32 0, .int .i32 0] := ⟨by kernel_rfl⟩
instance : TyB Tryz.prog 358 48 := ⟨by kernel_rfl⟩
instance : TyA Tryz.prog 359 true 11 := ⟨by kernel_rfl, by kernel_rfl, by kernel_rfl⟩
instance : TyPl Tryz.prog 359 [(0, 1), (1, 1), (2, 1), (3, 1), (4, 1), (5, 1), (6, 1), (7, 1), (8, 1), (9, 1), (10, 1)] := ⟨by kernel_rfl⟩
instance : TyStruct Tryz.prog 359 [(0, 12), (1, 12), (2, 293), (3, 353), (4, 5), (5, 5), (6, 354), (7, 355), (8, 297), (9, 356), (10, 357)] := ⟨by kernel_rfl⟩
instance : TyZ Tryz.prog 359 [.int .u64 0, .int .u64 0, .int .u32 0, .int .u8 0, .int .u8 0, .int .u8 0, .int .u8 0, .nilFunc, .pointer none, .int .i32 0, .int .i32 0] := ⟨by kernel_rfl⟩
instance : TyB Tryz.prog 359 48 := ⟨by kernel_rfl⟩
instance : TyA Tryz.prog 360 true 1 := ⟨by kernel_rfl, by kernel_rfl, by kernel_rfl⟩
instance : TyPl Tryz.prog 360 [(0, 1)] := ⟨by kernel_rfl⟩
instance : TyStruct Tryz.prog 360 [(0, 9)] := ⟨by kernel_rfl⟩
instance : TyZ Tryz.prog 360 [.string ByteArray.empty] := ⟨by kernel_rfl⟩
instance : TyB Tryz.prog 360 16 := ⟨by kernel_rfl⟩
instance : TyA Tryz.prog 361 true 1 := ⟨by kernel_rfl, by kernel_rfl, by kernel_rfl⟩
instance : TyPl Tryz.prog 361 [(0, 1)] := ⟨by kernel_rfl⟩
instance : TyStruct Tryz.prog 361 [(0, 9)] := ⟨by kernel_rfl⟩
instance : TyZ Tryz.prog 361 [.string ByteArray.empty] := ⟨by kernel_rfl⟩
instance : TyB Tryz.prog 361 16 := ⟨by kernel_rfl⟩
instance : Ent Tryz.prog 3 := ⟨enters_of Tryz.func3 (by kernel_rfl) rfl⟩
instance : Ent Tryz.prog 4 := ⟨enters_of Tryz.func4 (by kernel_rfl) rfl⟩
instance : Ent Tryz.prog 5 := ⟨enters_of Tryz.func5 (by kernel_rfl) rfl⟩
instance : Ent Tryz.prog 6 := ⟨enters_of Tryz.func6 (by kernel_rfl) rfl⟩
instance : Ent Tryz.prog 7 := ⟨enters_of Tryz.func7 (by kernel_rfl) rfl⟩
instance : Ent Tryz.prog 8 := ⟨enters_of Tryz.func8 (by kernel_rfl) rfl⟩
instance : Ent Tryz.prog 9 := ⟨enters_of Tryz.func9 (by kernel_rfl) rfl⟩
instance : Ent Tryz.prog 10 := ⟨enters_of Tryz.func10 (by kernel_rfl) rfl⟩
instance : Ent Tryz.prog 11 := ⟨enters_of Tryz.func11 (by kernel_rfl) rfl⟩
instance : Ent Tryz.prog 12 := ⟨enters_of Tryz.func12 (by kernel_rfl) rfl⟩
instance : Ent Tryz.prog 13 := ⟨enters_of Tryz.func13 (by kernel_rfl) rfl⟩
instance : Ent Tryz.prog 14 := ⟨enters_of Tryz.func14 (by kernel_rfl) rfl⟩
instance : Ent Tryz.prog 15 := ⟨enters_of Tryz.func15 (by kernel_rfl) rfl⟩
instance : Ent Tryz.prog 16 := ⟨enters_of Tryz.func16 (by kernel_rfl) rfl⟩
instance : Ent Tryz.prog 17 := ⟨enters_of Tryz.func17 (by kernel_rfl) rfl⟩
instance : Ent Tryz.prog 18 := ⟨enters_of Tryz.func18 (by kernel_rfl) rfl⟩
instance : Ent Tryz.prog 19 := ⟨enters_of Tryz.func19 (by kernel_rfl) rfl⟩
instance : Ent Tryz.prog 20 := ⟨enters_of Tryz.func20 (by kernel_rfl) rfl⟩
instance : Ent Tryz.prog 21 := ⟨enters_of Tryz.func21 (by kernel_rfl) rfl⟩
instance : Ent Tryz.prog 22 := ⟨enters_of Tryz.func22 (by kernel_rfl) rfl⟩
instance : Ent Tryz.prog 23 := ⟨enters_of Tryz.func23 (by kernel_rfl) rfl⟩
instance : Ent Tryz.prog 24 := ⟨enters_of Tryz.func24 (by kernel_rfl) rfl⟩
instance : Ent Tryz.prog 25 := ⟨enters_of Tryz.func25 (by kernel_rfl) rfl⟩
instance : Ent Tryz.prog 26 := ⟨enters_of Tryz.func26 (by kernel_rfl) rfl⟩
instance : Ent Tryz.prog 27 := ⟨enters_of Tryz.func27 (by kernel_rfl) rfl⟩
instance : Ent Tryz.prog 28 := ⟨enters_of Tryz.func28 (by kernel_rfl) rfl⟩
instance : Ent Tryz.prog 29 := ⟨enters_of Tryz.func29 (by kernel_rfl) rfl⟩
instance : Ent Tryz.prog 30 := ⟨enters_of Tryz.func30 (by kernel_rfl) rfl⟩
instance : Ent Tryz.prog 31 := ⟨enters_of Tryz.func31 (by kernel_rfl) rfl⟩
instance : Ent Tryz.prog 32 := ⟨enters_of Tryz.func32 (by kernel_rfl) rfl⟩
instance : Ent Tryz.prog 33 := ⟨enters_of Tryz.func33 (by kernel_rfl) rfl⟩
instance : Ent Tryz.prog 34 := ⟨enters_of Tryz.func34 (by kernel_rfl) rfl⟩
instance : Ent Tryz.prog 35 := ⟨enters_of Tryz.func35 (by kernel_rfl) rfl⟩
instance : Ent Tryz.prog 36 := ⟨enters_of Tryz.func36 (by kernel_rfl) rfl⟩
instance : Ent Tryz.prog 37 := ⟨enters_of Tryz.func37 (by kernel_rfl) rfl⟩
instance : Ent Tryz.prog 38 := ⟨enters_of Tryz.func38 (by kernel_rfl) rfl⟩
instance : Ent Tryz.prog 39 := ⟨enters_of Tryz.func39 (by kernel_rfl) rfl⟩
instance : Ent Tryz.prog 40 := ⟨enters_of Tryz.func40 (by kernel_rfl) rfl⟩
instance : Ent Tryz.prog 41 := ⟨enters_of Tryz.func41 (by kernel_rfl) rfl⟩
instance : Ent Tryz.prog 42 := ⟨enters_of Tryz.func42 (by kernel_rfl) rfl⟩
instance : Ent Tryz.prog 43 := ⟨enters_of Tryz.func43 (by kernel_rfl) rfl⟩
instance : Ent Tryz.prog 44 := ⟨enters_of Tryz.func44 (by kernel_rfl) rfl⟩
instance : Ent Tryz.prog 45 := ⟨enters_of Tryz.func45 (by kernel_rfl) rfl⟩
instance : Ent Tryz.prog 46 := ⟨enters_of Tryz.func46 (by kernel_rfl) rfl⟩
instance : Ent Tryz.prog 47 := ⟨enters_of Tryz.func47 (by kernel_rfl) rfl⟩
instance : Ent Tryz.prog 48 := ⟨enters_of Tryz.func48 (by kernel_rfl) rfl⟩
instance : Ent Tryz.prog 49 := ⟨enters_of Tryz.func49 (by kernel_rfl) rfl⟩
instance : Ent Tryz.prog 50 := ⟨enters_of Tryz.func50 (by kernel_rfl) rfl⟩
instance : Ent Tryz.prog 51 := ⟨enters_of Tryz.func51 (by kernel_rfl) rfl⟩
instance : Ent Tryz.prog 52 := ⟨enters_of Tryz.func52 (by kernel_rfl) rfl⟩
instance : Ent Tryz.prog 53 := ⟨enters_of Tryz.func53 (by kernel_rfl) rfl⟩
instance : Ent Tryz.prog 54 := ⟨enters_of Tryz.func54 (by kernel_rfl) rfl⟩
instance : Ent Tryz.prog 55 := ⟨enters_of Tryz.func55 (by kernel_rfl) rfl⟩
instance : Ent Tryz.prog 56 := ⟨enters_of Tryz.func56 (by kernel_rfl) rfl⟩
instance : Ent Tryz.prog 57 := ⟨enters_of Tryz.func57 (by kernel_rfl) rfl⟩
instance : Ent Tryz.prog 58 := ⟨enters_of Tryz.func58 (by kernel_rfl) rfl⟩
instance : Ent Tryz.prog 59 := ⟨enters_of Tryz.func59 (by kernel_rfl) rfl⟩
instance : Ent Tryz.prog 60 := ⟨enters_of Tryz.func60 (by kernel_rfl) rfl⟩
instance : Ent Tryz.prog 61 := ⟨enters_of Tryz.func61 (by kernel_rfl) rfl⟩
instance : Ent Tryz.prog 62 := ⟨enters_of Tryz.func62 (by kernel_rfl) rfl⟩
instance : Ent Tryz.prog 63 := ⟨enters_of Tryz.func63 (by kernel_rfl) rfl⟩
instance : Ent Tryz.prog 64 := ⟨enters_of Tryz.func64 (by kernel_rfl) rfl⟩
instance : Ent Tryz.prog 65 := ⟨enters_of Tryz.func65 (by kernel_rfl) rfl⟩
instance : Ent Tryz.prog 66 := ⟨enters_of Tryz.func66 (by kernel_rfl) rfl⟩
instance : Ent Tryz.prog 67 := ⟨enters_of Tryz.func67 (by kernel_rfl) rfl⟩
instance : Ent Tryz.prog 68 := ⟨enters_of Tryz.func68 (by kernel_rfl) rfl⟩
instance : Ent Tryz.prog 69 := ⟨enters_of Tryz.func69 (by kernel_rfl) rfl⟩
instance : Ent Tryz.prog 70 := ⟨enters_of Tryz.func70 (by kernel_rfl) rfl⟩
instance : Ent Tryz.prog 71 := ⟨enters_of Tryz.func71 (by kernel_rfl) rfl⟩
instance : Ent Tryz.prog 72 := ⟨enters_of Tryz.func72 (by kernel_rfl) rfl⟩
instance : Ent Tryz.prog 73 := ⟨enters_of Tryz.func73 (by kernel_rfl) rfl⟩
instance : Ent Tryz.prog 74 := ⟨enters_of Tryz.func74 (by kernel_rfl) rfl⟩
instance : Ent Tryz.prog 75 := ⟨enters_of Tryz.func75 (by kernel_rfl) rfl⟩
instance : Ent Tryz.prog 76 := ⟨enters_of Tryz.func76 (by kernel_rfl) rfl⟩
instance : Ent Tryz.prog 77 := ⟨enters_of Tryz.func77 (by kernel_rfl) rfl⟩
instance : Ent Tryz.prog 78 := ⟨enters_of Tryz.func78 (by kernel_rfl) rfl⟩
instance : Ent Tryz.prog 79 := ⟨enters_of Tryz.func79 (by kernel_rfl) rfl⟩
instance : Ent Tryz.prog 80 := ⟨enters_of Tryz.func80 (by kernel_rfl) rfl⟩
instance : Ent Tryz.prog 81 := ⟨enters_of Tryz.func81 (by kernel_rfl) rfl⟩
instance : Ent Tryz.prog 82 := ⟨enters_of Tryz.func82 (by kernel_rfl) rfl⟩
instance : Ent Tryz.prog 83 := ⟨enters_of Tryz.func83 (by kernel_rfl) rfl⟩
instance : Ent Tryz.prog 84 := ⟨enters_of Tryz.func84 (by kernel_rfl) rfl⟩
instance : Ent Tryz.prog 85 := ⟨enters_of Tryz.func85 (by kernel_rfl) rfl⟩
instance : Ent Tryz.prog 86 := ⟨enters_of Tryz.func86 (by kernel_rfl) rfl⟩
instance : Ent Tryz.prog 87 := ⟨enters_of Tryz.func87 (by kernel_rfl) rfl⟩
instance : Ent Tryz.prog 88 := ⟨enters_of Tryz.func88 (by kernel_rfl) rfl⟩
instance : Ent Tryz.prog 89 := ⟨enters_of Tryz.func89 (by kernel_rfl) rfl⟩
instance : Ent Tryz.prog 90 := ⟨enters_of Tryz.func90 (by kernel_rfl) rfl⟩
instance : Ent Tryz.prog 91 := ⟨enters_of Tryz.func91 (by kernel_rfl) rfl⟩
instance : Ent Tryz.prog 92 := ⟨enters_of Tryz.func92 (by kernel_rfl) rfl⟩
instance : Ent Tryz.prog 93 := ⟨enters_of Tryz.func93 (by kernel_rfl) rfl⟩
instance : Ent Tryz.prog 94 := ⟨enters_of Tryz.func94 (by kernel_rfl) rfl⟩
instance : Ent Tryz.prog 95 := ⟨enters_of Tryz.func95 (by kernel_rfl) rfl⟩
instance : Ent Tryz.prog 96 := ⟨enters_of Tryz.func96 (by kernel_rfl) rfl⟩
instance : Ent Tryz.prog 97 := ⟨enters_of Tryz.func97 (by kernel_rfl) rfl⟩
instance : Ent Tryz.prog 98 := ⟨enters_of Tryz.func98 (by kernel_rfl) rfl⟩
instance : Ent Tryz.prog 99 := ⟨enters_of Tryz.func99 (by kernel_rfl) rfl⟩
instance : Ent Tryz.prog 100 := ⟨enters_of Tryz.func100 (by kernel_rfl) rfl⟩
instance : Ent Tryz.prog 101 := ⟨enters_of Tryz.func101 (by kernel_rfl) rfl⟩
instance : Ent Tryz.prog 102 := ⟨enters_of Tryz.func102 (by kernel_rfl) rfl⟩
instance : Ent Tryz.prog 103 := ⟨enters_of Tryz.func103 (by kernel_rfl) rfl⟩
instance : Ent Tryz.prog 104 := ⟨enters_of Tryz.func104 (by kernel_rfl) rfl⟩
instance : Ent Tryz.prog 105 := ⟨enters_of Tryz.func105 (by kernel_rfl) rfl⟩
instance : Ent Tryz.prog 106 := ⟨enters_of Tryz.func106 (by kernel_rfl) rfl⟩
instance : Ent Tryz.prog 107 := ⟨enters_of Tryz.func107 (by kernel_rfl) rfl⟩
instance : Ent Tryz.prog 108 := ⟨enters_of Tryz.func108 (by kernel_rfl) rfl⟩
instance : Ent Tryz.prog 109 := ⟨enters_of Tryz.func109 (by kernel_rfl) rfl⟩
instance : Ent Tryz.prog 110 := ⟨enters_of Tryz.func110 (by kernel_rfl) rfl⟩
instance : Ent Tryz.prog 111 := ⟨enters_of Tryz.func111 (by kernel_rfl) rfl⟩
instance : Ent Tryz.prog 112 := ⟨enters_of Tryz.func112 (by kernel_rfl) rfl⟩
instance : Ent Tryz.prog 113 := ⟨enters_of Tryz.func113 (by kernel_rfl) rfl⟩
instance : Ent Tryz.prog 114 := ⟨enters_of Tryz.func114 (by kernel_rfl) rfl⟩
instance : Ent Tryz.prog 115 := ⟨enters_of Tryz.func115 (by kernel_rfl) rfl⟩
instance : Ent Tryz.prog 116 := ⟨enters_of Tryz.func116 (by kernel_rfl) rfl⟩
instance : Ent Tryz.prog 117 := ⟨enters_of Tryz.func117 (by kernel_rfl) rfl⟩
instance : Ent Tryz.prog 118 := ⟨enters_of Tryz.func118 (by kernel_rfl) rfl⟩
instance : Ent Tryz.prog 119 := ⟨enters_of Tryz.func119 (by kernel_rfl) rfl⟩
instance : Ent Tryz.prog 120 := ⟨enters_of Tryz.func120 (by kernel_rfl) rfl⟩
instance : Ent Tryz.prog 121 := ⟨enters_of Tryz.func121 (by kernel_rfl) rfl⟩
instance : Ent Tryz.prog 122 := ⟨enters_of Tryz.func122 (by kernel_rfl) rfl⟩
instance : Ent Tryz.prog 123 := ⟨enters_of Tryz.func123 (by kernel_rfl) rfl⟩
instance : Ent Tryz.prog 124 := ⟨enters_of Tryz.func124 (by kernel_rfl) rfl⟩
instance : Ent Tryz.prog 125 := ⟨enters_of Tryz.func125 (by kernel_rfl) rfl⟩
instance : Ent Tryz.prog 126 := ⟨enters_of Tryz.func126 (by kernel_rfl) rfl⟩
instance : Ent Tryz.prog 127 := ⟨enters_of Tryz.func127 (by kernel_rfl) rfl⟩
instance : Ent Tryz.prog 128 := ⟨enters_of Tryz.func128 (by kernel_rfl) rfl⟩
instance : Ent Tryz.prog 129 := ⟨enters_of Tryz.func129 (by kernel_rfl) rfl⟩
instance : Ent Tryz.prog 130 := ⟨enters_of Tryz.func130 (by kernel_rfl) rfl⟩
instance : Ent Tryz.prog 131 := ⟨enters_of Tryz.func131 (by kernel_rfl) rfl⟩
instance : Ent Tryz.prog 132 := ⟨enters_of Tryz.func132 (by kernel_rfl) rfl⟩
instance : Ent Tryz.prog 133 := ⟨enters_of Tryz.func133 (by kernel_rfl) rfl⟩
instance : Ent Tryz.prog 134 := ⟨enters_of Tryz.func134 (by kernel_rfl) rfl⟩
instance : Ent Tryz.prog 135 := ⟨enters_of Tryz.func135 (by kernel_rfl) rfl⟩
instance : Ent Tryz.prog 136 := ⟨enters_of Tryz.func136 (by kernel_rfl) rfl⟩
instance : Ent Tryz.prog 137 := ⟨enters_of Tryz.func137 (by kernel_rfl) rfl⟩
instance : Ent Tryz.prog 138 := ⟨enters_of Tryz.func138 (by kernel_rfl) rfl⟩
instance : Ent Tryz.prog 139 := ⟨enters_of Tryz.func139 (by kernel_rfl) rfl⟩
instance : Ent Tryz.prog 140 := ⟨enters_of Tryz.func140 (by kernel_rfl) rfl⟩
instance : Ent Tryz.prog 141 := ⟨enters_of Tryz.func141 (by kernel_rfl) rfl⟩
instance : Ent Tryz.prog 142 := ⟨enters_of Tryz.func142 (by kernel_rfl) rfl⟩
instance : Ent Tryz.prog 143 := ⟨enters_of Tryz.func143 (by kernel_rfl) rfl⟩
instance : Ent Tryz.prog 144 := ⟨enters_of Tryz.func144 (by kernel_rfl) rfl⟩
instance : Ent Tryz.prog 145 := ⟨enters_of Tryz.func145 (by kernel_rfl) rfl⟩
instance : Ent Tryz.prog 146 := ⟨enters_of Tryz.func146 (by kernel_rfl) rfl⟩
instance : Ent Tryz.prog 147 := ⟨enters_of Tryz.func147 (by kernel_rfl) rfl⟩
instance : Ent Tryz.prog 148 := ⟨enters_of Tryz.func148 (by kernel_rfl) rfl⟩
instance : Ent Tryz.prog 149 := ⟨enters_of Tryz.func149 (by kernel_rfl) rfl⟩
instance : Ent Tryz.prog 150 := ⟨enters_of Tryz.func150 (by kernel_rfl) rfl⟩
instance : Ent Tryz.prog 151 := ⟨enters_of Tryz.func151 (by kernel_rfl) rfl⟩
instance : Ent Tryz.prog 152 := ⟨enters_of Tryz.func152 (by kernel_rfl) rfl⟩
instance : Ent Tryz.prog 153 := ⟨enters_of Tryz.func153 (by kernel_rfl) rfl⟩
instance : Ent Tryz.prog 154 := ⟨enters_of Tryz.func154 (by kernel_rfl) rfl⟩
instance : Ent Tryz.prog 155 := ⟨enters_of Tryz.func155 (by kernel_rfl) rfl⟩
instance : Ent Tryz.prog 156 := ⟨enters_of Tryz.func156 (by kernel_rfl) rfl⟩
instance : Ent Tryz.prog 157 := ⟨enters_of Tryz.func157 (by kernel_rfl) rfl⟩
instance : Ent Tryz.prog 158 := ⟨enters_of Tryz.func158 (by kernel_rfl) rfl⟩
instance : Ent Tryz.prog 159 := ⟨enters_of Tryz.func159 (by kernel_rfl) rfl⟩
instance : Ent Tryz.prog 160 := ⟨enters_of Tryz.func160 (by kernel_rfl) rfl⟩
instance : Ent Tryz.prog 161 := ⟨enters_of Tryz.func161 (by kernel_rfl) rfl⟩
instance : Ent Tryz.prog 162 := ⟨enters_of Tryz.func162 (by kernel_rfl) rfl⟩
instance : Ent Tryz.prog 163 := ⟨enters_of Tryz.func163 (by kernel_rfl) rfl⟩
instance : Ent Tryz.prog 164 := ⟨enters_of Tryz.func164 (by kernel_rfl) rfl⟩
instance : Ent Tryz.prog 165 := ⟨enters_of Tryz.func165 (by kernel_rfl) rfl⟩
instance : Ent Tryz.prog 166 := ⟨enters_of Tryz.func166 (by kernel_rfl) rfl⟩
instance : Ent Tryz.prog 167 := ⟨enters_of Tryz.func167 (by kernel_rfl) rfl⟩
instance : Ent Tryz.prog 168 := ⟨enters_of Tryz.func168 (by kernel_rfl) rfl⟩
instance : Ent Tryz.prog 169 := ⟨enters_of Tryz.func169 (by kernel_rfl) rfl⟩
instance : Ent Tryz.prog 170 := ⟨enters_of Tryz.func170 (by kernel_rfl) rfl⟩
instance : Ent Tryz.prog 171 := ⟨enters_of Tryz.func171 (by kernel_rfl) rfl⟩
instance : Ent Tryz.prog 172 := ⟨enters_of Tryz.func172 (by kernel_rfl) rfl⟩
instance : Ent Tryz.prog 173 := ⟨enters_of Tryz.func173 (by kernel_rfl) rfl⟩
instance : Ent Tryz.prog 174 := ⟨enters_of Tryz.func174 (by kernel_rfl) rfl⟩
instance : Ent Tryz.prog 175 := ⟨enters_of Tryz.func175 (by kernel_rfl) rfl⟩
instance : Ent Tryz.prog 176 := ⟨enters_of Tryz.func176 (by kernel_rfl) rfl⟩
instance : Ent Tryz.prog 177 := ⟨enters_of Tryz.func177 (by kernel_rfl) rfl⟩
instance : Ent Tryz.prog 178 := ⟨enters_of Tryz.func178 (by kernel_rfl) rfl⟩
instance : Ent Tryz.prog 179 := ⟨enters_of Tryz.func179 (by kernel_rfl) rfl⟩
instance : Ent Tryz.prog 180 := ⟨enters_of Tryz.func180 (by kernel_rfl) rfl⟩
instance : Ent Tryz.prog 181 := ⟨enters_of Tryz.func181 (by kernel_rfl) rfl⟩
instance : Ent Tryz.prog 182 := ⟨enters_of Tryz.func182 (by kernel_rfl) rfl⟩
instance : Ent Tryz.prog 183 := ⟨enters_of Tryz.func183 (by kernel_rfl) rfl⟩
instance : Ent Tryz.prog 184 := ⟨enters_of Tryz.func184 (by kernel_rfl) rfl⟩
instance : Ent Tryz.prog 185 := ⟨enters_of Tryz.func185 (by kernel_rfl) rfl⟩
instance : Ent Tryz.prog 186 := ⟨enters_of Tryz.func186 (by kernel_rfl) rfl⟩
instance : Ent Tryz.prog 187 := ⟨enters_of Tryz.func187 (by kernel_rfl) rfl⟩
instance : Ent Tryz.prog 188 := ⟨enters_of Tryz.func188 (by kernel_rfl) rfl⟩
instance : Ent Tryz.prog 189 := ⟨enters_of Tryz.func189 (by kernel_rfl) rfl⟩
instance : Ent Tryz.prog 190 := ⟨enters_of Tryz.func190 (by kernel_rfl) rfl⟩
instance : Ent Tryz.prog 191 := ⟨enters_of Tryz.func191 (by kernel_rfl) rfl⟩
instance : Ent Tryz.prog 192 := ⟨enters_of Tryz.func192 (by kernel_rfl) rfl⟩
instance : Ent Tryz.prog 193 := ⟨enters_of Tryz.func193 (by kernel_rfl) rfl⟩
instance : Ent Tryz.prog 194 := ⟨enters_of Tryz.func194 (by kernel_rfl) rfl⟩
instance : Ent Tryz.prog 195 := ⟨enters_of Tryz.func195 (by kernel_rfl) rfl⟩
instance : Ent Tryz.prog 196 := ⟨enters_of Tryz.func196 (by kernel_rfl) rfl⟩
instance : Ent Tryz.prog 197 := ⟨enters_of Tryz.func197 (by kernel_rfl) rfl⟩
instance : Ent Tryz.prog 198 := ⟨enters_of Tryz.func198 (by kernel_rfl) rfl⟩
instance : Ent Tryz.prog 199 := ⟨enters_of Tryz.func199 (by kernel_rfl) rfl⟩
instance : Ent Tryz.prog 200 := ⟨enters_of Tryz.func200 (by kernel_rfl) rfl⟩
instance : Ent Tryz.prog 201 := ⟨enters_of Tryz.func201 (by kernel_rfl) rfl⟩
instance : Ent Tryz.prog 202 := ⟨enters_of Tryz.func202 (by kernel_rfl) rfl⟩
instance : Ent Tryz.prog 203 := ⟨enters_of Tryz.func203 (by kernel_rfl) rfl⟩
instance : Ent Tryz.prog 204 := ⟨enters_of Tryz.func204 (by kernel_rfl) rfl⟩
instance : Ent Tryz.prog 205 := ⟨enters_of Tryz.func205 (by kernel_rfl) rfl⟩
instance : Ent Tryz.prog 206 := ⟨enters_of Tryz.func206 (by kernel_rfl) rfl⟩
instance : Ent Tryz.prog 207 := ⟨enters_of Tryz.func207 (by kernel_rfl) rfl⟩
instance : Ent Tryz.prog 208 := ⟨enters_of Tryz.func208 (by kernel_rfl) rfl⟩
instance : Ent Tryz.prog 209 := ⟨enters_of Tryz.func209 (by kernel_rfl) rfl⟩
instance : Ent Tryz.prog 210 := ⟨enters_of Tryz.func210 (by kernel_rfl) rfl⟩
instance : Ent Tryz.prog 211 := ⟨enters_of Tryz.func211 (by kernel_rfl) rfl⟩
instance : Ent Tryz.prog 212 := ⟨enters_of Tryz.func212 (by kernel_rfl) rfl⟩
instance : Ent Tryz.prog 213 := ⟨enters_of Tryz.func213 (by kernel_rfl) rfl⟩
instance : Ent Tryz.prog 214 := ⟨enters_of Tryz.func214 (by kernel_rfl) rfl⟩
instance : Ent Tryz.prog 215 := ⟨enters_of Tryz.func215 (by kernel_rfl) rfl⟩
instance : Ent Tryz.prog 216 := ⟨enters_of Tryz.func216 (by kernel_rfl) rfl⟩
instance : Ent Tryz.prog 217 := ⟨enters_of Tryz.func217 (by kernel_rfl) rfl⟩
instance : Ent Tryz.prog 218 := ⟨enters_of Tryz.func218 (by kernel_rfl) rfl⟩
instance : Ent Tryz.prog 219 := ⟨enters_of Tryz.func219 (by kernel_rfl) rfl⟩
instance : Ent Tryz.prog 220 := ⟨enters_of Tryz.func220 (by kernel_rfl) rfl⟩
instance : Ent Tryz.prog 221 := ⟨enters_of Tryz.func221 (by kernel_rfl) rfl⟩
instance : Ent Tryz.prog 222 := ⟨enters_of Tryz.func222 (by kernel_rfl) rfl⟩
instance : Ent Tryz.prog 223 := ⟨enters_of Tryz.func223 (by kernel_rfl) rfl⟩
instance : Ent Tryz.prog 224 := ⟨enters_of Tryz.func224 (by kernel_rfl) rfl⟩
instance : Ent Tryz.prog 225 := ⟨enters_of Tryz.func225 (by kernel_rfl) rfl⟩
instance : Ent Tryz.prog 226 := ⟨enters_of Tryz.func226 (by kernel_rfl) rfl⟩
instance : Ent Tryz.prog 227 := ⟨enters_of Tryz.func227 (by kernel_rfl) rfl⟩
instance : Ent Tryz.prog 228 := ⟨enters_of Tryz.func228 (by kernel_rfl) rfl⟩
instance : Ent Tryz.prog 229 := ⟨enters_of Tryz.func229 (by kernel_rfl) rfl⟩
instance : Ent Tryz.prog 230 := ⟨enters_of Tryz.func230 (by kernel_rfl) rfl⟩
instance : Ent Tryz.prog 231 := ⟨enters_of Tryz.func231 (by kernel_rfl) rfl⟩
instance : Ent Tryz.prog 232 := ⟨enters_of Tryz.func232 (by kernel_rfl) rfl⟩
instance : Ent Tryz.prog 233 := ⟨enters_of Tryz.func233 (by kernel_rfl) rfl⟩
instance : Ent Tryz.prog 234 := ⟨enters_of Tryz.func234 (by kernel_rfl) rfl⟩
instance : Ent Tryz.prog 235 := ⟨enters_of Tryz.func235 (by kernel_rfl) rfl⟩
instance : Ent Tryz.prog 236 := ⟨enters_of Tryz.func236 (by kernel_rfl) rfl⟩
instance : Ent Tryz.prog 237 := ⟨enters_of Tryz.func237 (by kernel_rfl) rfl⟩
instance : Ent Tryz.prog 238 := ⟨enters_of Tryz.func238 (by kernel_rfl) rfl⟩
instance : Ent Tryz.prog 239 := ⟨enters_of Tryz.func239 (by kernel_rfl) rfl⟩
instance : Ent Tryz.prog 240 := ⟨enters_of Tryz.func240 (by kernel_rfl) rfl⟩
instance : Ent Tryz.prog 241 := ⟨enters_of Tryz.func241 (by kernel_rfl) rfl⟩
instance : Ent Tryz.prog 242 := ⟨enters_of Tryz.func242 (by kernel_rfl) rfl⟩
instance : Ent Tryz.prog 243 := ⟨enters_of Tryz.func243 (by kernel_rfl) rfl⟩
instance : Ent Tryz.prog 244 := ⟨enters_of Tryz.func244 (by kernel_rfl) rfl⟩
instance : Ent Tryz.prog 245 := ⟨enters_of Tryz.func245 (by kernel_rfl) rfl⟩
instance : Ent Tryz.prog 246 := ⟨enters_of Tryz.func246 (by kernel_rfl) rfl⟩
instance : Ent Tryz.prog 247 := ⟨enters_of Tryz.func247 (by kernel_rfl) rfl⟩
instance : Ent Tryz.prog 248 := ⟨enters_of Tryz.func248 (by kernel_rfl) rfl⟩
instance : Ent Tryz.prog 249 := ⟨enters_of Tryz.func249 (by kernel_rfl) rfl⟩
instance : Ent Tryz.prog 250 := ⟨enters_of Tryz.func250 (by kernel_rfl) rfl⟩
instance : Ent Tryz.prog 251 := ⟨enters_of Tryz.func251 (by kernel_rfl) rfl⟩
instance : Ent Tryz.prog 253 := ⟨enters_of Tryz.func253 (by kernel_rfl) rfl⟩
instance : Ent Tryz.prog 254 := ⟨enters_of Tryz.func254 (by kernel_rfl) rfl⟩
instance : Ent Tryz.prog 255 := ⟨enters_of Tryz.func255 (by kernel_rfl) rfl⟩
instance : Ent Tryz.prog 256 := ⟨enters_of Tryz.func256 (by kernel_rfl) rfl⟩
instance : Ent Tryz.prog 257 := ⟨enters_of Tryz.func257 (by kernel_rfl) rfl⟩
instance : Ent Tryz.prog 258 := ⟨enters_of Tryz.func258 (by kernel_rfl) rfl⟩
instance : Ent Tryz.prog 259 := ⟨enters_of Tryz.func259 (by kernel_rfl) rfl⟩
instance : Ent Tryz.prog 260 := ⟨enters_of Tryz.func260 (by kernel_rfl) rfl⟩
instance : Ent Tryz.prog 261 := ⟨enters_of Tryz.func261 (by kernel_rfl) rfl⟩
instance : Ent Tryz.prog 262 := ⟨enters_of Tryz.func262 (by kernel_rfl) rfl⟩
instance : Ent Tryz.prog 263 := ⟨enters_of Tryz.func263 (by kernel_rfl) rfl⟩
instance : Ent Tryz.prog 264 := ⟨enters_of Tryz.func264 (by kernel_rfl) rfl⟩
instance : Ent Tryz.prog 265 := ⟨enters_of Tryz.func265 (by kernel_rfl) rfl⟩
instance : Ent Tryz.prog 266 := ⟨enters_of Tryz.func266 (by kernel_rfl) rfl⟩
instance : Ent Tryz.prog 267 := ⟨enters_of Tryz.func267 (by kernel_rfl) rfl⟩
instance : Ent Tryz.prog 268 := ⟨enters_of Tryz.func268 (by kernel_rfl) rfl⟩
instance : Ent Tryz.prog 269 := ⟨enters_of Tryz.func269 (by kernel_rfl) rfl⟩
instance : Ent Tryz.prog 270 := ⟨enters_of Tryz.func270 (by kernel_rfl) rfl⟩
instance : Ent Tryz.prog 271 := ⟨enters_of Tryz.func271 (by kernel_rfl) rfl⟩
instance : Ent Tryz.prog 272 := ⟨enters_of Tryz.func272 (by kernel_rfl) rfl⟩
instance : Ent Tryz.prog 273 := ⟨enters_of Tryz.func273 (by kernel_rfl) rfl⟩
instance : Ent Tryz.prog 274 := ⟨enters_of Tryz.func274 (by kernel_rfl) rfl⟩
instance : Ent Tryz.prog 275 := ⟨enters_of Tryz.func275 (by kernel_rfl) rfl⟩
instance : Ent Tryz.prog 276 := ⟨enters_of Tryz.func276 (by kernel_rfl) rfl⟩
instance : Ent Tryz.prog 277 := ⟨enters_of Tryz.func277 (by kernel_rfl) rfl⟩
instance : Ent Tryz.prog 278 := ⟨enters_of Tryz.func278 (by kernel_rfl) rfl⟩
instance : Ent Tryz.prog 279 := ⟨enters_of Tryz.func279 (by kernel_rfl) rfl⟩
instance : Ent Tryz.prog 280 := ⟨enters_of Tryz.func280 (by kernel_rfl) rfl⟩
instance : Ent Tryz.prog 281 := ⟨enters_of Tryz.func281 (by kernel_rfl) rfl⟩
instance : Ent Tryz.prog 282 := ⟨enters_of Tryz.func282 (by kernel_rfl) rfl⟩
instance : Ent Tryz.prog 283 := ⟨enters_of Tryz.func283 (by kernel_rfl) rfl⟩
instance : Ent Tryz.prog 284 := ⟨enters_of Tryz.func284 (by kernel_rfl) rfl⟩
end Go.Proofs

