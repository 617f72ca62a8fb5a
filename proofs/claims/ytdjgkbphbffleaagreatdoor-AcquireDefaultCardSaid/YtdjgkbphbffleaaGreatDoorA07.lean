/-
  Contracts: triplets mended.
-/
import Derived.Test.YtdjgkbphbffleaaGreatDoorA06
namespace Go.Cf

theorem bw_and32 (a b : Nat) (ha : a < 2 ^ 32) (hb : b < 2 ^ 32) : bw .and .u32 (a : Int) (b : Int) = ((a &&& b : Nat) : Int) := by
  unfold bw
  have h : ((BitVec.ofInt IntKind.u32.bits (a : Int)) &&& (BitVec.ofInt IntKind.u32.bits (b : Int))).toNat = a &&& b := by
    rw [BitVec.toNat_and, bvi _ a (by show a < 2 ^ 32; omega), bvi _ b (by show b < 2 ^ 32; omega)]
  simp only [h]
  have := Nat.and_le_left (n := a) (m := b)
  exact wrap_u32 (by omega)
theorem bw_or32 (a b : Nat) (ha : a < 2 ^ 32) (hb : b < 2 ^ 32) : bw .or .u32 (a : Int) (b : Int) = ((a ||| b : Nat) : Int) := by
  unfold bw
  have h : ((BitVec.ofInt IntKind.u32.bits (a : Int)) ||| (BitVec.ofInt IntKind.u32.bits (b : Int))).toNat = a ||| b := by
    rw [BitVec.toNat_or, bvi _ a (by show a < 2 ^ 32; omega), bvi _ b (by show b < 2 ^ 32; omega)]
  simp only [h]
  have := or_lt (a := a) (b := b) (k := 32) (by omega) (by omega)
  exact wrap_u32 (by omega)
theorem bw_xor32 (a b : Nat) (ha : a < 2 ^ 32) (hb : b < 2 ^ 32) : bw .xor .u32 (a : Int) (b : Int) = ((a ^^^ b : Nat) : Int) := by
  unfold bw
  have h : ((BitVec.ofInt IntKind.u32.bits (a : Int)) ^^^ (BitVec.ofInt IntKind.u32.bits (b : Int))).toNat = a ^^^ b := by
    rw [BitVec.toNat_xor, bvi _ a (by show a < 2 ^ 32; omega), bvi _ b (by show b < 2 ^ 32; omega)]
  simp only [h]
  have := xor_lt (a := a) (b := b) (k := 32) (by omega) (by omega)
  exact wrap_u32 (by omega)
theorem an32 (a k : Nat) (h : a < 2 ^ 32) (hk : k ≤ 31) : bw .and .u32 (a : Int) ((2 ^ k - 1 : Nat) : Int) = ((a % 2 ^ k : Nat) : Int) := by
  have h3 : 2 ^ k ≤ 2 ^ 31 := Nat.pow_le_pow_right (by omega) hk
  rw [bw_and32 a _ h (by omega), Nat.and_two_pow_sub_one_eq_mod]
theorem shl32 (a k : Nat) (hk : k ≤ 32) (h : a * 2 ^ k < 2 ^ 32) : shl .u32 (a : Int) (k : Int) = ((a * 2 ^ k : Nat) : Int) := by
  unfold shl
  have h1 : min ((k : Int)).toNat IntKind.u32.bits = k := by show min ((k : Int)).toNat 32 = k; omega
  rw [h1]
  have h2 : ((a : Int) * 2 ^ k) = ((a * 2 ^ k : Nat) : Int) := by simp
  rw [h2]
  exact wrap_u32 (by omega)
theorem os32 (a b k : Nat) (ha : a < 2 ^ k) (hk : k ≤ 31) (hb : b * 2 ^ k < 2 ^ 32) : bw .or .u32 (a : Int) (shl .u32 (b : Int) (k : Int)) = ((a + b * 2 ^ k : Nat) : Int) := by
  have h3 : 2 ^ k ≤ 2 ^ 31 := Nat.pow_le_pow_right (by omega) hk
  rw [shl32 b k (by omega) (by omega), bw_or32 a (b * 2 ^ k) (by omega) (by omega), or_add a b k ha]

theorem pop_cut : ∀ (k a b : Nat), a < 2 ^ k → pop (a + b * 2 ^ k) = pop a + pop b
  | 0, a, b, h => by
    have h0 : a = 0 := by simpa using h
    subst h0; rw [pop_zero]; simp
  | k + 1, a, b, h => by
    rw [pop_step, pop_step a]
    have e : b * 2 ^ (k + 1) = 2 * (b * 2 ^ k) := by rw [Nat.pow_succ]; simp [Nat.mul_comm, Nat.mul_left_comm]
    have h1 : (a + b * 2 ^ (k + 1)) % 2 = a % 2 := by omega
    have h2 : (a + b * 2 ^ (k + 1)) / 2 = a / 2 + b * 2 ^ k := by omega
    rw [h1, h2, pop_cut k (a / 2) b (by rw [Nat.pow_succ] at h; omega)]
    omega

/-- What the watches see, up to a place. -/
def ck (w : Nat) : Nat → Nat
  | 0 => 0
  | j + 1 => if bitN w j = 1 then ck w j ^^^ (j + 1) else ck w j
theorem ck_lt (w : Nat) : ∀ j, j < 32 → ck w j < 32
  | 0, _ => by show 0 < 32; omega
  | j + 1, h => by
    have h1 := ck_lt w j (by omega)
    rw [ck]
    split
    · exact xor_lt (k := 5) h1 h
    · exact h1

def isData (p : Nat) : Bool := decide (p < 24) && decide (p &&& (p - 1) ≠ 0)
def kOf (j : Nat) : Nat := [0, 0, 0, 1, 1, 2, 3, 4, 4, 5, 6, 7, 8, 9, 10, 11, 11, 12, 13, 14, 15, 16, 17, 18].getD j 0
theorem kOf_data : ∀ j, j < 23 → (isData (j + 1) = true → kOf (j + 1) = kOf j + 1 ∧ spot (kOf j) = j + 1 ∧ kOf j < 18) ∧ (isData (j + 1) = false → kOf (j + 1) = kOf j) := by decide
/-- What stands at the data's places. -/
def e24 (w : Nat) : Nat → Nat
  | 0 => 0
  | i + 1 => e24 w i + bitN w (spot i - 1) * 2 ^ i
theorem e24_lt (w : Nat) : ∀ i, e24 w i < 2 ^ i
  | 0 => Nat.one_pos
  | i + 1 => by
    have h1 := e24_lt w i
    have h2 := bitN_le w (spot i - 1)
    have h3 : bitN w (spot i - 1) * 2 ^ i ≤ 1 * 2 ^ i := Nat.mul_le_mul_right _ h2
    rw [e24, Nat.pow_succ]; omega

def get24M (w : Nat) : Option Nat :=
  if ck w 23 ^^^ 31 = 0 then some (e24 w 18) else if pop w % 2 = 1 ∨ 24 ≤ ck w 23 ^^^ 31 then none else some (e24 (w ^^^ 2 ^ ((ck w 23 ^^^ 31) - 1)) 18)
theorem get24_lt {w n : Nat} (h : get24M w = some n) : n < 2 ^ 18 := by
  unfold get24M at h
  split at h
  · cases h; exact e24_lt _ _
  · split at h
    · cases h
    · cases h; exact e24_lt _ _
/-- Three bytes as a number. -/
def w24 (b0 b1 b2 : UInt8) : Nat := b0.toNat + b1.toNat * 2 ^ 8 + b2.toNat * 2 ^ 16
theorem w24_lt (b0 b1 b2 : UInt8) : w24 b0 b1 b2 < 2 ^ 24 := by
  have h0 := b0.toNat_lt
  have h1 := b1.toNat_lt
  have h2 := b2.toNat_lt
  simp only [w24]; omega
end Go.Cf

namespace Go.Proofs
open Go.Cf
set_option maxRecDepth 10000

theorem idx_tab {t : ByteArray} {z : Int} {m : Nat} (ht : ∀ m : Nat, m < 256 → t[m]? = some (UInt8.ofNat (pop m))) (hz : z = m) (hm : m < 256) : 0 ≤ z ∧ t[z.toNat]? = some (UInt8.ofNat (pop m)) := by
  subst hz; exact ⟨by omega, ht m hm⟩
theorem pop_b {m : Nat} (hm : m < 256) : ((UInt8.ofNat (pop m)).toNat : Int) = (pop m : Int) ∧ pop m ≤ 8 := by
  have h3 : pop m ≤ 8 := pop_le (k := 8) (by omega)
  refine ⟨?_, h3⟩
  rw [UInt8.toNat_ofNat']; omega

theorem ones32_does (n : Nat) (w : World) (hn : n < 2 ^ 24) : Does Tryz.prog 250 [.int .u32 n] w [] (fun v L => v = .int .i64 (pop n) ∧ L = []) := by
  refine does_of Tryz.func250 rfl rfl ?_
  have z3 : (n : Int) / 2 ^ Int.toNat 24 = ((n / 2 ^ 24 : Nat) : Int) := shr_nat n 24
  have z2 : bw .and .u32 ((n : Int) / 2 ^ Int.toNat 16) 255 = ((n / 2 ^ 16 % 2 ^ 8 : Nat) : Int) := by
    rw [show (n : Int) / 2 ^ Int.toNat 16 = ((n / 2 ^ 16 : Nat) : Int) from shr_nat n 16]; exact an32 _ 8 (by omega) (by omega)
  have z1 : bw .and .u32 ((n : Int) / 2 ^ Int.toNat 8) 255 = ((n / 2 ^ 8 % 2 ^ 8 : Nat) : Int) := by
    rw [show (n : Int) / 2 ^ Int.toNat 8 = ((n / 2 ^ 8 : Nat) : Int) from shr_nat n 8]; exact an32 _ 8 (by omega) (by omega)
  have z0 : bw .and .u32 (n : Int) 255 = ((n % 2 ^ 8 : Nat) : Int) := an32 _ 8 (by omega) (by omega)
  obtain ⟨p3, l3⟩ := pop_b (m := n / 2 ^ 24) (by omega)
  obtain ⟨p2, l2⟩ := pop_b (m := n / 2 ^ 16 % 2 ^ 8) (by omega)
  obtain ⟨p1, l1⟩ := pop_b (m := n / 2 ^ 8 % 2 ^ 8) (by omega)
  obtain ⟨p0, l0⟩ := pop_b (m := n % 2 ^ 8) (by omega)
  have hp : pop n = pop (n % 2 ^ 8) + (pop (n / 2 ^ 8 % 2 ^ 8) + (pop (n / 2 ^ 16 % 2 ^ 8) + pop (n / 2 ^ 24))) := by
    rw [← pop_cut 8 _ _ (by omega), ← pop_cut 8 _ _ (by omega), ← pop_cut 8 _ _ (by omega)]
    congr 1; omega
  have hs : IntKind.i64.wrap (IntKind.u8.wrap (IntKind.u8.wrap (IntKind.u8.wrap (((UInt8.ofNat (pop (n / 2 ^ 24))).toNat : Int) + ((UInt8.ofNat (pop (n / 2 ^ 16 % 2 ^ 8))).toNat : Int)) + ((UInt8.ofNat (pop (n / 2 ^ 8 % 2 ^ 8))).toNat : Int)) + ((UInt8.ofNat (pop (n % 2 ^ 8))).toNat : Int))) = (pop n : Int) := by
    rw [p3, p2, p1, p0, hp, wrap_u8 (z := (pop (n / 2 ^ 24) : Int) + _) (by omega), wrap_u8 (z := (pop (n / 2 ^ 24) : Int) + _ + _) (by omega), wrap_u8 (by omega), wrap_i64 (by omega)]
    omega
  repeat (first | refine r_seq ?_ | refine r_nil ?_ | refine r_region ?_ | refine r_skip ?_ | refine r_block ?_ | refine r_inBlock ?_ | refine x_ ?_ | refine w_ v_p ?_ | refine w_ v_cv ?_ | refine w_ v_and ?_ | refine w_ v_or ?_ | refine w_ v_f ?_ | refine w_ v_b ?_ | refine w_ v_r ?_ | refine w_ v_i ?_ | refine w_ v_a ?_ | refine w_ v_l ?_ | refine w_ v_la ?_ | refine w_ v_ls ?_ | refine w_ v_lr ?_ | refine w_ v_ln ?_ | refine w_ v_bd ?_ | refine w_ v_ba ?_ | refine w_ v_mf ?_ | refine w_ v_sap ?_ | refine w_ v_pkf ?_ | refine w_ v_pkt ?_ | refine w_ v_nl ?_ | refine w_ v_nn ?_ | refine e_ (f_st ?_) | refine e_ (f_al fun _ => ?_) | refine e_ (f_bx fun _ => ?_))
  refine d_in [] [] ?_
  first | (refine dp 0 ?_; first | refine tp (fun _ => v_p) ?_)
  first | (refine dp 1 ?_; first | refine tp (fun _ => v_p) ?_ | refine tp (fun _ => v_nl) ?_ | refine tp (fun _ => v_nn) ?_ | refine tp (fun _ => v_bq) ?_)
  first | (refine dp 2 ?_; first | refine tp (fun _ => v_is (idx_tab tab8 z3 (by omega))) ?_ | refine tp (fun _ => v_is) ?_)
  first | (refine dp 3 ?_; first | refine tp (fun _ => v_p) ?_)
  first | (refine dp 4 ?_; first | refine tp (fun _ => v_p) ?_ | refine tp (fun _ => v_nl) ?_ | refine tp (fun _ => v_nn) ?_ | refine tp (fun _ => v_bq) ?_)
  first | (refine dp 5 ?_; first | refine tp (fun _ => v_p) ?_ | refine tp (fun _ => v_nl) ?_ | refine tp (fun _ => v_nn) ?_ | refine tp (fun _ => v_bq) ?_)
  first | (refine dp 6 ?_; first | refine tp (fun _ => v_is (idx_tab tab8 z2 (by omega))) ?_ | refine tp (fun _ => v_is) ?_)
  first | (refine dp 7 ?_; first | refine tp (fun _ => v_p) ?_ | refine tp (fun _ => v_nl) ?_ | refine tp (fun _ => v_nn) ?_ | refine tp (fun _ => v_bq) ?_)
  first | (refine dp 8 ?_; first | refine tp (fun _ => v_p) ?_)
  first | (refine dp 9 ?_; first | refine tp (fun _ => v_p) ?_ | refine tp (fun _ => v_nl) ?_ | refine tp (fun _ => v_nn) ?_ | refine tp (fun _ => v_bq) ?_)
  first | (refine dp 10 ?_; first | refine tp (fun _ => v_p) ?_ | refine tp (fun _ => v_nl) ?_ | refine tp (fun _ => v_nn) ?_ | refine tp (fun _ => v_bq) ?_)
  first | (refine dp 11 ?_; first | refine tp (fun _ => v_is (idx_tab tab8 z1 (by omega))) ?_ | refine tp (fun _ => v_is) ?_)
  first | (refine dp 12 ?_; first | refine tp (fun _ => v_p) ?_ | refine tp (fun _ => v_nl) ?_ | refine tp (fun _ => v_nn) ?_ | refine tp (fun _ => v_bq) ?_)
  first | (refine dp 13 ?_; first | refine tp (fun _ => v_p) ?_)
  first | (refine dp 14 ?_; first | refine tp (fun _ => v_p) ?_ | refine tp (fun _ => v_nl) ?_ | refine tp (fun _ => v_nn) ?_ | refine tp (fun _ => v_bq) ?_)
  first | (refine dp 15 ?_; first | refine tp (fun _ => v_is (idx_tab tab8 z0 (by omega))) ?_ | refine tp (fun _ => v_is) ?_)
  first | (refine dp 16 ?_; first | refine tp (fun _ => v_p) ?_ | refine tp (fun _ => v_nl) ?_ | refine tp (fun _ => v_nn) ?_ | refine tp (fun _ => v_bq) ?_)
  first | (refine dp 17 ?_; first | refine tp (fun _ => v_cv (hc := hs)) ?_ | refine tp (fun _ => v_cv) ?_)
  first | (refine dp 18 ?_; first | refine tp (fun _ => v_p) ?_)
  refine d_z ?_
  exact t_ rfl (.tmp rfl .nil) (List.nil_sublist _) ⟨rfl, rfl⟩

theorem check_does (n : Nat) (w : World) (hn : n < 2 ^ 24) : Does Tryz.prog 229 [.int .u32 n] w [] (fun v L => v = .tuple #[.int .i64 (ck n 23), .bool (pop n % 2 == 1)] ∧ L = []) := by
  refine does_of Tryz.func229 rfl rfl ?_
  repeat (first | refine r_seq ?_ | refine r_nil ?_ | refine r_region ?_ | refine r_skip ?_ | refine r_block ?_ | refine r_inBlock ?_ | refine x_ ?_ | refine w_ v_p ?_ | refine w_ v_cv ?_ | refine w_ v_and ?_ | refine w_ v_or ?_ | refine w_ v_f ?_ | refine w_ v_b ?_ | refine w_ v_r ?_ | refine w_ v_i ?_ | refine w_ v_a ?_ | refine w_ v_l ?_ | refine w_ v_la ?_ | refine w_ v_ls ?_ | refine w_ v_lr ?_ | refine w_ v_ln ?_ | refine w_ v_bd ?_ | refine w_ v_ba ?_ | refine w_ v_mf ?_ | refine w_ v_sap ?_ | refine w_ v_pkf ?_ | refine w_ v_pkt ?_ | refine w_ v_nl ?_ | refine w_ v_nn ?_ | refine e_ (f_st ?_) | refine e_ (f_al fun _ => ?_) | refine e_ (f_bx fun _ => ?_))
  refine r_loop (τ := Nat) (fun j => j ≤ 23) (fun j => 23 - j) (fun j => [(0, .v (.int .u32 n)), (4, .v (.int .i64 (ck n j))), (5, .v (.int .i64 (j + 1 : Nat)))]) (fun _ => []) 0 (by omega) ⟨rfl, rfl, rfl, trivial⟩ (List.nil_sublist _) ?_
  rintro j hj f
  repeat (first | refine r_seq ?_ | refine r_nil ?_ | refine r_region ?_ | refine r_skip ?_ | refine r_block ?_ | refine r_inBlock ?_ | refine x_ ?_ | refine w_ v_p ?_ | refine w_ v_cv ?_ | refine w_ v_and ?_ | refine w_ v_or ?_ | refine w_ v_f ?_ | refine w_ v_b ?_ | refine w_ v_r ?_ | refine w_ v_i ?_ | refine w_ v_a ?_ | refine w_ v_l ?_ | refine w_ v_la ?_ | refine w_ v_ls ?_ | refine w_ v_lr ?_ | refine w_ v_ln ?_ | refine w_ v_bd ?_ | refine w_ v_ba ?_ | refine w_ v_mf ?_ | refine w_ v_sap ?_ | refine w_ v_pkf ?_ | refine w_ v_pkt ?_ | refine w_ v_nl ?_ | refine w_ v_nn ?_ | refine e_ (f_st ?_) | refine e_ (f_al fun _ => ?_) | refine e_ (f_bx fun _ => ?_))
  refine c_ (fun h => ?_) (fun h => ?_)
  · simp only [decide_eq_true_eq] at h
    have hlt : j < 23 := by omega
    have hj1 : ((j + 1 : Nat) : Int) - 1 = (j : Int) := by omega
    have hdv : n / 2 ^ j ≤ n := Nat.div_le_self _ _
    have s1 : (n : Int) / 2 ^ (((j + 1 : Nat) : Int) - 1).toNat = ((n / 2 ^ j : Nat) : Int) := by rw [hj1]; simp
    have a1 : bw .and .u32 ((n / 2 ^ j : Nat) : Int) 1 = ((bitN n j : Nat) : Int) := an32 (n / 2 ^ j) 1 (by omega) (by omega)
    rw [← s1] at a1
    have hbt := bitN_le n j
    have hck := ck_lt n j (by omega)
    repeat (first | refine r_seq ?_ | refine r_nil ?_ | refine r_region ?_ | refine r_skip ?_ | refine r_block ?_ | refine r_inBlock ?_ | refine x_ ?_ | refine w_ v_p ?_ | refine w_ v_cv ?_ | refine w_ v_and ?_ | refine w_ v_or ?_ | refine w_ v_f ?_ | refine w_ v_b ?_ | refine w_ v_r ?_ | refine w_ v_i ?_ | refine w_ v_a ?_ | refine w_ v_l ?_ | refine w_ v_la ?_ | refine w_ v_ls ?_ | refine w_ v_lr ?_ | refine w_ v_ln ?_ | refine w_ v_bd ?_ | refine w_ v_ba ?_ | refine w_ v_mf ?_ | refine w_ v_sap ?_ | refine w_ v_pkf ?_ | refine w_ v_pkt ?_ | refine w_ v_nl ?_ | refine w_ v_nn ?_ | refine e_ (f_st ?_) | refine e_ (f_al fun _ => ?_) | refine e_ (f_bx fun _ => ?_))
    refine r_as 15 (v' := .bool (decide (bitN n j = 1))) ?_ ?_
    · show Value.bool (bw .and .u32 ((n : Int) / 2 ^ (((j + 1 : Nat) : Int) - 1).toNat) 1 == 1) = _
      rw [a1]; congr 1; rw [Bool.eq_iff_iff]; simp only [beq_iff_eq, decide_eq_true_eq]; omega
    refine c_ (fun h3 => ?_) (fun h3 => ?_)
    · simp only [decide_eq_true_eq] at h3
      have e : bw .xor .i64 (ck n j : Int) ((j + 1 : Nat) : Int) = ((ck n (j + 1) : Nat) : Int) := by
        rw [bw_xor _ _ (by omega) (by omega), ck, if_pos h3]
      repeat (first | refine r_seq ?_ | refine r_nil ?_ | refine r_region ?_ | refine r_skip ?_ | refine r_block ?_ | refine r_inBlock ?_ | refine x_ ?_ | refine w_ v_p ?_ | refine w_ v_cv ?_ | refine w_ v_and ?_ | refine w_ v_or ?_ | refine w_ v_f ?_ | refine w_ v_b ?_ | refine w_ v_r ?_ | refine w_ v_i ?_ | refine w_ v_a ?_ | refine w_ v_l ?_ | refine w_ v_la ?_ | refine w_ v_ls ?_ | refine w_ v_lr ?_ | refine w_ v_ln ?_ | refine w_ v_bd ?_ | refine w_ v_ba ?_ | refine w_ v_mf ?_ | refine w_ v_sap ?_ | refine w_ v_pkf ?_ | refine w_ v_pkt ?_ | refine w_ v_nl ?_ | refine w_ v_nn ?_ | refine e_ (f_st ?_) | refine e_ (f_al fun _ => ?_) | refine e_ (f_bx fun _ => ?_))
      exact r_again (j + 1) (by omega) (by omega) ⟨rfl, congrArg (Value.int .i64) e, rfl, trivial⟩ (List.nil_sublist _)
    · simp only [decide_eq_false_iff_not] at h3
      repeat (first | refine r_seq ?_ | refine r_nil ?_ | refine r_region ?_ | refine r_skip ?_ | refine r_block ?_ | refine r_inBlock ?_ | refine x_ ?_ | refine w_ v_p ?_ | refine w_ v_cv ?_ | refine w_ v_and ?_ | refine w_ v_or ?_ | refine w_ v_f ?_ | refine w_ v_b ?_ | refine w_ v_r ?_ | refine w_ v_i ?_ | refine w_ v_a ?_ | refine w_ v_l ?_ | refine w_ v_la ?_ | refine w_ v_ls ?_ | refine w_ v_lr ?_ | refine w_ v_ln ?_ | refine w_ v_bd ?_ | refine w_ v_ba ?_ | refine w_ v_mf ?_ | refine w_ v_sap ?_ | refine w_ v_pkf ?_ | refine w_ v_pkt ?_ | refine w_ v_nl ?_ | refine w_ v_nn ?_ | refine e_ (f_st ?_) | refine e_ (f_al fun _ => ?_) | refine e_ (f_bx fun _ => ?_))
      exact r_again (j + 1) (by omega) (by omega) ⟨rfl, by rw [ck, if_neg h3]; rfl, rfl, trivial⟩ (List.nil_sublist _)
  · simp only [decide_eq_false_iff_not] at h
    have hj2 : j = 23 := by omega
    subst hj2
    repeat (first | refine r_seq ?_ | refine r_nil ?_ | refine r_region ?_ | refine r_skip ?_ | refine r_block ?_ | refine r_inBlock ?_ | refine x_ ?_ | refine w_ v_p ?_ | refine w_ v_cv ?_ | refine w_ v_and ?_ | refine w_ v_or ?_ | refine w_ v_f ?_ | refine w_ v_b ?_ | refine w_ v_r ?_ | refine w_ v_i ?_ | refine w_ v_a ?_ | refine w_ v_l ?_ | refine w_ v_la ?_ | refine w_ v_ls ?_ | refine w_ v_lr ?_ | refine w_ v_ln ?_ | refine w_ v_bd ?_ | refine w_ v_ba ?_ | refine w_ v_mf ?_ | refine w_ v_sap ?_ | refine w_ v_pkf ?_ | refine w_ v_pkt ?_ | refine w_ v_nl ?_ | refine w_ v_nn ?_ | refine e_ (f_st ?_) | refine e_ (f_al fun _ => ?_) | refine e_ (f_bx fun _ => ?_))
    refine e_ (f_c (fun w _ => ones32_does n w hn) fun v L' h => ?_)
    obtain ⟨rfl, rfl⟩ := h
    repeat (first | refine r_seq ?_ | refine r_nil ?_ | refine r_region ?_ | refine r_skip ?_ | refine r_block ?_ | refine r_inBlock ?_ | refine x_ ?_ | refine w_ v_p ?_ | refine w_ v_cv ?_ | refine w_ v_and ?_ | refine w_ v_or ?_ | refine w_ v_f ?_ | refine w_ v_b ?_ | refine w_ v_r ?_ | refine w_ v_i ?_ | refine w_ v_a ?_ | refine w_ v_l ?_ | refine w_ v_la ?_ | refine w_ v_ls ?_ | refine w_ v_lr ?_ | refine w_ v_ln ?_ | refine w_ v_bd ?_ | refine w_ v_ba ?_ | refine w_ v_mf ?_ | refine w_ v_sap ?_ | refine w_ v_pkf ?_ | refine w_ v_pkt ?_ | refine w_ v_nl ?_ | refine w_ v_nn ?_ | refine e_ (f_st ?_) | refine e_ (f_al fun _ => ?_) | refine e_ (f_bx fun _ => ?_))
    refine t_ rfl (.tmp rfl (.tmp rfl .nil)) (List.nil_sublist _) ⟨?_, rfl⟩
    have e : ((pop n : Int) % 2 == 1) = (pop n % 2 == 1) := by rw [Bool.eq_iff_iff]; simp only [beq_iff_eq]; omega
    rw [← e]; rfl

theorem data_does (p : Nat) (w : World) (hp : 1 ≤ p ∧ p < 2 ^ 32) : Does Tryz.prog 251 [.int .i64 p] w [] (fun v L => v = .bool (isData p) ∧ L = []) := by
  refine does_of Tryz.func251 rfl rfl ?_
  have hp1 : (p : Int) - 1 = ((p - 1 : Nat) : Int) := by omega
  have e : bw .and .i64 (p : Int) ((p : Int) - 1) = ((p &&& (p - 1) : Nat) : Int) := by rw [hp1]; exact bw_and _ _ (by omega) (by omega)
  repeat (first | refine r_seq ?_ | refine r_nil ?_ | refine r_region ?_ | refine r_skip ?_ | refine r_block ?_ | refine r_inBlock ?_ | refine x_ ?_ | refine w_ v_p ?_ | refine w_ v_cv ?_ | refine w_ v_and ?_ | refine w_ v_or ?_ | refine w_ v_f ?_ | refine w_ v_b ?_ | refine w_ v_r ?_ | refine w_ v_i ?_ | refine w_ v_a ?_ | refine w_ v_l ?_ | refine w_ v_la ?_ | refine w_ v_ls ?_ | refine w_ v_lr ?_ | refine w_ v_ln ?_ | refine w_ v_bd ?_ | refine w_ v_ba ?_ | refine w_ v_mf ?_ | refine w_ v_sap ?_ | refine w_ v_pkf ?_ | refine w_ v_pkt ?_ | refine w_ v_nl ?_ | refine w_ v_nn ?_ | refine e_ (f_st ?_) | refine e_ (f_al fun _ => ?_) | refine e_ (f_bx fun _ => ?_))
  refine t_ rfl (.tmp rfl .nil) (List.nil_sublist _) ⟨?_, rfl⟩
  show Value.bool (decide ((p : Int) < 24) && (bw .and .i64 (p : Int) ((p : Int) - 1) != 0)) = _
  rw [e, isData]
  congr 1
  rw [Bool.eq_iff_iff]
  simp only [Bool.and_eq_true, decide_eq_true_eq, bne_iff_ne, ne_eq]
  omega

theorem number24_does (n : Nat) (w : World) (hn : n < 2 ^ 24) : Does Tryz.prog 230 [.int .u32 n] w [] (fun v L => v = .int .i64 (e24 n 18) ∧ L = []) := by
  refine does_of Tryz.func230 rfl rfl ?_
  repeat (first | refine r_seq ?_ | refine r_nil ?_ | refine r_region ?_ | refine r_skip ?_ | refine r_block ?_ | refine r_inBlock ?_ | refine x_ ?_ | refine w_ v_p ?_ | refine w_ v_cv ?_ | refine w_ v_and ?_ | refine w_ v_or ?_ | refine w_ v_f ?_ | refine w_ v_b ?_ | refine w_ v_r ?_ | refine w_ v_i ?_ | refine w_ v_a ?_ | refine w_ v_l ?_ | refine w_ v_la ?_ | refine w_ v_ls ?_ | refine w_ v_lr ?_ | refine w_ v_ln ?_ | refine w_ v_bd ?_ | refine w_ v_ba ?_ | refine w_ v_mf ?_ | refine w_ v_sap ?_ | refine w_ v_pkf ?_ | refine w_ v_pkt ?_ | refine w_ v_nl ?_ | refine w_ v_nn ?_ | refine e_ (f_st ?_) | refine e_ (f_al fun _ => ?_) | refine e_ (f_bx fun _ => ?_))
  refine r_loop (τ := Nat) (fun j => j ≤ 23) (fun j => 23 - j) (fun j => [(0, .v (.int .u32 n)), (3, .v (.int .i64 (e24 n (kOf j)))), (4, .v (.int .i64 (kOf j))), (5, .v (.int .i64 (j + 1 : Nat)))]) (fun _ => []) 0 (by omega) ⟨rfl, rfl, rfl, rfl, trivial⟩ (List.nil_sublist _) ?_
  rintro j hj f
  repeat (first | refine r_seq ?_ | refine r_nil ?_ | refine r_region ?_ | refine r_skip ?_ | refine r_block ?_ | refine r_inBlock ?_ | refine x_ ?_ | refine w_ v_p ?_ | refine w_ v_cv ?_ | refine w_ v_and ?_ | refine w_ v_or ?_ | refine w_ v_f ?_ | refine w_ v_b ?_ | refine w_ v_r ?_ | refine w_ v_i ?_ | refine w_ v_a ?_ | refine w_ v_l ?_ | refine w_ v_la ?_ | refine w_ v_ls ?_ | refine w_ v_lr ?_ | refine w_ v_ln ?_ | refine w_ v_bd ?_ | refine w_ v_ba ?_ | refine w_ v_mf ?_ | refine w_ v_sap ?_ | refine w_ v_pkf ?_ | refine w_ v_pkt ?_ | refine w_ v_nl ?_ | refine w_ v_nn ?_ | refine e_ (f_st ?_) | refine e_ (f_al fun _ => ?_) | refine e_ (f_bx fun _ => ?_))
  refine c_ (fun h => ?_) (fun h => ?_)
  · simp only [decide_eq_true_eq] at h
    have hlt : j < 23 := by omega
    repeat (first | refine r_seq ?_ | refine r_nil ?_ | refine r_region ?_ | refine r_skip ?_ | refine r_block ?_ | refine r_inBlock ?_ | refine x_ ?_ | refine w_ v_p ?_ | refine w_ v_cv ?_ | refine w_ v_and ?_ | refine w_ v_or ?_ | refine w_ v_f ?_ | refine w_ v_b ?_ | refine w_ v_r ?_ | refine w_ v_i ?_ | refine w_ v_a ?_ | refine w_ v_l ?_ | refine w_ v_la ?_ | refine w_ v_ls ?_ | refine w_ v_lr ?_ | refine w_ v_ln ?_ | refine w_ v_bd ?_ | refine w_ v_ba ?_ | refine w_ v_mf ?_ | refine w_ v_sap ?_ | refine w_ v_pkf ?_ | refine w_ v_pkt ?_ | refine w_ v_nl ?_ | refine w_ v_nn ?_ | refine e_ (f_st ?_) | refine e_ (f_al fun _ => ?_) | refine e_ (f_bx fun _ => ?_))
    refine e_ (f_c (fun w _ => data_does (j + 1) w (by omega)) fun v L' h => ?_)
    obtain ⟨rfl, rfl⟩ := h
    have hk := kOf_data j hlt
    repeat (first | refine r_seq ?_ | refine r_nil ?_ | refine r_region ?_ | refine r_skip ?_ | refine r_block ?_ | refine r_inBlock ?_ | refine x_ ?_ | refine w_ v_p ?_ | refine w_ v_cv ?_ | refine w_ v_and ?_ | refine w_ v_or ?_ | refine w_ v_f ?_ | refine w_ v_b ?_ | refine w_ v_r ?_ | refine w_ v_i ?_ | refine w_ v_a ?_ | refine w_ v_l ?_ | refine w_ v_la ?_ | refine w_ v_ls ?_ | refine w_ v_lr ?_ | refine w_ v_ln ?_ | refine w_ v_bd ?_ | refine w_ v_ba ?_ | refine w_ v_mf ?_ | refine w_ v_sap ?_ | refine w_ v_pkf ?_ | refine w_ v_pkt ?_ | refine w_ v_nl ?_ | refine w_ v_nn ?_ | refine e_ (f_st ?_) | refine e_ (f_al fun _ => ?_) | refine e_ (f_bx fun _ => ?_))
    refine c_ (fun h3 => ?_) (fun h3 => ?_)
    · obtain ⟨k1, k2, k3⟩ := hk.1 h3
      have hj1 : ((j + 1 : Nat) : Int) - 1 = (j : Int) := by omega
      have hdv : n / 2 ^ j ≤ n := Nat.div_le_self _ _
      have s1 : (n : Int) / 2 ^ (((j + 1 : Nat) : Int) - 1).toNat = ((n / 2 ^ j : Nat) : Int) := by rw [hj1]; simp
      have a1 : bw .and .u32 ((n / 2 ^ j : Nat) : Int) 1 = ((bitN n j : Nat) : Int) := an32 (n / 2 ^ j) 1 (by omega) (by omega)
      rw [← s1] at a1
      have hbt := bitN_le n j
      have hel := e24_lt n (kOf j)
      have hpw : 2 ^ kOf j ≤ 2 ^ 17 := Nat.pow_le_pow_right (by omega) (by omega)
      have hm : bitN n j * 2 ^ kOf j ≤ 1 * 2 ^ kOf j := Nat.mul_le_mul_right _ hbt
      have e : bw .or .i64 (e24 n (kOf j) : Int) (shl .i64 ((bitN n j : Nat) : Int) ((kOf j : Nat) : Int)) = ((e24 n (kOf (j + 1)) : Nat) : Int) := by
        rw [os (e24 n (kOf j)) (bitN n j) (kOf j) hel (by omega) (by omega), k1, e24, k2, Nat.add_sub_cancel]
      repeat (first | refine w_ (v_cv (hc := (congrArg IntKind.i64.wrap a1).trans (wrap_i64 (by omega)))) ?_ | refine r_seq ?_ | refine r_nil ?_ | refine r_region ?_ | refine r_skip ?_ | refine r_block ?_ | refine r_inBlock ?_ | refine x_ ?_ | refine w_ v_p ?_ | refine w_ v_cv ?_ | refine w_ v_and ?_ | refine w_ v_or ?_ | refine w_ v_f ?_ | refine w_ v_b ?_ | refine w_ v_r ?_ | refine w_ v_i ?_ | refine w_ v_a ?_ | refine w_ v_l ?_ | refine w_ v_la ?_ | refine w_ v_ls ?_ | refine w_ v_lr ?_ | refine w_ v_ln ?_ | refine w_ v_bd ?_ | refine w_ v_ba ?_ | refine w_ v_mf ?_ | refine w_ v_sap ?_ | refine w_ v_pkf ?_ | refine w_ v_pkt ?_ | refine w_ v_nl ?_ | refine w_ v_nn ?_ | refine e_ (f_st ?_) | refine e_ (f_al fun _ => ?_) | refine e_ (f_bx fun _ => ?_))
      exact r_again (j + 1) (by omega) (by omega) ⟨rfl, congrArg (Value.int .i64) e, congrArg (Value.int .i64) (by rw [k1]; omega), rfl, trivial⟩ (List.nil_sublist _)
    · repeat (first | refine r_seq ?_ | refine r_nil ?_ | refine r_region ?_ | refine r_skip ?_ | refine r_block ?_ | refine r_inBlock ?_ | refine x_ ?_ | refine w_ v_p ?_ | refine w_ v_cv ?_ | refine w_ v_and ?_ | refine w_ v_or ?_ | refine w_ v_f ?_ | refine w_ v_b ?_ | refine w_ v_r ?_ | refine w_ v_i ?_ | refine w_ v_a ?_ | refine w_ v_l ?_ | refine w_ v_la ?_ | refine w_ v_ls ?_ | refine w_ v_lr ?_ | refine w_ v_ln ?_ | refine w_ v_bd ?_ | refine w_ v_ba ?_ | refine w_ v_mf ?_ | refine w_ v_sap ?_ | refine w_ v_pkf ?_ | refine w_ v_pkt ?_ | refine w_ v_nl ?_ | refine w_ v_nn ?_ | refine e_ (f_st ?_) | refine e_ (f_al fun _ => ?_) | refine e_ (f_bx fun _ => ?_))
      exact r_again (j + 1) (by omega) (by omega) ⟨rfl, by rw [hk.2 h3]; rfl, by rw [hk.2 h3]; rfl, rfl, trivial⟩ (List.nil_sublist _)
  · simp only [decide_eq_false_iff_not] at h
    have hj2 : j = 23 := by omega
    subst hj2
    repeat (first | refine r_seq ?_ | refine r_nil ?_ | refine r_region ?_ | refine r_skip ?_ | refine r_block ?_ | refine r_inBlock ?_ | refine x_ ?_ | refine w_ v_p ?_ | refine w_ v_cv ?_ | refine w_ v_and ?_ | refine w_ v_or ?_ | refine w_ v_f ?_ | refine w_ v_b ?_ | refine w_ v_r ?_ | refine w_ v_i ?_ | refine w_ v_a ?_ | refine w_ v_l ?_ | refine w_ v_la ?_ | refine w_ v_ls ?_ | refine w_ v_lr ?_ | refine w_ v_ln ?_ | refine w_ v_bd ?_ | refine w_ v_ba ?_ | refine w_ v_mf ?_ | refine w_ v_sap ?_ | refine w_ v_pkf ?_ | refine w_ v_pkt ?_ | refine w_ v_nl ?_ | refine w_ v_nn ?_ | refine e_ (f_st ?_) | refine e_ (f_al fun _ => ?_) | refine e_ (f_bx fun _ => ?_))
    exact t_ rfl (.tmp rfl .nil) (List.nil_sublist _) ⟨rfl, rfl⟩

theorem get24_does (b0 b1 b2 : UInt8) (w : World) : Does Tryz.prog 190 [.agg (bys [b0, b1, b2]).toArray] w [] (fun v L => v = .tuple #[.int .i64 ((get24M (w24 b0 b1 b2)).getD 0), .bool (get24M (w24 b0 b1 b2)).isSome] ∧ L = []) := by
  refine does_of Tryz.func190 rfl rfl ?_
  have h0 := b0.toNat_lt
  have h1 := b1.toNat_lt
  have h2 := b2.toNat_lt
  have hw := w24_lt b0 b1 b2
  have e1 : bw .or .u32 (b0.toNat : Int) (shl .u32 (b1.toNat : Int) 8) = ((b0.toNat + b1.toNat * 2 ^ 8 : Nat) : Int) := os32 b0.toNat b1.toNat 8 (by omega) (by omega) (by omega)
  have e2 : bw .or .u32 ((b0.toNat + b1.toNat * 2 ^ 8 : Nat) : Int) (shl .u32 (b2.toNat : Int) 16) = ((w24 b0 b1 b2 : Nat) : Int) := os32 _ b2.toNat 16 (by omega) (by omega) (by omega)
  rw [← e1] at e2
  repeat (first | refine w_ (v_cv (hc := wrap_u32 (by omega))) ?_ | refine r_seq ?_ | refine r_nil ?_ | refine r_region ?_ | refine r_skip ?_ | refine r_block ?_ | refine r_inBlock ?_ | refine x_ ?_ | refine w_ v_p ?_ | refine w_ v_cv ?_ | refine w_ v_and ?_ | refine w_ v_or ?_ | refine w_ v_f ?_ | refine w_ v_b ?_ | refine w_ v_r ?_ | refine w_ v_i ?_ | refine w_ v_a ?_ | refine w_ v_l ?_ | refine w_ v_la ?_ | refine w_ v_ls ?_ | refine w_ v_lr ?_ | refine w_ v_ln ?_ | refine w_ v_bd ?_ | refine w_ v_ba ?_ | refine w_ v_mf ?_ | refine w_ v_sap ?_ | refine w_ v_pkf ?_ | refine w_ v_pkt ?_ | refine w_ v_nl ?_ | refine w_ v_nn ?_ | refine e_ (f_st ?_) | refine e_ (f_al fun _ => ?_) | refine e_ (f_bx fun _ => ?_))
  refine r_as 4 (congrArg (Value.int .u32) e2) ?_
  refine r_as 22 (congrArg (Value.int .u32) e2) ?_
  generalize w24 b0 b1 b2 = n at *
  clear e2 e1
  have hck := ck_lt n 23 (by omega)
  refine e_ (f_c (fun w _ => check_does n w hw) fun v L' h => ?_)
  obtain ⟨rfl, rfl⟩ := h
  have e3 : bw .xor .i64 (ck n 23 : Int) 31 = ((ck n 23 ^^^ 31 : Nat) : Int) := bw_xor _ 31 (by omega) (by decide)
  repeat (first | refine r_seq ?_ | refine r_nil ?_ | refine r_region ?_ | refine r_skip ?_ | refine r_block ?_ | refine r_inBlock ?_ | refine x_ ?_ | refine w_ v_p ?_ | refine w_ v_cv ?_ | refine w_ v_and ?_ | refine w_ v_or ?_ | refine w_ v_f ?_ | refine w_ v_b ?_ | refine w_ v_r ?_ | refine w_ v_i ?_ | refine w_ v_a ?_ | refine w_ v_l ?_ | refine w_ v_la ?_ | refine w_ v_ls ?_ | refine w_ v_lr ?_ | refine w_ v_ln ?_ | refine w_ v_bd ?_ | refine w_ v_ba ?_ | refine w_ v_mf ?_ | refine w_ v_sap ?_ | refine w_ v_pkf ?_ | refine w_ v_pkt ?_ | refine w_ v_nl ?_ | refine w_ v_nn ?_ | refine e_ (f_st ?_) | refine e_ (f_al fun _ => ?_) | refine e_ (f_bx fun _ => ?_))
  refine r_as 7 (congrArg (Value.int .i64) e3) ?_
  have hx : ck n 23 ^^^ 31 < 32 := xor_lt (k := 5) hck (by decide)
  refine r_as 28 (v' := .bool (decide (ck n 23 ^^^ 31 = 0))) ?_ ?_
  · show Value.bool (bw .xor .i64 (ck n 23 : Int) 31 == 0) = _
    rw [e3]; congr 1; rw [Bool.eq_iff_iff]; simp only [beq_iff_eq, decide_eq_true_eq]; omega
  refine c_ (fun h3 => ?_) (fun h3 => ?_)
  · simp only [decide_eq_true_eq] at h3
    repeat (first | refine r_seq ?_ | refine r_nil ?_ | refine r_region ?_ | refine r_skip ?_ | refine r_block ?_ | refine r_inBlock ?_ | refine x_ ?_ | refine w_ v_p ?_ | refine w_ v_cv ?_ | refine w_ v_and ?_ | refine w_ v_or ?_ | refine w_ v_f ?_ | refine w_ v_b ?_ | refine w_ v_r ?_ | refine w_ v_i ?_ | refine w_ v_a ?_ | refine w_ v_l ?_ | refine w_ v_la ?_ | refine w_ v_ls ?_ | refine w_ v_lr ?_ | refine w_ v_ln ?_ | refine w_ v_bd ?_ | refine w_ v_ba ?_ | refine w_ v_mf ?_ | refine w_ v_sap ?_ | refine w_ v_pkf ?_ | refine w_ v_pkt ?_ | refine w_ v_nl ?_ | refine w_ v_nn ?_ | refine e_ (f_st ?_) | refine e_ (f_al fun _ => ?_) | refine e_ (f_bx fun _ => ?_))
    refine e_ (f_c (fun w _ => number24_does n w hw) fun v L' h => ?_)
    obtain ⟨rfl, rfl⟩ := h
    repeat (first | refine r_seq ?_ | refine r_nil ?_ | refine r_region ?_ | refine r_skip ?_ | refine r_block ?_ | refine r_inBlock ?_ | refine x_ ?_ | refine w_ v_p ?_ | refine w_ v_cv ?_ | refine w_ v_and ?_ | refine w_ v_or ?_ | refine w_ v_f ?_ | refine w_ v_b ?_ | refine w_ v_r ?_ | refine w_ v_i ?_ | refine w_ v_a ?_ | refine w_ v_l ?_ | refine w_ v_la ?_ | refine w_ v_ls ?_ | refine w_ v_lr ?_ | refine w_ v_ln ?_ | refine w_ v_bd ?_ | refine w_ v_ba ?_ | refine w_ v_mf ?_ | refine w_ v_sap ?_ | refine w_ v_pkf ?_ | refine w_ v_pkt ?_ | refine w_ v_nl ?_ | refine w_ v_nn ?_ | refine e_ (f_st ?_) | refine e_ (f_al fun _ => ?_) | refine e_ (f_bx fun _ => ?_))
    refine t_ rfl (.tmp rfl (.tmp rfl .nil)) (List.nil_sublist _) ⟨?_, rfl⟩
    simp only [get24M, if_pos h3]; rfl
  · simp only [decide_eq_false_iff_not] at h3
    repeat (first | refine r_seq ?_ | refine r_nil ?_ | refine r_region ?_ | refine r_skip ?_ | refine r_block ?_ | refine r_inBlock ?_ | refine x_ ?_ | refine w_ v_p ?_ | refine w_ v_cv ?_ | refine w_ v_and ?_ | refine w_ v_or ?_ | refine w_ v_f ?_ | refine w_ v_b ?_ | refine w_ v_r ?_ | refine w_ v_i ?_ | refine w_ v_a ?_ | refine w_ v_l ?_ | refine w_ v_la ?_ | refine w_ v_ls ?_ | refine w_ v_lr ?_ | refine w_ v_ln ?_ | refine w_ v_bd ?_ | refine w_ v_ba ?_ | refine w_ v_mf ?_ | refine w_ v_sap ?_ | refine w_ v_pkf ?_ | refine w_ v_pkt ?_ | refine w_ v_nl ?_ | refine w_ v_nn ?_ | refine e_ (f_st ?_) | refine e_ (f_al fun _ => ?_) | refine e_ (f_bx fun _ => ?_))
    refine c_ (fun h4 => ?_) (fun h4 => ?_)
    · simp only [Bool.or_eq_true, decide_eq_true_eq, beq_iff_eq] at h4
      repeat (first | refine r_seq ?_ | refine r_nil ?_ | refine r_region ?_ | refine r_skip ?_ | refine r_block ?_ | refine r_inBlock ?_ | refine x_ ?_ | refine w_ v_p ?_ | refine w_ v_cv ?_ | refine w_ v_and ?_ | refine w_ v_or ?_ | refine w_ v_f ?_ | refine w_ v_b ?_ | refine w_ v_r ?_ | refine w_ v_i ?_ | refine w_ v_a ?_ | refine w_ v_l ?_ | refine w_ v_la ?_ | refine w_ v_ls ?_ | refine w_ v_lr ?_ | refine w_ v_ln ?_ | refine w_ v_bd ?_ | refine w_ v_ba ?_ | refine w_ v_mf ?_ | refine w_ v_sap ?_ | refine w_ v_pkf ?_ | refine w_ v_pkt ?_ | refine w_ v_nl ?_ | refine w_ v_nn ?_ | refine e_ (f_st ?_) | refine e_ (f_al fun _ => ?_) | refine e_ (f_bx fun _ => ?_))
      refine t_ rfl (.tmp rfl (.tmp rfl .nil)) (List.nil_sublist _) ⟨?_, rfl⟩
      simp only [get24M, if_neg h3]
      rw [if_pos (by omega)]; rfl
    · simp only [Bool.or_eq_false_iff, decide_eq_false_iff_not, beq_eq_false_iff_ne] at h4
      generalize hat : ck n 23 ^^^ 31 = at' at *
      have ha1 : ((at' : Nat) : Int) - 1 = ((at' - 1 : Nat) : Int) := by omega
      have hpw : 2 ^ (at' - 1) ≤ 2 ^ 22 := Nat.pow_le_pow_right (by omega) (by omega)
      have s1 : shl .u32 1 ((at' : Int) - 1) = ((2 ^ (at' - 1) : Nat) : Int) := by
        have := shl32 1 (at' - 1) (by omega) (by omega)
        rw [Nat.one_mul] at this
        rw [ha1]; exact this
      have x1 : bw .xor .u32 (n : Int) ((2 ^ (at' - 1) : Nat) : Int) = ((n ^^^ 2 ^ (at' - 1) : Nat) : Int) := bw_xor32 _ _ (by omega) (by omega)
      rw [← s1] at x1
      have hlt : n ^^^ 2 ^ (at' - 1) < 2 ^ 24 := xor_lt hw (by omega)
      repeat (first | refine r_seq ?_ | refine r_nil ?_ | refine r_region ?_ | refine r_skip ?_ | refine r_block ?_ | refine r_inBlock ?_ | refine x_ ?_ | refine w_ v_p ?_ | refine w_ v_cv ?_ | refine w_ v_and ?_ | refine w_ v_or ?_ | refine w_ v_f ?_ | refine w_ v_b ?_ | refine w_ v_r ?_ | refine w_ v_i ?_ | refine w_ v_a ?_ | refine w_ v_l ?_ | refine w_ v_la ?_ | refine w_ v_ls ?_ | refine w_ v_lr ?_ | refine w_ v_ln ?_ | refine w_ v_bd ?_ | refine w_ v_ba ?_ | refine w_ v_mf ?_ | refine w_ v_sap ?_ | refine w_ v_pkf ?_ | refine w_ v_pkt ?_ | refine w_ v_nl ?_ | refine w_ v_nn ?_ | refine e_ (f_st ?_) | refine e_ (f_al fun _ => ?_) | refine e_ (f_bx fun _ => ?_))
      refine r_as 43 (congrArg (Value.int .u32) x1) ?_
      refine e_ (f_c (fun w _ => number24_does _ w hlt) fun v L' h => ?_)
      obtain ⟨rfl, rfl⟩ := h
      repeat (first | refine r_seq ?_ | refine r_nil ?_ | refine r_region ?_ | refine r_skip ?_ | refine r_block ?_ | refine r_inBlock ?_ | refine x_ ?_ | refine w_ v_p ?_ | refine w_ v_cv ?_ | refine w_ v_and ?_ | refine w_ v_or ?_ | refine w_ v_f ?_ | refine w_ v_b ?_ | refine w_ v_r ?_ | refine w_ v_i ?_ | refine w_ v_a ?_ | refine w_ v_l ?_ | refine w_ v_la ?_ | refine w_ v_ls ?_ | refine w_ v_lr ?_ | refine w_ v_ln ?_ | refine w_ v_bd ?_ | refine w_ v_ba ?_ | refine w_ v_mf ?_ | refine w_ v_sap ?_ | refine w_ v_pkf ?_ | refine w_ v_pkt ?_ | refine w_ v_nl ?_ | refine w_ v_nn ?_ | refine e_ (f_st ?_) | refine e_ (f_al fun _ => ?_) | refine e_ (f_bx fun _ => ?_))
      refine t_ rfl (.tmp rfl (.tmp rfl .nil)) (List.nil_sublist _) ⟨?_, rfl⟩
      simp only [get24M, hat, if_neg h3]
      rw [if_neg (by omega)]; rfl
end Go.Proofs

