/-
  Contracts: heads; coded bytes.
-/
import Derived.Test.YtdjgkbphbffleaaGreatDoorA03
namespace Go.Cf

theorem or_add (a b k : Nat) (h : a < 2 ^ k) : a ||| b * 2 ^ k = a + b * 2 ^ k := by
  have := Nat.shiftLeft_add_eq_or_of_lt h b
  rw [Nat.shiftLeft_eq] at this
  rw [Nat.or_comm, ← this]; omega

theorem os (a b k : Nat) (ha : a < 2 ^ k) (hk : k ≤ 60) (hb : b * 2 ^ k < 2 ^ 62) : bw .or .i64 (a : Int) (shl .i64 (b : Int) (k : Int)) = ((a + b * 2 ^ k : Nat) : Int) := by
  have h3 : 2 ^ k ≤ 2 ^ 60 := Nat.pow_le_pow_right (by omega) hk
  rw [shl_nat b k (by omega) (by omega), bw_or a (b * 2 ^ k) (by omega) (by omega), or_add a b k ha]

theorem an (a k : Nat) (h : a < 2 ^ 62) (hk : k ≤ 60) : bw .and .i64 (a : Int) ((2 ^ k - 1 : Nat) : Int) = ((a % 2 ^ k : Nat) : Int) := by
  have h3 : 2 ^ k ≤ 2 ^ 60 := Nat.pow_le_pow_right (by omega) hk
  rw [bw_and a _ (by omega) (by omega), Nat.and_two_pow_sub_one_eq_mod]

structure Pl where
  mag : Nat
  page : Nat
  sub : Nat
  deriving DecidableEq

abbrev plC (p : Pl) : List Value := [.int .i64 p.mag, .int .i64 p.page, .int .i64 p.sub]

/-- The page, the part of six nibbles. -/
def nibPage (n0 n1 : Nat) : Nat := n0 + n1 * 2 ^ 4
def nibSub (n2 n3 n4 n5 : Nat) : Nat := n2 + n3 % 8 * 2 ^ 4 + n4 * 2 ^ 8 + n5 % 4 * 2 ^ 12

/-- What a head says. -/
structure Hd where
  pl : Pl
  c : Nat → Bool
  opt : Nat

def boolN (b : Bool) : Nat := if b then 1 else 0
def optOf (c : Nat → Bool) : Nat := 4 * boolN (c 8) + 2 * boolN (c 9) + boolN (c 10)
abbrev hdC (h : Hd) : List Value := [.int .i64 h.pl.mag, .int .i64 h.pl.page, .int .i64 h.pl.sub, .bool (h.c 0), .bool (h.c 1), .bool (h.c 2), .bool (h.c 3), .bool (h.c 4), .bool (h.c 5), .bool (h.c 6), .bool (h.c 7), .bool (h.c 8), .bool (h.c 9), .bool (h.c 10), .int .i64 h.opt]

def updB (c : Nat → Bool) (i : Nat) (v : Bool) : Nat → Bool := fun k => if k = i then v else c k

theorem hd_set (pl : Pl) (c : Nat → Bool) (o : Nat) (v : Bool) (i : Nat) (h : i < 11) : splice (hdC ⟨pl, c, o⟩) (3 + ((i : Nat) : Int).toNat * 1) [.bool v] = hdC ⟨pl, updB c i v, o⟩ := by
  match i, h with
  | 0, _ => rfl
  | 1, _ => rfl
  | 2, _ => rfl
  | 3, _ => rfl
  | 4, _ => rfl
  | 5, _ => rfl
  | 6, _ => rfl
  | 7, _ => rfl
  | 8, _ => rfl
  | 9, _ => rfl
  | 10, _ => rfl

def lowB (c : Nat → Bool) (i : Nat) : Nat → Bool := fun k => if k < i then c k else false
theorem lowB_succ (c : Nat → Bool) (i : Nat) : updB (lowB c i) i (c i) = lowB c (i + 1) := by
  funext k
  simp only [updB, lowB]
  by_cases h : k = i
  · subst h; simp
  · by_cases h2 : k < i
    · have : k < i + 1 := by omega
      simp [h, h2, this]
    · have : ¬ k < i + 1 := by omega
      simp [h, h2, this]
theorem hdC_low (pl : Pl) (c : Nat → Bool) (o : Nat) : hdC ⟨pl, lowB c 11, o⟩ = hdC ⟨pl, c, o⟩ := rfl

def flagB (flags : Nat) : Nat → Bool := fun k => decide (flags / 2 ^ k % 2 = 1)
theorem flagB_bw (flags i : Nat) (h : flags < 2 ^ 60) : (bw .and .i64 ((flags : Int) / 2 ^ ((i : Nat) : Int).toNat) 1 == 1) = flagB flags i := by
  have h1 : ((flags : Int) / 2 ^ ((i : Nat) : Int).toNat) = ((flags / 2 ^ i : Nat) : Int) := by simp
  have h2 : flags / 2 ^ i ≤ flags := Nat.div_le_self _ _
  have h3 : bw .and .i64 ((flags / 2 ^ i : Nat) : Int) 1 = ((flags / 2 ^ i % 2 ^ 1 : Nat) : Int) := an _ 1 (by omega) (by omega)
  rw [h1, h3, flagB, Bool.eq_iff_iff]
  simp only [beq_iff_eq, decide_eq_true_eq, Nat.pow_one]
  omega

/-- A head of nibbles. -/
def headOf (mag : Nat) (n0 n1 n2 n3 n4 n5 n6 n7 : Nat) : Hd :=
  let c := flagB (n3 / 8 + n5 / 4 * 2 ^ 1 + n6 * 2 ^ 3 + n7 * 2 ^ 7)
  ⟨⟨mag, nibPage n0 n1, nibSub n2 n3 n4 n5⟩, c, optOf c⟩

/-- The head of a packet and its text, or the error's number. -/
def readH (k : Pk) : Except Nat (Hd × List UInt8) :=
  if k.kind ≠ 1 then .error 3 else
  match hamOpen (partOf k.data 0 8) with
  | some [n0, n1, n2, n3, n4, n5, n6, n7] => .ok (headOf k.mag n0 n1 n2 n3 n4 n5 n6 n7, partOf k.data 8 32)
  | _ => .error 2
end Go.Cf

namespace Go.Proofs
open Go.Cf
set_option maxRecDepth 10000

theorem of_does (n0 n1 n2 n3 n4 n5 : Nat) (r : List Nat) (p : Option Addr) (c m : Nat) (w : World) (hm : (n0 :: n1 :: n2 :: n3 :: n4 :: n5 :: r).length = m) (h0 : n0 < 16) (h1 : n1 < 16) (h2 : n2 < 16) (h3 : n3 < 16) (h4 : n4 < 16) (h5 : n5 < 16)
    (hs : Sl w [] p m 1 (nums (n0 :: n1 :: n2 :: n3 :: n4 :: n5 :: r))) :
    Does Tryz.prog 126 [.slice p m c] w [] (fun v L => v = .tuple #[.agg (plC ⟨0, nibPage n0 n1, nibSub n2 n3 n4 n5⟩).toArray, .int .i64 (n3 / 8 : Nat), .int .i64 (n5 / 4 : Nat)] ∧ L = []) := by
  refine does_of Tryz.func126 rfl rfl ?_
  have hm6 : 6 ≤ m := by rw [← hm]; simp
  repeat (first | refine e_ (f_al fun b0 => ?_) | refine r_seq ?_ | refine r_nil ?_ | refine r_region ?_ | refine r_skip ?_ | refine r_block ?_ | refine r_inBlock ?_ | refine x_ ?_ | refine w_ v_p ?_ | refine w_ v_cv ?_ | refine w_ v_and ?_ | refine w_ v_or ?_ | refine w_ v_f ?_ | refine w_ v_b ?_ | refine w_ v_r ?_ | refine w_ v_i ?_ | refine w_ v_a ?_ | refine w_ v_l ?_ | refine w_ v_la ?_ | refine w_ v_ls ?_ | refine w_ v_lr ?_ | refine w_ v_ln ?_ | refine w_ v_bd ?_ | refine w_ v_mf ?_ | refine e_ (f_st ?_) | refine e_ (f_al fun _ => ?_) | refine e_ (f_bx fun _ => ?_))
  refine d_in ([]) [] ?_
  first | (refine dp 0 ?_; first | refine tp (fun _ => v_p) ?_)
  first | (refine dp 1 ?_; first | refine tp (fun _ => v_a) ?_ | refine tp (fun _ => v_i) ?_) | (refine dw 1 ?_; first | refine tw (v_b) ?_ | refine tw (v_r) ?_)
  first | (refine dw 2 ?_; first | refine tw (v_l) ?_ | refine tw (v_la) ?_ | refine tw (v_ls) ?_ | refine tw (v_lr) ?_ | refine tw ((v_ge hG)) ?_)
  first | (refine dp 3 ?_; first | refine tp (fun _ => v_p) ?_)
  first | (refine dp 4 ?_; first | refine tp (fun _ => v_a) ?_ | refine tp (fun _ => v_i) ?_) | (refine dw 4 ?_; first | refine tw (v_b) ?_ | refine tw (v_r) ?_)
  first | (refine dw 5 ?_; first | refine tw (v_l) ?_ | refine tw (v_la) ?_ | refine tw (v_ls) ?_ | refine tw (v_lr) ?_ | refine tw ((v_ge hG)) ?_)
  first | (refine dp 6 ?_; first | refine tp (fun _ => v_p) ?_ | refine tp (fun _ => v_nl) ?_ | refine tp (fun _ => v_nn) ?_ | refine tp (fun _ => v_bq) ?_)
  first | (refine dp 7 ?_; first | refine tp (fun _ => v_p) ?_ | refine tp (fun _ => v_nl) ?_ | refine tp (fun _ => v_nn) ?_ | refine tp (fun _ => v_bq) ?_)
  first | (refine dp 8 ?_; first | refine tp (fun _ => v_p) ?_)
  first | (refine dp 9 ?_; first | refine tp (fun _ => v_a) ?_ | refine tp (fun _ => v_i) ?_) | (refine dw 9 ?_; first | refine tw (v_b) ?_ | refine tw (v_r) ?_)
  first | (refine dw 10 ?_; first | refine tw (v_l) ?_ | refine tw (v_la) ?_ | refine tw (v_ls) ?_ | refine tw (v_lr) ?_ | refine tw ((v_ge hG)) ?_)
  first | (refine dp 11 ?_; first | refine tp (fun _ => v_p) ?_)
  first | (refine dp 12 ?_; first | refine tp (fun _ => v_a) ?_ | refine tp (fun _ => v_i) ?_) | (refine dw 12 ?_; first | refine tw (v_b) ?_ | refine tw (v_r) ?_)
  first | (refine dw 13 ?_; first | refine tw (v_l) ?_ | refine tw (v_la) ?_ | refine tw (v_ls) ?_ | refine tw (v_lr) ?_ | refine tw ((v_ge hG)) ?_)
  first | (refine dp 14 ?_; first | refine tp (fun _ => v_p) ?_ | refine tp (fun _ => v_nl) ?_ | refine tp (fun _ => v_nn) ?_ | refine tp (fun _ => v_bq) ?_)
  first | (refine dp 15 ?_; first | refine tp (fun _ => v_p) ?_ | refine tp (fun _ => v_nl) ?_ | refine tp (fun _ => v_nn) ?_ | refine tp (fun _ => v_bq) ?_)
  first | (refine dp 16 ?_; first | refine tp (fun _ => v_p) ?_ | refine tp (fun _ => v_nl) ?_ | refine tp (fun _ => v_nn) ?_ | refine tp (fun _ => v_bq) ?_)
  first | (refine dp 17 ?_; first | refine tp (fun _ => v_p) ?_)
  first | (refine dp 18 ?_; first | refine tp (fun _ => v_a) ?_ | refine tp (fun _ => v_i) ?_) | (refine dw 18 ?_; first | refine tw (v_b) ?_ | refine tw (v_r) ?_)
  first | (refine dw 19 ?_; first | refine tw (v_l) ?_ | refine tw (v_la) ?_ | refine tw (v_ls) ?_ | refine tw (v_lr) ?_ | refine tw ((v_ge hG)) ?_)
  first | (refine dp 20 ?_; first | refine tp (fun _ => v_p) ?_ | refine tp (fun _ => v_nl) ?_ | refine tp (fun _ => v_nn) ?_ | refine tp (fun _ => v_bq) ?_)
  first | (refine dp 21 ?_; first | refine tp (fun _ => v_p) ?_ | refine tp (fun _ => v_nl) ?_ | refine tp (fun _ => v_nn) ?_ | refine tp (fun _ => v_bq) ?_)
  first | (refine dp 22 ?_; first | refine tp (fun _ => v_p) ?_)
  first | (refine dp 23 ?_; first | refine tp (fun _ => v_a) ?_ | refine tp (fun _ => v_i) ?_) | (refine dw 23 ?_; first | refine tw (v_b) ?_ | refine tw (v_r) ?_)
  first | (refine dw 24 ?_; first | refine tw (v_l) ?_ | refine tw (v_la) ?_ | refine tw (v_ls) ?_ | refine tw (v_lr) ?_ | refine tw ((v_ge hG)) ?_)
  first | (refine dp 25 ?_; first | refine tp (fun _ => v_p) ?_ | refine tp (fun _ => v_nl) ?_ | refine tp (fun _ => v_nn) ?_ | refine tp (fun _ => v_bq) ?_)
  first | (refine dp 26 ?_; first | refine tp (fun _ => v_p) ?_ | refine tp (fun _ => v_nl) ?_ | refine tp (fun _ => v_nn) ?_ | refine tp (fun _ => v_bq) ?_)
  first | (refine dp 27 ?_; first | refine tp (fun _ => v_p) ?_ | refine tp (fun _ => v_nl) ?_ | refine tp (fun _ => v_nn) ?_ | refine tp (fun _ => v_bq) ?_)
  first | (refine dp 28 ?_; first | refine tp (fun _ => v_bd) ?_)
  first | (refine dp 29 ?_; first | refine tp (fun _ => v_p) ?_)
  first | (refine dp 30 ?_; first | refine tp (fun _ => v_a) ?_ | refine tp (fun _ => v_i) ?_) | (refine dw 30 ?_; first | refine tw (v_b) ?_ | refine tw (v_r) ?_)
  first | (refine dw 31 ?_; first | refine tw (v_l) ?_ | refine tw (v_la) ?_ | refine tw (v_ls) ?_ | refine tw (v_lr) ?_ | refine tw ((v_ge hG)) ?_)
  first | (refine dp 32 ?_; first | refine tp (fun _ => v_p) ?_ | refine tp (fun _ => v_nl) ?_ | refine tp (fun _ => v_nn) ?_ | refine tp (fun _ => v_bq) ?_)
  first | (refine dp 33 ?_; first | refine tp (fun _ => v_p) ?_)
  first | (refine dp 34 ?_; first | refine tp (fun _ => v_a) ?_ | refine tp (fun _ => v_i) ?_) | (refine dw 34 ?_; first | refine tw (v_b) ?_ | refine tw (v_r) ?_)
  first | (refine dw 35 ?_; first | refine tw (v_l) ?_ | refine tw (v_la) ?_ | refine tw (v_ls) ?_ | refine tw (v_lr) ?_ | refine tw ((v_ge hG)) ?_)
  first | (refine dp 36 ?_; first | refine tp (fun _ => v_p) ?_ | refine tp (fun _ => v_nl) ?_ | refine tp (fun _ => v_nn) ?_ | refine tp (fun _ => v_bq) ?_)
  refine d_e 37 ?_
  first | refine f_st ⟨?_, ?_⟩
  · first | exact st_n | exact st_l rfl | exact st_s (by repeat (first | exact List.Sublist.refl _ | exact List.nil_sublist _ | exact List.sublist_append_right _ _ | apply List.Sublist.cons_cons | apply List.Sublist.cons))
  first | (refine dp 38 ?_; first | refine tp (fun _ => v_p) ?_)
  first | (refine dp 39 ?_; first | refine tp (fun _ => v_p) ?_)
  refine d_z ?_
  refine t2 (List.nil_sublist _) ⟨?_, rfl⟩
  have e1 : bw .or .i64 (n0 : Int) (shl .i64 (n1 : Int) 4) = (nibPage n0 n1 : Nat) := os n0 n1 4 (by omega) (by omega) (by omega)
  have a3 : bw .and .i64 (n3 : Int) 7 = ((n3 % 8 : Nat) : Int) := an n3 3 (by omega) (by omega)
  have a5 : bw .and .i64 (n5 : Int) 3 = ((n5 % 4 : Nat) : Int) := an n5 2 (by omega) (by omega)
  have e2 : bw .or .i64 (n2 : Int) (shl .i64 ((n3 % 8 : Nat) : Int) 4) = ((n2 + n3 % 8 * 2 ^ 4 : Nat) : Int) := os n2 (n3 % 8) 4 (by omega) (by omega) (by omega)
  have e3 : bw .or .i64 ((n2 + n3 % 8 * 2 ^ 4 : Nat) : Int) (shl .i64 (n4 : Int) 8) = ((n2 + n3 % 8 * 2 ^ 4 + n4 * 2 ^ 8 : Nat) : Int) := os _ n4 8 (by omega) (by omega) (by omega)
  have e4 : bw .or .i64 ((n2 + n3 % 8 * 2 ^ 4 + n4 * 2 ^ 8 : Nat) : Int) (shl .i64 ((n5 % 4 : Nat) : Int) 12) = (nibSub n2 n3 n4 n5 : Nat) := os _ (n5 % 4) 12 (by omega) (by omega) (by omega)
  rw [← e3, ← e2, ← a3, ← a5] at e4
  show Value.tuple #[.agg #[.int .i64 0, .int .i64 _, .int .i64 _], .int .i64 _, .int .i64 _] = _
  rw [plC, ← e1, ← e4]
  rfl

theorem bit_does (b : Bool) (w : World) : Does Tryz.prog 225 [.bool b] w [] (fun v L => v = .int .i64 (boolN b) ∧ L = []) := by
  refine does_of Tryz.func225 rfl rfl ?_
  repeat (first | refine r_seq ?_ | refine r_nil ?_ | refine r_region ?_ | refine r_skip ?_ | refine r_block ?_ | refine r_inBlock ?_ | refine x_ ?_ | refine w_ v_p ?_ | refine w_ v_cv ?_ | refine w_ v_and ?_ | refine w_ v_or ?_ | refine w_ v_f ?_ | refine w_ v_b ?_ | refine w_ v_r ?_ | refine w_ v_i ?_ | refine w_ v_a ?_ | refine w_ v_l ?_ | refine w_ v_la ?_ | refine w_ v_ls ?_ | refine w_ v_lr ?_ | refine w_ v_ln ?_ | refine w_ v_bd ?_ | refine w_ v_mf ?_ | refine e_ (f_st ?_) | refine e_ (f_al fun _ => ?_) | refine e_ (f_bx fun _ => ?_))
  refine c_ (fun h => ?_) (fun h => ?_)
  · repeat (first | refine r_seq ?_ | refine r_nil ?_ | refine r_region ?_ | refine r_skip ?_ | refine r_block ?_ | refine r_inBlock ?_ | refine x_ ?_ | refine w_ v_p ?_ | refine w_ v_cv ?_ | refine w_ v_and ?_ | refine w_ v_or ?_ | refine w_ v_f ?_ | refine w_ v_b ?_ | refine w_ v_r ?_ | refine w_ v_i ?_ | refine w_ v_a ?_ | refine w_ v_l ?_ | refine w_ v_la ?_ | refine w_ v_ls ?_ | refine w_ v_lr ?_ | refine w_ v_ln ?_ | refine w_ v_bd ?_ | refine w_ v_mf ?_ | refine e_ (f_st ?_) | refine e_ (f_al fun _ => ?_) | refine e_ (f_bx fun _ => ?_))
    exact t_ rfl (.tmp rfl .nil) (List.nil_sublist _) ⟨by rw [h]; rfl, rfl⟩
  · repeat (first | refine r_seq ?_ | refine r_nil ?_ | refine r_region ?_ | refine r_skip ?_ | refine r_block ?_ | refine r_inBlock ?_ | refine x_ ?_ | refine w_ v_p ?_ | refine w_ v_cv ?_ | refine w_ v_and ?_ | refine w_ v_or ?_ | refine w_ v_f ?_ | refine w_ v_b ?_ | refine w_ v_r ?_ | refine w_ v_i ?_ | refine w_ v_a ?_ | refine w_ v_l ?_ | refine w_ v_la ?_ | refine w_ v_ls ?_ | refine w_ v_lr ?_ | refine w_ v_ln ?_ | refine w_ v_bd ?_ | refine w_ v_mf ?_ | refine e_ (f_st ?_) | refine e_ (f_al fun _ => ?_) | refine e_ (f_bx fun _ => ?_))
    exact t_ rfl (.tmp rfl .nil) (List.nil_sublist _) ⟨by rw [h]; rfl, rfl⟩

theorem boolN_le (b : Bool) : boolN b ≤ 1 := by cases b <;> decide

theorem option_does (c : Nat → Bool) (w : World) : Does Tryz.prog 185 [.agg #[.bool (c 0), .bool (c 1), .bool (c 2), .bool (c 3), .bool (c 4), .bool (c 5), .bool (c 6), .bool (c 7), .bool (c 8), .bool (c 9), .bool (c 10)]] w [] (fun v L => v = .int .i64 (optOf c) ∧ L = []) := by
  refine does_of Tryz.func185 rfl rfl ?_
  have h8 := boolN_le (c 8)
  have h9 := boolN_le (c 9)
  have h10 := boolN_le (c 10)
  repeat (first | refine e_ (f_bx fun b0 => ?_) | refine r_seq ?_ | refine r_nil ?_ | refine r_region ?_ | refine r_skip ?_ | refine r_block ?_ | refine r_inBlock ?_ | refine x_ ?_ | refine w_ v_p ?_ | refine w_ v_cv ?_ | refine w_ v_and ?_ | refine w_ v_or ?_ | refine w_ v_f ?_ | refine w_ v_b ?_ | refine w_ v_r ?_ | refine w_ v_i ?_ | refine w_ v_a ?_ | refine w_ v_l ?_ | refine w_ v_la ?_ | refine w_ v_ls ?_ | refine w_ v_lr ?_ | refine w_ v_ln ?_ | refine w_ v_bd ?_ | refine w_ v_mf ?_ | refine e_ (f_st ?_) | refine e_ (f_al fun _ => ?_) | refine e_ (f_bx fun _ => ?_))
  refine d_all [] ?_
  first | (refine dp 0 ?_; first | refine tp (fun _ => v_a) ?_ | refine tp (fun _ => v_i) ?_) | (refine dw 0 ?_; first | refine tw (v_b) ?_ | refine tw (v_r) ?_)
  first | (refine dw 1 ?_; first | refine tw (v_l) ?_ | refine tw (v_la) ?_ | refine tw (v_ls) ?_ | refine tw (v_lr) ?_ | refine tw ((v_ge hG)) ?_)
  first | (refine dp 4 ?_; first | refine tp (fun _ => v_a) ?_ | refine tp (fun _ => v_i) ?_) | (refine dw 4 ?_; first | refine tw (v_b) ?_ | refine tw (v_r) ?_)
  first | (refine dw 5 ?_; first | refine tw (v_l) ?_ | refine tw (v_la) ?_ | refine tw (v_ls) ?_ | refine tw (v_lr) ?_ | refine tw ((v_ge hG)) ?_)
  first | (refine dp 9 ?_; first | refine tp (fun _ => v_a) ?_ | refine tp (fun _ => v_i) ?_) | (refine dw 9 ?_; first | refine tw (v_b) ?_ | refine tw (v_r) ?_)
  first | (refine dw 10 ?_; first | refine tw (v_l) ?_ | refine tw (v_la) ?_ | refine tw (v_ls) ?_ | refine tw (v_lr) ?_ | refine tw ((v_ge hG)) ?_)
  refine d_e 2 ?_
  refine f_c (fun w _ => bit_does (c 8) w) fun v L' h => ?_
  obtain ⟨rfl, rfl⟩ := h
  refine ⟨?_, ?_⟩
  · first | exact st_n | exact st_l rfl | exact st_s (by repeat (first | exact List.Sublist.refl _ | exact List.nil_sublist _ | exact List.sublist_append_right _ _ | apply List.Sublist.cons_cons | apply List.Sublist.cons))
  first | (refine dp 3 ?_; first | refine tp (fun _ => v_p) ?_ | refine tp (fun _ => v_nl) ?_ | refine tp (fun _ => v_nn) ?_ | refine tp (fun _ => v_bq) ?_)
  refine d_e 6 ?_
  refine f_c (fun w _ => bit_does (c 9) w) fun v L' h => ?_
  obtain ⟨rfl, rfl⟩ := h
  refine ⟨?_, ?_⟩
  · first | exact st_n | exact st_l rfl | exact st_s (by repeat (first | exact List.Sublist.refl _ | exact List.nil_sublist _ | exact List.sublist_append_right _ _ | apply List.Sublist.cons_cons | apply List.Sublist.cons))
  first | (refine dp 7 ?_; first | refine tp (fun _ => v_p) ?_ | refine tp (fun _ => v_nl) ?_ | refine tp (fun _ => v_nn) ?_ | refine tp (fun _ => v_bq) ?_)
  first | (refine dp 8 ?_; first | refine tp (fun _ => v_p) ?_ | refine tp (fun _ => v_nl) ?_ | refine tp (fun _ => v_nn) ?_ | refine tp (fun _ => v_bq) ?_)
  refine d_e 11 ?_
  refine f_c (fun w _ => bit_does (c 10) w) fun v L' h => ?_
  obtain ⟨rfl, rfl⟩ := h
  refine ⟨?_, ?_⟩
  · first | exact st_n | exact st_l rfl | exact st_s (by repeat (first | exact List.Sublist.refl _ | exact List.nil_sublist _ | exact List.sublist_append_right _ _ | apply List.Sublist.cons_cons | apply List.Sublist.cons))
  first | (refine dp 12 ?_; first | refine tp (fun _ => v_p) ?_ | refine tp (fun _ => v_nl) ?_ | refine tp (fun _ => v_nn) ?_ | refine tp (fun _ => v_bq) ?_)
  first | (refine dp 13 ?_; first | refine tp (fun _ => v_p) ?_)
  refine d_z ?_
  refine t_ rfl (.tmp rfl .nil) (List.nil_sublist _) ⟨?_, rfl⟩
  show Value.int .i64 _ = Value.int .i64 _
  have : ((4 * boolN (c 8) + 2 * boolN (c 9) + boolN (c 10) : Nat) : Int) = 4 * (boolN (c 8) : Int) + 2 * (boolN (c 9) : Int) + (boolN (c 10) : Int) := by omega
  rw [optOf, this]

theorem filler_does (h : Hd) (w : World) : Does Tryz.prog 122 [.agg (hdC h).toArray] w [] (fun v L => v = .bool (h.pl.page == 255) ∧ L = []) := by
  refine does_of Tryz.func122 rfl rfl ?_
  repeat (first | refine r_seq ?_ | refine r_nil ?_ | refine r_region ?_ | refine r_skip ?_ | refine r_block ?_ | refine r_inBlock ?_ | refine x_ ?_ | refine w_ v_p ?_ | refine w_ v_cv ?_ | refine w_ v_and ?_ | refine w_ v_or ?_ | refine w_ v_f ?_ | refine w_ v_b ?_ | refine w_ v_r ?_ | refine w_ v_i ?_ | refine w_ v_a ?_ | refine w_ v_l ?_ | refine w_ v_la ?_ | refine w_ v_ls ?_ | refine w_ v_lr ?_ | refine w_ v_ln ?_ | refine w_ v_bd ?_ | refine w_ v_mf ?_ | refine e_ (f_st ?_) | refine e_ (f_al fun _ => ?_) | refine e_ (f_bx fun _ => ?_))
  refine t_ rfl (.tmp rfl .nil) (List.nil_sublist _) ⟨?_, rfl⟩
  have : ((h.pl.page : Int) == 255) = (h.pl.page == 255) := by
    rw [Bool.eq_iff_iff]; simp only [beq_iff_eq]; omega
  rw [← this]; rfl
end Go.Proofs

namespace Go.Proofs
open Go.Cf
set_option maxRecDepth 10000

abbrev hd0 : List Value := hdC ⟨⟨0, 0, 0⟩, fun _ => false, 0⟩

/-- What 'header.Read' hands back. -/
def HeadR (E : Nat → Value) (k : Pk) (v : Value) (L : Hp) : Prop := match readH k with
  | .error e => v = .tuple #[.agg hd0.toArray, .slice none 0 0, E e] ∧ L = []
  | .ok (h, t) => ∃ q, v = .tuple #[.agg (hdC h).toArray, .slice q 32 32, .nilIface] ∧ L = [.row q 32 32 (bys t) 5 1]

theorem head_does (E : Nat → Value) (kd : Pk) (p : Option Addr) (c m : Nat) (w : World) (hG : Glob w [] E) (hm : kd.data.length = m) (_hmag : kd.mag ≤ 8) (hs : Sl w [] p m 1 (bys kd.data)) :
    Does Tryz.prog 120 [.agg (pkC kd.mag kd.row kd.kind kd.code (.slice p m c)).toArray] w [] (HeadR E kd) := by
  refine does_of Tryz.func120 rfl rfl ?_
  repeat (first | refine e_ (f_bx fun b1 => ?_) | refine e_ (f_al fun b2 => ?_) | refine r_seq ?_ | refine r_nil ?_ | refine r_region ?_ | refine r_skip ?_ | refine r_block ?_ | refine r_inBlock ?_ | refine x_ ?_ | refine w_ v_p ?_ | refine w_ v_cv ?_ | refine w_ v_and ?_ | refine w_ v_or ?_ | refine w_ v_f ?_ | refine w_ v_b ?_ | refine w_ v_r ?_ | refine w_ v_i ?_ | refine w_ v_a ?_ | refine w_ v_l ?_ | refine w_ v_la ?_ | refine w_ v_ls ?_ | refine w_ v_lr ?_ | refine w_ v_ln ?_ | refine w_ v_bd ?_ | refine w_ v_mf ?_ | refine e_ (f_st ?_) | refine e_ (f_al fun _ => ?_) | refine e_ (f_bx fun _ => ?_))
  refine c_ (fun h => ?_) (fun h => ?_)
  · have h1 : readH kd = .error 3 := by
      simp only [bne_iff_ne, ne_eq] at h
      rw [readH, if_pos (by omega)]
    refine r_seq ?_
    refine d_in [] [] ?_
    first | (refine dp 0 ?_; first | refine tp (fun _ => v_bd) ?_)
    first | (refine dw 1 ?_; first | refine tw (v_l) ?_ | refine tw (v_la) ?_ | refine tw (v_ls) ?_ | refine tw (v_lr) ?_ | refine tw ((v_ge hG)) ?_)
    refine d_e 2 ?_
    first | refine f_st ⟨?_, ?_⟩
    · first | exact st_n | exact st_l rfl | exact st_s (by repeat (first | exact List.Sublist.refl _ | exact List.nil_sublist _ | exact List.sublist_append_right _ _ | apply List.Sublist.cons_cons | apply List.Sublist.cons))
    first | (refine dp 3 ?_; first | refine tp (fun _ => v_p) ?_)
    first | (refine dp 4 ?_; first | refine tp (fun _ => v_p) ?_)
    refine d_z ?_
    refine t2 (List.nil_sublist _) ?_
    simp only [HeadR, h1]
    exact ⟨rfl, trivial⟩
  · have h1 : ¬ kd.kind ≠ 1 := by
      simp only [bne_eq_false_iff_eq] at h; omega
    repeat (first | refine r_seq ?_ | refine r_nil ?_ | refine r_region ?_ | refine r_skip ?_ | refine r_block ?_ | refine r_inBlock ?_ | refine x_ ?_ | refine w_ v_p ?_ | refine w_ v_cv ?_ | refine w_ v_and ?_ | refine w_ v_or ?_ | refine w_ v_f ?_ | refine w_ v_b ?_ | refine w_ v_r ?_ | refine w_ v_i ?_ | refine w_ v_a ?_ | refine w_ v_l ?_ | refine w_ v_la ?_ | refine w_ v_ls ?_ | refine w_ v_lr ?_ | refine w_ v_ln ?_ | refine w_ v_bd ?_ | refine w_ v_mf ?_ | refine e_ (f_st ?_) | refine e_ (f_al fun _ => ?_) | refine e_ (f_bx fun _ => ?_))
    refine e_ (f_c (fun w hw => part_does kd.mag kd.row kd.kind kd.code kd.data p c 0 8 m w hm (by omega) (by omega) (hs.now hw)) fun v L' h => ?_)
    obtain ⟨q, rfl, rfl⟩ := h
    refine e_ (f_c (fun w hw => open_does' (l := partOf kd.data 0 8) (partOf_length _ _ _) w (by rw [partOf_length]; omega) (sl_of_row hw (.head _))) fun v L' h => ?_)
    simp only [OpenR, partOf_length] at h
    cases ho : hamOpen (partOf kd.data 0 8) with
    | none =>
      have hrd : readH kd = .error 2 := by rw [readH, if_neg h1, ho]
      rw [ho] at h
      obtain ⟨rfl, rfl⟩ := h
      repeat (first | refine r_seq ?_ | refine r_nil ?_ | refine r_region ?_ | refine r_skip ?_ | refine r_block ?_ | refine r_inBlock ?_ | refine x_ ?_ | refine w_ v_p ?_ | refine w_ v_cv ?_ | refine w_ v_and ?_ | refine w_ v_or ?_ | refine w_ v_f ?_ | refine w_ v_b ?_ | refine w_ v_r ?_ | refine w_ v_i ?_ | refine w_ v_a ?_ | refine w_ v_l ?_ | refine w_ v_la ?_ | refine w_ v_ls ?_ | refine w_ v_lr ?_ | refine w_ v_ln ?_ | refine w_ v_bd ?_ | refine w_ v_mf ?_ | refine e_ (f_st ?_) | refine e_ (f_al fun _ => ?_) | refine e_ (f_bx fun _ => ?_))
      refine c_ (t := true) (fun _ => ?_) (fun h => by cases h)
      refine r_seq ?_
      refine d_in [] [] ?_
      first | (refine dp 0 ?_; first | refine tp (fun _ => v_bd) ?_)
      first | (refine dw 1 ?_; first | refine tw (v_l) ?_ | refine tw (v_la) ?_ | refine tw (v_ls) ?_ | refine tw (v_lr) ?_ | refine tw ((v_ge hG)) ?_)
      refine d_e 2 ?_
      first | refine f_st ⟨?_, ?_⟩
      · first | exact st_n | exact st_l rfl | exact st_s (by repeat (first | exact List.Sublist.refl _ | exact List.nil_sublist _ | exact List.sublist_append_right _ _ | apply List.Sublist.cons_cons | apply List.Sublist.cons))
      first | (refine dp 3 ?_; first | refine tp (fun _ => v_p) ?_)
      first | (refine dp 4 ?_; first | refine tp (fun _ => v_p) ?_)
      refine d_z ?_
      refine t2 (List.nil_sublist _) ?_
      simp only [HeadR, hrd]
      exact ⟨rfl, trivial⟩
    | some ns =>
      rw [ho] at h
      obtain ⟨q1, c1, rfl, rfl⟩ := h
      have hln := hamOpen_length ho
      have hlt := hamOpen_lt ho
      rw [partOf_length] at hln
      match ns, hln with
      | [n0, n1, n2, n3, n4, n5, n6, n7], _ =>
        have h0 : n0 < 16 := hlt _ (by simp)
        have h1' : n1 < 16 := hlt _ (by simp)
        have h2 : n2 < 16 := hlt _ (by simp)
        have h3 : n3 < 16 := hlt _ (by simp)
        have h4 : n4 < 16 := hlt _ (by simp)
        have h5 : n5 < 16 := hlt _ (by simp)
        have h6 : n6 < 16 := hlt _ (by simp)
        have h7 : n7 < 16 := hlt _ (by simp)
        repeat (first | refine r_seq ?_ | refine r_nil ?_ | refine r_region ?_ | refine r_skip ?_ | refine r_block ?_ | refine r_inBlock ?_ | refine x_ ?_ | refine w_ v_p ?_ | refine w_ v_cv ?_ | refine w_ v_and ?_ | refine w_ v_or ?_ | refine w_ v_f ?_ | refine w_ v_b ?_ | refine w_ v_r ?_ | refine w_ v_i ?_ | refine w_ v_a ?_ | refine w_ v_l ?_ | refine w_ v_la ?_ | refine w_ v_ls ?_ | refine w_ v_lr ?_ | refine w_ v_ln ?_ | refine w_ v_bd ?_ | refine w_ v_mf ?_ | refine e_ (f_st ?_) | refine e_ (f_al fun _ => ?_) | refine e_ (f_bx fun _ => ?_))
        refine c_ (t := false) (fun h => by cases h) (fun _ => ?_)
        repeat (first | refine e_ (f_al fun b7 => ?_) | refine r_seq ?_ | refine r_nil ?_ | refine r_region ?_ | refine r_skip ?_ | refine r_block ?_ | refine r_inBlock ?_ | refine x_ ?_ | refine w_ v_p ?_ | refine w_ v_cv ?_ | refine w_ v_and ?_ | refine w_ v_or ?_ | refine w_ v_f ?_ | refine w_ v_b ?_ | refine w_ v_r ?_ | refine w_ v_i ?_ | refine w_ v_a ?_ | refine w_ v_l ?_ | refine w_ v_la ?_ | refine w_ v_ls ?_ | refine w_ v_lr ?_ | refine w_ v_ln ?_ | refine w_ v_bd ?_ | refine w_ v_mf ?_ | refine e_ (f_st ?_) | refine e_ (f_al fun _ => ?_) | refine e_ (f_bx fun _ => ?_))
        refine e_ (f_c (fun w hw => of_does n0 n1 n2 n3 n4 n5 [n6, n7] q1 c1 8 w rfl h0 h1' h2 h3 h4 h5 (sl_of_row hw (by repeat (first | exact List.Mem.head _ | apply List.Mem.tail)))) fun v L' h => ?_)
        obtain ⟨rfl, rfl⟩ := h
        repeat (first | refine r_seq ?_ | refine r_nil ?_ | refine r_region ?_ | refine r_skip ?_ | refine r_block ?_ | refine r_inBlock ?_ | refine x_ ?_ | refine w_ v_p ?_ | refine w_ v_cv ?_ | refine w_ v_and ?_ | refine w_ v_or ?_ | refine w_ v_f ?_ | refine w_ v_b ?_ | refine w_ v_r ?_ | refine w_ v_i ?_ | refine w_ v_a ?_ | refine w_ v_l ?_ | refine w_ v_la ?_ | refine w_ v_ls ?_ | refine w_ v_lr ?_ | refine w_ v_ln ?_ | refine w_ v_bd ?_ | refine w_ v_mf ?_ | refine e_ (f_st ?_) | refine e_ (f_al fun _ => ?_) | refine e_ (f_bx fun _ => ?_))
        refine d_all [] ?_
        first | (refine dp 0 ?_; first | refine tp (fun _ => v_p) ?_)
        first | (refine dp 1 ?_; first | refine tp (fun _ => v_p) ?_)
        first | (refine dp 2 ?_; first | refine tp (fun _ => v_p) ?_ | refine tp (fun _ => v_nl) ?_ | refine tp (fun _ => v_nn) ?_ | refine tp (fun _ => v_bq) ?_)
        first | (refine dp 3 ?_; first | refine tp (fun _ => v_p) ?_ | refine tp (fun _ => v_nl) ?_ | refine tp (fun _ => v_nn) ?_ | refine tp (fun _ => v_bq) ?_)
        first | (refine dp 4 ?_; first | refine tp (fun _ => v_p) ?_)
        first | (refine dp 5 ?_; first | refine tp (fun _ => v_a) ?_ | refine tp (fun _ => v_i) ?_) | (refine dw 5 ?_; first | refine tw (v_b) ?_ | refine tw (v_r) ?_)
        first | (refine dw 6 ?_; first | refine tw (v_l) ?_ | refine tw (v_la) ?_ | refine tw (v_ls) ?_ | refine tw (v_lr) ?_ | refine tw ((v_ge hG)) ?_)
        first | (refine dp 7 ?_; first | refine tp (fun _ => v_p) ?_ | refine tp (fun _ => v_nl) ?_ | refine tp (fun _ => v_nn) ?_ | refine tp (fun _ => v_bq) ?_)
        first | (refine dp 8 ?_; first | refine tp (fun _ => v_p) ?_ | refine tp (fun _ => v_nl) ?_ | refine tp (fun _ => v_nn) ?_ | refine tp (fun _ => v_bq) ?_)
        first | (refine dp 9 ?_; first | refine tp (fun _ => v_p) ?_)
        first | (refine dp 10 ?_; first | refine tp (fun _ => v_a) ?_ | refine tp (fun _ => v_i) ?_) | (refine dw 10 ?_; first | refine tw (v_b) ?_ | refine tw (v_r) ?_)
        first | (refine dw 11 ?_; first | refine tw (v_l) ?_ | refine tw (v_la) ?_ | refine tw (v_ls) ?_ | refine tw (v_lr) ?_ | refine tw ((v_ge hG)) ?_)
        first | (refine dp 12 ?_; first | refine tp (fun _ => v_p) ?_ | refine tp (fun _ => v_nl) ?_ | refine tp (fun _ => v_nn) ?_ | refine tp (fun _ => v_bq) ?_)
        first | (refine dp 13 ?_; first | refine tp (fun _ => v_p) ?_ | refine tp (fun _ => v_nl) ?_ | refine tp (fun _ => v_nn) ?_ | refine tp (fun _ => v_bq) ?_)
        first | (refine dp 14 ?_; first | refine tp (fun _ => v_p) ?_)
        refine d_z ?_
        have e1 : bw .or .i64 ((n3 / 8 : Nat) : Int) (shl .i64 ((n5 / 4 : Nat) : Int) 1) = ((n3 / 8 + n5 / 4 * 2 ^ 1 : Nat) : Int) := os _ _ 1 (by omega) (by omega) (by omega)
        have e2 : bw .or .i64 ((n3 / 8 + n5 / 4 * 2 ^ 1 : Nat) : Int) (shl .i64 (n6 : Int) 3) = ((n3 / 8 + n5 / 4 * 2 ^ 1 + n6 * 2 ^ 3 : Nat) : Int) := os _ _ 3 (by omega) (by omega) (by omega)
        have e3 : bw .or .i64 ((n3 / 8 + n5 / 4 * 2 ^ 1 + n6 * 2 ^ 3 : Nat) : Int) (shl .i64 (n7 : Int) 7) = ((n3 / 8 + n5 / 4 * 2 ^ 1 + n6 * 2 ^ 3 + n7 * 2 ^ 7 : Nat) : Int) := os _ _ 7 (by omega) (by omega) (by omega)
        rw [← e2, ← e1] at e3
        refine r_as 10 (congrArg (Value.int .i64) e3) ?_
        have hfb : n3 / 8 + n5 / 4 * 2 ^ 1 + n6 * 2 ^ 3 + n7 * 2 ^ 7 < 4096 := by omega
        have hrd : readH kd = .ok (headOf kd.mag n0 n1 n2 n3 n4 n5 n6 n7, partOf kd.data 8 32) := by rw [readH, if_neg h1, ho]
        simp only [headOf] at hrd
        generalize n3 / 8 + n5 / 4 * 2 ^ 1 + n6 * 2 ^ 3 + n7 * 2 ^ 7 = fl at hfb hrd
        clear e1 e2 e3
        repeat (first | refine r_seq ?_ | refine r_nil ?_ | refine r_region ?_ | refine r_skip ?_ | refine r_block ?_ | refine r_inBlock ?_ | refine x_ ?_ | refine w_ v_p ?_ | refine w_ v_cv ?_ | refine w_ v_and ?_ | refine w_ v_or ?_ | refine w_ v_f ?_ | refine w_ v_b ?_ | refine w_ v_r ?_ | refine w_ v_i ?_ | refine w_ v_a ?_ | refine w_ v_l ?_ | refine w_ v_la ?_ | refine w_ v_ls ?_ | refine w_ v_lr ?_ | refine w_ v_ln ?_ | refine w_ v_bd ?_ | refine w_ v_mf ?_ | refine e_ (f_st ?_) | refine e_ (f_al fun _ => ?_) | refine e_ (f_bx fun _ => ?_))
        refine r_loop (τ := Nat) (fun i => i ≤ 11) (fun i => 11 - i) (fun i => [(10, .v (.int .i64 fl)), (52, .v (.int .i64 i)), (7, .v (.pointer (some ⟨b7, 0, none⟩))), (2, .v (.pointer (some ⟨b2, 0, none⟩))), (1, .v (.pointer (some ⟨b1, 0, none⟩)))])
          (fun i => [.cells b7 (hdC ⟨⟨kd.mag, nibPage n0 n1, nibSub n2 n3 n4 n5⟩, lowB (flagB fl) i, 0⟩) 48, .cells b2 hd0 48, .cells b1 (pkC kd.mag kd.row kd.kind kd.code (.slice p m c)) 130]) 0 (by omega) ⟨rfl, rfl, rfl, rfl, rfl, trivial⟩
          (by repeat (first | exact List.Sublist.refl _ | apply List.Sublist.cons_cons | apply List.Sublist.cons)) ?_
        rintro i hi f
        repeat (first | refine r_seq ?_ | refine r_nil ?_ | refine r_region ?_ | refine r_skip ?_ | refine r_block ?_ | refine r_inBlock ?_ | refine x_ ?_ | refine w_ v_p ?_ | refine w_ v_cv ?_ | refine w_ v_and ?_ | refine w_ v_or ?_ | refine w_ v_f ?_ | refine w_ v_b ?_ | refine w_ v_r ?_ | refine w_ v_i ?_ | refine w_ v_a ?_ | refine w_ v_l ?_ | refine w_ v_la ?_ | refine w_ v_ls ?_ | refine w_ v_lr ?_ | refine w_ v_ln ?_ | refine w_ v_bd ?_ | refine w_ v_mf ?_ | refine e_ (f_st ?_) | refine e_ (f_al fun _ => ?_) | refine e_ (f_bx fun _ => ?_))
        refine c_ (fun h => ?_) (fun h => ?_)
        · simp only [decide_eq_true_eq] at h
          repeat (first | refine r_seq ?_ | refine r_nil ?_ | refine r_region ?_ | refine r_skip ?_ | refine r_block ?_ | refine r_inBlock ?_ | refine x_ ?_ | refine w_ v_p ?_ | refine w_ v_cv ?_ | refine w_ v_and ?_ | refine w_ v_or ?_ | refine w_ v_f ?_ | refine w_ v_b ?_ | refine w_ v_r ?_ | refine w_ v_i ?_ | refine w_ v_a ?_ | refine w_ v_l ?_ | refine w_ v_la ?_ | refine w_ v_ls ?_ | refine w_ v_lr ?_ | refine w_ v_ln ?_ | refine w_ v_bd ?_ | refine w_ v_mf ?_ | refine e_ (f_st ?_) | refine e_ (f_al fun _ => ?_) | refine e_ (f_bx fun _ => ?_))
          refine r_as 60 (v' := .bool (flagB fl i)) (congrArg Value.bool (flagB_bw fl i (by omega))) ?_
          refine e_ (f_st (hl := (hd_set _ _ 0 (flagB fl i) i (by omega)).trans (by rw [lowB_succ])) (hr := Nat.ble_eq_true_of_le (by simp; omega)) ?_)
          repeat (first | refine r_seq ?_ | refine r_nil ?_ | refine r_region ?_ | refine r_skip ?_ | refine r_block ?_ | refine r_inBlock ?_ | refine x_ ?_ | refine w_ v_p ?_ | refine w_ v_cv ?_ | refine w_ v_and ?_ | refine w_ v_or ?_ | refine w_ v_f ?_ | refine w_ v_b ?_ | refine w_ v_r ?_ | refine w_ v_i ?_ | refine w_ v_a ?_ | refine w_ v_l ?_ | refine w_ v_la ?_ | refine w_ v_ls ?_ | refine w_ v_lr ?_ | refine w_ v_ln ?_ | refine w_ v_bd ?_ | refine w_ v_mf ?_ | refine e_ (f_st ?_) | refine e_ (f_al fun _ => ?_) | refine e_ (f_bx fun _ => ?_))
          exact r_again (i + 1) (by omega) (by omega) ⟨rfl, rfl, rfl, rfl, rfl, trivial⟩ (List.Sublist.refl _)
        · simp only [decide_eq_false_iff_not] at h
          have hi2 : i = 11 := by omega
          subst hi2
          repeat (first | refine r_seq ?_ | refine r_nil ?_ | refine r_region ?_ | refine r_skip ?_ | refine r_block ?_ | refine r_inBlock ?_ | refine x_ ?_ | refine w_ v_p ?_ | refine w_ v_cv ?_ | refine w_ v_and ?_ | refine w_ v_or ?_ | refine w_ v_f ?_ | refine w_ v_b ?_ | refine w_ v_r ?_ | refine w_ v_i ?_ | refine w_ v_a ?_ | refine w_ v_l ?_ | refine w_ v_la ?_ | refine w_ v_ls ?_ | refine w_ v_lr ?_ | refine w_ v_ln ?_ | refine w_ v_bd ?_ | refine w_ v_mf ?_ | refine e_ (f_st ?_) | refine e_ (f_al fun _ => ?_) | refine e_ (f_bx fun _ => ?_))
          refine e_ (f_c (fun w hw => option_does (lowB (flagB fl) 11) w) fun v L' h => ?_)
          obtain ⟨rfl, rfl⟩ := h
          repeat (first | refine r_seq ?_ | refine r_nil ?_ | refine r_region ?_ | refine r_skip ?_ | refine r_block ?_ | refine r_inBlock ?_ | refine x_ ?_ | refine w_ v_p ?_ | refine w_ v_cv ?_ | refine w_ v_and ?_ | refine w_ v_or ?_ | refine w_ v_f ?_ | refine w_ v_b ?_ | refine w_ v_r ?_ | refine w_ v_i ?_ | refine w_ v_a ?_ | refine w_ v_l ?_ | refine w_ v_la ?_ | refine w_ v_ls ?_ | refine w_ v_lr ?_ | refine w_ v_ln ?_ | refine w_ v_bd ?_ | refine w_ v_mf ?_ | refine e_ (f_st ?_) | refine e_ (f_al fun _ => ?_) | refine e_ (f_bx fun _ => ?_))
          refine d_in ([.cells b7 (hdC ⟨⟨kd.mag, nibPage n0 n1, nibSub n2 n3 n4 n5⟩, lowB (flagB fl) 11, optOf (lowB (flagB fl) 11)⟩) 48, .cells b1 (pkC kd.mag kd.row kd.kind kd.code (.slice p m c)) 130]) [] ?_
          first | (refine dw 0 ?_; first | refine tw (v_l) ?_ | refine tw (v_la) ?_ | refine tw (v_ls) ?_ | refine tw (v_lr) ?_ | refine tw ((v_ge hG)) ?_)
          first | (refine dw 1 ?_; first | refine tw (v_l) ?_ | refine tw (v_la) ?_ | refine tw (v_ls) ?_ | refine tw (v_lr) ?_ | refine tw ((v_ge hG)) ?_)
          refine d_e 2 ?_
          refine f_c (fun w hw => part_does kd.mag kd.row kd.kind kd.code kd.data p c 8 32 m w hm (by omega) (by omega) (hs.now hw)) fun v L' h => ?_
          obtain ⟨q2, rfl, rfl⟩ := h
          refine ⟨?_, ?_⟩
          · first | exact st_n | exact st_l rfl | exact st_s (by repeat (first | exact List.Sublist.refl _ | exact List.nil_sublist _ | exact List.sublist_append_right _ _ | apply List.Sublist.cons_cons | apply List.Sublist.cons))
          refine d_e 3 ?_
          first | refine f_st ⟨?_, ?_⟩
          · first | exact st_n | exact st_l rfl | exact st_s (by repeat (first | exact List.Sublist.refl _ | exact List.nil_sublist _ | exact List.sublist_append_right _ _ | apply List.Sublist.cons_cons | apply List.Sublist.cons))
          first | (refine dp 4 ?_; first | refine tp (fun _ => v_p) ?_)
          first | (refine dp 5 ?_; first | refine tp (fun _ => v_p) ?_)
          refine d_z ?_
          refine t2 (.cons_cons _ (List.nil_sublist _)) ?_
          simp only [HeadR, hrd]
          exact ⟨q2, rfl, rfl⟩
end Go.Proofs

namespace Go.Cf

/-- So many values, by their numbers. -/
def rg (n : Nat) (g : Nat → Value) : List Value := (List.range n).map g
theorem rg_length (n : Nat) (g : Nat → Value) : (rg n g).length = n := by simp [rg]
theorem rg_get {n : Nat} {g : Nat → Value} {i : Nat} (h : i < n) : (rg n g)[i]? = some (g i) := by simp [rg, h]
def updV (g : Nat → Value) (i : Nat) (v : Value) : Nat → Value := fun k => if k = i then v else g k
theorem rg_set {n : Nat} {g : Nat → Value} {i : Nat} (v : Value) (h : i < n) : splice (rg n g) i [v] = rg n (updV g i v) := by
  apply List.ext_getElem?
  intro j
  simp only [splice, rg, List.length_singleton]
  rw [List.getElem?_append, List.getElem?_append]
  simp only [List.length_append, List.length_take, List.length_map, List.length_range, List.length_singleton]
  by_cases h1 : j < i
  · have : j < min i n + 1 := by omega
    have h3 : j < min i n := by omega
    have h4 : j < n := by omega
    rw [if_pos this, if_pos h3, List.getElem?_take, if_pos h1]
    simp [h4, updV, show ¬ j = i from by omega]
  · by_cases h2 : j = i
    · subst h2
      have : j < min j n + 1 := by omega
      have h3 : ¬ j < min j n := by omega
      rw [if_pos this, if_neg h3]
      simp [h, updV, show j - min j n = 0 from by omega]
    · have : ¬ j < min i n + 1 := by omega
      rw [if_neg this, List.getElem?_drop]
      have h5 : i + 1 + (j - (min i n + 1)) = j := by omega
      rw [h5]
      by_cases h6 : j < n
      · simp [h6, updV, h2]
      · simp [h6]

theorem sub_all {l : List Value} {n : Nat} (h : l.length = n) : sub l 0 n = some l := by
  rw [sb_def, if_pos (by omega)]
  simp [← h]
theorem splice_all {l vs : List Value} (h : vs.length = l.length) : splice l 0 vs = vs := by
  simp [splice, h]
theorem rg_plain {n : Nat} {g : Nat → Value} (h : ∀ i, plain (g i) = true) : (rg n g).all plain = true := by
  simp [rg, h]
theorem rg_congr {n : Nat} {g g' : Nat → Value} (h : ∀ i, i < n → g i = g' i) : rg n g = rg n g' := by
  apply List.map_congr_left
  intro i hi
  exact h i (by simpa using hi)

/-- 40 bytes. -/
def rowC (r : Nat → UInt8) : List Value := rg 40 fun j => .int .u8 (r j).toNat
theorem rowC_length (r : Nat → UInt8) : (rowC r).length = 40 := rg_length _ _
theorem rowC_plain (r : Nat → UInt8) : (rowC r).all plain = true := rg_plain fun _ => rfl
theorem rowC_get {r : Nat → UInt8} {i : Nat} (h : i < 40) : (rowC r)[i]? = some (.int .u8 (r i).toNat) := rg_get h

/-- 40 bytes over those that were there. -/
def mergeR (old : Nat → UInt8) (d : List UInt8) (had : Bool) : Nat → UInt8 := fun k =>
  if oddB (d.getD k 0) then d.getD k 0 &&& 0x7f else if had then old k else 0x20

def lowR (r : Nat → UInt8) (i : Nat) : Nat → UInt8 := fun k => if k < i then r k else 0
theorem lowR_set (r : Nat → UInt8) (i : Nat) (h : i < 40) : splice (rowC (lowR r i)) (0 + ((i : Nat) : Int).toNat * 1) [.int .u8 (r i).toNat] = rowC (lowR r (i + 1)) := by
  have h1 : 0 + ((i : Nat) : Int).toNat * 1 = i := by simp
  rw [h1, rowC, rg_set _ h]
  apply rg_congr
  intro k hk
  simp only [updV, lowR]
  by_cases h2 : k = i
  · subst h2; simp
  · by_cases h3 : k < i
    · simp [h2, h3, show k < i + 1 from by omega]
    · simp [h2, h3, show ¬ k < i + 1 from by omega]
theorem lowR_all (r : Nat → UInt8) : rowC (lowR r 40) = rowC r := by
  apply rg_congr
  intro k hk
  simp [lowR, hk]
end Go.Cf

namespace Go.Proofs
open Go.Cf
set_option maxRecDepth 10000

theorem makeOdd_does (b : UInt8) (w : World) : Does Tryz.prog 188 [.int .u8 b.toNat] w [] (fun v L => v = .int .u8 (makeOdd b).toNat ∧ L = []) := by
  refine does_of Tryz.func188 rfl rfl ?_
  repeat (first | refine r_seq ?_ | refine r_nil ?_ | refine r_region ?_ | refine r_skip ?_ | refine r_block ?_ | refine r_inBlock ?_ | refine x_ ?_ | refine w_ v_p ?_ | refine w_ v_cv ?_ | refine w_ v_and ?_ | refine w_ v_or ?_ | refine w_ v_f ?_ | refine w_ v_b ?_ | refine w_ v_r ?_ | refine w_ v_i ?_ | refine w_ v_a ?_ | refine w_ v_l ?_ | refine w_ v_la ?_ | refine w_ v_ls ?_ | refine w_ v_lr ?_ | refine w_ v_ln ?_ | refine w_ v_bd ?_ | refine w_ v_mf ?_ | refine e_ (f_st ?_) | refine e_ (f_al fun _ => ?_) | refine e_ (f_bx fun _ => ?_))
  refine r_as 0 (v' := .int .u8 (b &&& 0x7f).toNat) (congrArg (Value.int .u8) (bw_and8 b 0x7f)) ?_
  refine r_as 5 (v' := .int .u8 (b &&& 0x7f).toNat) (congrArg (Value.int .u8) (bw_and8 b 0x7f)) ?_
  refine e_ (f_c (fun w _ => odd_does (b &&& 0x7f) w) fun v L' h => ?_)
  obtain ⟨rfl, rfl⟩ := h
  refine r_nil ?_
  refine c_ (fun h => ?_) (fun h => ?_)
  · repeat (first | refine r_seq ?_ | refine r_nil ?_ | refine r_region ?_ | refine r_skip ?_ | refine r_block ?_ | refine r_inBlock ?_ | refine x_ ?_ | refine w_ v_p ?_ | refine w_ v_cv ?_ | refine w_ v_and ?_ | refine w_ v_or ?_ | refine w_ v_f ?_ | refine w_ v_b ?_ | refine w_ v_r ?_ | refine w_ v_i ?_ | refine w_ v_a ?_ | refine w_ v_l ?_ | refine w_ v_la ?_ | refine w_ v_ls ?_ | refine w_ v_lr ?_ | refine w_ v_ln ?_ | refine w_ v_bd ?_ | refine w_ v_mf ?_ | refine e_ (f_st ?_) | refine e_ (f_al fun _ => ?_) | refine e_ (f_bx fun _ => ?_))
    refine t_ rfl (.tmp rfl .nil) (List.nil_sublist _) ⟨?_, rfl⟩
    rw [makeOdd, if_pos h]; rfl
  · repeat (first | refine r_seq ?_ | refine r_nil ?_ | refine r_region ?_ | refine r_skip ?_ | refine r_block ?_ | refine r_inBlock ?_ | refine x_ ?_ | refine w_ v_p ?_ | refine w_ v_cv ?_ | refine w_ v_and ?_ | refine w_ v_or ?_ | refine w_ v_f ?_ | refine w_ v_b ?_ | refine w_ v_r ?_ | refine w_ v_i ?_ | refine w_ v_a ?_ | refine w_ v_l ?_ | refine w_ v_la ?_ | refine w_ v_ls ?_ | refine w_ v_lr ?_ | refine w_ v_ln ?_ | refine w_ v_bd ?_ | refine w_ v_mf ?_ | refine e_ (f_st ?_) | refine e_ (f_al fun _ => ?_) | refine e_ (f_bx fun _ => ?_))
    refine t_ rfl (.tmp rfl .nil) (List.nil_sublist _) ⟨?_, rfl⟩
    rw [makeOdd, if_neg (by simp [h])]
    exact congrArg (Value.int .u8) (bw_or8 (b &&& 0x7f) 0x80)

theorem merge_does (old : Nat → UInt8) (d : List UInt8) (had : Bool) (p : Option Addr) (c m : Nat) (w : World) (hm : d.length = m) (hs : Sl w [] p m 1 (bys d)) :
    Does Tryz.prog 189 [.agg (rowC old).toArray, .slice p m c, .bool had] w [] (fun v L => v = .agg (rowC (mergeR old d had)).toArray ∧ L = []) := by
  refine does_of Tryz.func189 rfl rfl ?_
  repeat (first | refine e_ (f_bx fun b3 => ?_) | refine e_ (f_al fun b6 => ?_) | refine r_seq ?_ | refine r_nil ?_ | refine r_region ?_ | refine r_skip ?_ | refine r_block ?_ | refine r_inBlock ?_ | refine x_ ?_ | refine w_ v_p ?_ | refine w_ v_cv ?_ | refine w_ v_and ?_ | refine w_ v_or ?_ | refine w_ v_f ?_ | refine w_ v_b ?_ | refine w_ v_r ?_ | refine w_ v_i ?_ | refine w_ v_a ?_ | refine w_ v_l ?_ | refine w_ v_la ?_ | refine w_ v_ls ?_ | refine w_ v_lr ?_ | refine w_ v_ln ?_ | refine w_ v_bd ?_ | refine w_ v_mf ?_ | refine e_ (f_st ?_) | refine e_ (f_al fun _ => ?_) | refine e_ (f_bx fun _ => ?_))
  rename_i b8
  refine r_ord (M := [.cells b6 (rowC (lowR (mergeR old d had) 0)) 49, .cells b8 (rowC (fun _ => 0)) 49, .cells b3 (rowC old) 49]) ?_
  refine r_loop (τ := Nat) (fun i => i ≤ 40) (fun i => 40 - i) (fun i => [(1, .v (.slice p m c)), (2, .v (.bool had)), (3, .v (.pointer (some ⟨b3, 0, none⟩))), (6, .v (.pointer (some ⟨b8, 0, none⟩))), (7, .v (.pointer (some ⟨b6, 0, none⟩))), (10, .v (.int .i64 i))])
    (fun i => [.cells b6 (rowC (lowR (mergeR old d had) i)) 49, .cells b8 (rowC (fun _ => 0)) 49, .cells b3 (rowC old) 49]) 0 (by omega) ⟨rfl, rfl, rfl, rfl, rfl, rfl, trivial⟩ (List.Sublist.refl _) ?_
  rintro i hi f
  repeat (first | refine r_seq ?_ | refine r_nil ?_ | refine r_region ?_ | refine r_skip ?_ | refine r_block ?_ | refine r_inBlock ?_ | refine x_ ?_ | refine w_ v_p ?_ | refine w_ v_cv ?_ | refine w_ v_and ?_ | refine w_ v_or ?_ | refine w_ v_f ?_ | refine w_ v_b ?_ | refine w_ v_r ?_ | refine w_ v_i ?_ | refine w_ v_a ?_ | refine w_ v_l ?_ | refine w_ v_la ?_ | refine w_ v_ls ?_ | refine w_ v_lr ?_ | refine w_ v_ln ?_ | refine w_ v_bd ?_ | refine w_ v_mf ?_ | refine e_ (f_st ?_) | refine e_ (f_al fun _ => ?_) | refine e_ (f_bx fun _ => ?_))
  refine c_ (fun h => ?_) (fun h => ?_)
  · simp only [decide_eq_true_eq] at h
    have hlt : i < 40 := by omega
    repeat (first | refine r_seq ?_ | refine r_nil ?_ | refine r_region ?_ | refine r_skip ?_ | refine r_block ?_ | refine r_inBlock ?_ | refine x_ ?_ | refine w_ v_p ?_ | refine w_ v_cv ?_ | refine w_ v_and ?_ | refine w_ v_or ?_ | refine w_ v_f ?_ | refine w_ v_b ?_ | refine w_ v_r ?_ | refine w_ v_i ?_ | refine w_ v_a ?_ | refine w_ v_l ?_ | refine w_ v_la ?_ | refine w_ v_ls ?_ | refine w_ v_lr ?_ | refine w_ v_ln ?_ | refine w_ v_bd ?_ | refine w_ v_mf ?_ | refine e_ (f_st ?_) | refine e_ (f_al fun _ => ?_) | refine e_ (f_bx fun _ => ?_))
    refine r_mt (τ := Unit) (fun _ => True) (fun _ => [(9, .v (.int .u8 (d.getD i 0).toNat)), (8, .v (.int .i64 i)), (1, .v (.slice p m c)), (2, .v (.bool had)), (3, .v (.pointer (some ⟨b3, 0, none⟩))), (6, .v (.pointer (some ⟨b8, 0, none⟩))), (7, .v (.pointer (some ⟨b6, 0, none⟩))), (10, .v (.int .i64 i))]) ?_ ?_
    · refine c_ (fun h1 => ?_) (fun h1 => ?_)
      · simp only [decide_eq_true_eq] at h1
        have hb : d[i]? = some (d.getD i 0) := by
          rw [List.getD_eq_getElem?_getD, List.getElem?_eq_getElem (by omega)]; rfl
        have hload : (bys d)[((i : Nat) : Int).toNat * 1]? = some (.int .u8 (d.getD i 0).toNat) := by simpa using bys_get hb
        repeat (first | refine w_ (v_ls (hv := hload)) ?_ | refine r_seq ?_ | refine r_nil ?_ | refine r_region ?_ | refine r_skip ?_ | refine r_block ?_ | refine r_inBlock ?_ | refine x_ ?_ | refine w_ v_p ?_ | refine w_ v_cv ?_ | refine w_ v_and ?_ | refine w_ v_or ?_ | refine w_ v_f ?_ | refine w_ v_b ?_ | refine w_ v_r ?_ | refine w_ v_i ?_ | refine w_ v_a ?_ | refine w_ v_l ?_ | refine w_ v_la ?_ | refine w_ v_ls ?_ | refine w_ v_lr ?_ | refine w_ v_ln ?_ | refine w_ v_bd ?_ | refine w_ v_mf ?_ | refine e_ (f_st ?_) | refine e_ (f_al fun _ => ?_) | refine e_ (f_bx fun _ => ?_))
        exact r_met () trivial ⟨rfl, rfl, rfl, rfl, rfl, rfl, rfl, rfl, trivial⟩ (List.Sublist.refl _)
      · simp only [decide_eq_false_iff_not] at h1
        have hz : d.getD i 0 = 0 := by rw [List.getD_eq_getElem?_getD, List.getElem?_eq_none (by omega)]; rfl
        repeat (first | refine r_seq ?_ | refine r_nil ?_ | refine r_region ?_ | refine r_skip ?_ | refine r_block ?_ | refine r_inBlock ?_ | refine x_ ?_ | refine w_ v_p ?_ | refine w_ v_cv ?_ | refine w_ v_and ?_ | refine w_ v_or ?_ | refine w_ v_f ?_ | refine w_ v_b ?_ | refine w_ v_r ?_ | refine w_ v_i ?_ | refine w_ v_a ?_ | refine w_ v_l ?_ | refine w_ v_la ?_ | refine w_ v_ls ?_ | refine w_ v_lr ?_ | refine w_ v_ln ?_ | refine w_ v_bd ?_ | refine w_ v_mf ?_ | refine e_ (f_st ?_) | refine e_ (f_al fun _ => ?_) | refine e_ (f_bx fun _ => ?_))
        exact r_met () trivial ⟨by rw [hz]; rfl, rfl, rfl, rfl, rfl, rfl, rfl, rfl, trivial⟩ (List.Sublist.refl _)
    rintro - - f
    repeat (first | refine r_seq ?_ | refine r_nil ?_ | refine r_region ?_ | refine r_skip ?_ | refine r_block ?_ | refine r_inBlock ?_ | refine x_ ?_ | refine w_ v_p ?_ | refine w_ v_cv ?_ | refine w_ v_and ?_ | refine w_ v_or ?_ | refine w_ v_f ?_ | refine w_ v_b ?_ | refine w_ v_r ?_ | refine w_ v_i ?_ | refine w_ v_a ?_ | refine w_ v_l ?_ | refine w_ v_la ?_ | refine w_ v_ls ?_ | refine w_ v_lr ?_ | refine w_ v_ln ?_ | refine w_ v_bd ?_ | refine w_ v_mf ?_ | refine e_ (f_st ?_) | refine e_ (f_al fun _ => ?_) | refine e_ (f_bx fun _ => ?_))
    refine e_ (f_c (fun w _ => odd_does (d.getD i 0) w) fun v L' h => ?_)
    obtain ⟨rfl, rfl⟩ := h
    have hst := lowR_set (mergeR old d had) i hlt
    repeat (first | refine r_seq ?_ | refine r_nil ?_ | refine r_region ?_ | refine r_skip ?_ | refine r_block ?_ | refine r_inBlock ?_ | refine x_ ?_ | refine w_ v_p ?_ | refine w_ v_cv ?_ | refine w_ v_and ?_ | refine w_ v_or ?_ | refine w_ v_f ?_ | refine w_ v_b ?_ | refine w_ v_r ?_ | refine w_ v_i ?_ | refine w_ v_a ?_ | refine w_ v_l ?_ | refine w_ v_la ?_ | refine w_ v_ls ?_ | refine w_ v_lr ?_ | refine w_ v_ln ?_ | refine w_ v_bd ?_ | refine w_ v_mf ?_ | refine e_ (f_st ?_) | refine e_ (f_al fun _ => ?_) | refine e_ (f_bx fun _ => ?_))
    refine c_ (fun h1 => ?_) (fun h1 => ?_)
    · have hv : mergeR old d had i = d.getD i 0 &&& 0x7f := by rw [mergeR, if_pos h1]
      repeat (first | refine r_seq ?_ | refine r_nil ?_ | refine r_region ?_ | refine r_skip ?_ | refine r_block ?_ | refine r_inBlock ?_ | refine x_ ?_ | refine w_ v_p ?_ | refine w_ v_cv ?_ | refine w_ v_and ?_ | refine w_ v_or ?_ | refine w_ v_f ?_ | refine w_ v_b ?_ | refine w_ v_r ?_ | refine w_ v_i ?_ | refine w_ v_a ?_ | refine w_ v_l ?_ | refine w_ v_la ?_ | refine w_ v_ls ?_ | refine w_ v_lr ?_ | refine w_ v_ln ?_ | refine w_ v_bd ?_ | refine w_ v_mf ?_ | refine e_ (f_st ?_) | refine e_ (f_al fun _ => ?_) | refine e_ (f_bx fun _ => ?_))
      refine r_as 28 (v' := .int .u8 (mergeR old d had i).toNat) ?_ ?_
      · rw [hv]; exact congrArg (Value.int .u8) (bw_and8 (d.getD i 0) 0x7f)
      refine e_ (f_st (hl := hst) (hr := Nat.ble_eq_true_of_le (by rw [rowC_length]; simp; omega)) ?_)
      repeat (first | refine r_seq ?_ | refine r_nil ?_ | refine r_region ?_ | refine r_skip ?_ | refine r_block ?_ | refine r_inBlock ?_ | refine x_ ?_ | refine w_ v_p ?_ | refine w_ v_cv ?_ | refine w_ v_and ?_ | refine w_ v_or ?_ | refine w_ v_f ?_ | refine w_ v_b ?_ | refine w_ v_r ?_ | refine w_ v_i ?_ | refine w_ v_a ?_ | refine w_ v_l ?_ | refine w_ v_la ?_ | refine w_ v_ls ?_ | refine w_ v_lr ?_ | refine w_ v_ln ?_ | refine w_ v_bd ?_ | refine w_ v_mf ?_ | refine e_ (f_st ?_) | refine e_ (f_al fun _ => ?_) | refine e_ (f_bx fun _ => ?_))
      exact r_again (i + 1) (by omega) (by omega) ⟨rfl, rfl, rfl, rfl, rfl, rfl, trivial⟩ (List.Sublist.refl _)
    · repeat (first | refine r_seq ?_ | refine r_nil ?_ | refine r_region ?_ | refine r_skip ?_ | refine r_block ?_ | refine r_inBlock ?_ | refine x_ ?_ | refine w_ v_p ?_ | refine w_ v_cv ?_ | refine w_ v_and ?_ | refine w_ v_or ?_ | refine w_ v_f ?_ | refine w_ v_b ?_ | refine w_ v_r ?_ | refine w_ v_i ?_ | refine w_ v_a ?_ | refine w_ v_l ?_ | refine w_ v_la ?_ | refine w_ v_ls ?_ | refine w_ v_lr ?_ | refine w_ v_ln ?_ | refine w_ v_bd ?_ | refine w_ v_mf ?_ | refine e_ (f_st ?_) | refine e_ (f_al fun _ => ?_) | refine e_ (f_bx fun _ => ?_))
      refine c_ (fun h2 => ?_) (fun h2 => ?_)
      · have hv : mergeR old d had i = old i := by rw [mergeR, if_neg (by rw [h1]; decide), if_pos h2]
        have hload : (rowC old)[0 + ((i : Nat) : Int).toNat * 1]? = some (.int .u8 (mergeR old d had i).toNat) := by
          rw [hv]; simpa using rowC_get hlt
        repeat (first | refine w_ (v_l (hv := hload)) ?_ | refine r_seq ?_ | refine r_nil ?_ | refine r_region ?_ | refine r_skip ?_ | refine r_block ?_ | refine r_inBlock ?_ | refine x_ ?_ | refine w_ v_p ?_ | refine w_ v_cv ?_ | refine w_ v_and ?_ | refine w_ v_or ?_ | refine w_ v_f ?_ | refine w_ v_b ?_ | refine w_ v_r ?_ | refine w_ v_i ?_ | refine w_ v_a ?_ | refine w_ v_l ?_ | refine w_ v_la ?_ | refine w_ v_ls ?_ | refine w_ v_lr ?_ | refine w_ v_ln ?_ | refine w_ v_bd ?_ | refine w_ v_mf ?_ | refine e_ (f_st ?_) | refine e_ (f_al fun _ => ?_) | refine e_ (f_bx fun _ => ?_))
        refine e_ (f_st (hl := hst) (hr := Nat.ble_eq_true_of_le (by rw [rowC_length]; simp; omega)) ?_)
        repeat (first | refine r_seq ?_ | refine r_nil ?_ | refine r_region ?_ | refine r_skip ?_ | refine r_block ?_ | refine r_inBlock ?_ | refine x_ ?_ | refine w_ v_p ?_ | refine w_ v_cv ?_ | refine w_ v_and ?_ | refine w_ v_or ?_ | refine w_ v_f ?_ | refine w_ v_b ?_ | refine w_ v_r ?_ | refine w_ v_i ?_ | refine w_ v_a ?_ | refine w_ v_l ?_ | refine w_ v_la ?_ | refine w_ v_ls ?_ | refine w_ v_lr ?_ | refine w_ v_ln ?_ | refine w_ v_bd ?_ | refine w_ v_mf ?_ | refine e_ (f_st ?_) | refine e_ (f_al fun _ => ?_) | refine e_ (f_bx fun _ => ?_))
        exact r_again (i + 1) (by omega) (by omega) ⟨rfl, rfl, rfl, rfl, rfl, rfl, trivial⟩ (List.Sublist.refl _)
      · have hv : mergeR old d had i = 0x20 := by rw [mergeR, if_neg (by rw [h1]; decide), if_neg (by rw [h2]; decide)]
        rw [hv] at hst
        repeat (first | refine r_seq ?_ | refine r_nil ?_ | refine r_region ?_ | refine r_skip ?_ | refine r_block ?_ | refine r_inBlock ?_ | refine x_ ?_ | refine w_ v_p ?_ | refine w_ v_cv ?_ | refine w_ v_and ?_ | refine w_ v_or ?_ | refine w_ v_f ?_ | refine w_ v_b ?_ | refine w_ v_r ?_ | refine w_ v_i ?_ | refine w_ v_a ?_ | refine w_ v_l ?_ | refine w_ v_la ?_ | refine w_ v_ls ?_ | refine w_ v_lr ?_ | refine w_ v_ln ?_ | refine w_ v_bd ?_ | refine w_ v_mf ?_ | refine e_ (f_st ?_) | refine e_ (f_al fun _ => ?_) | refine e_ (f_bx fun _ => ?_))
        refine e_ (f_st (hl := hst) (hr := Nat.ble_eq_true_of_le (by rw [rowC_length]; simp; omega)) ?_)
        repeat (first | refine r_seq ?_ | refine r_nil ?_ | refine r_region ?_ | refine r_skip ?_ | refine r_block ?_ | refine r_inBlock ?_ | refine x_ ?_ | refine w_ v_p ?_ | refine w_ v_cv ?_ | refine w_ v_and ?_ | refine w_ v_or ?_ | refine w_ v_f ?_ | refine w_ v_b ?_ | refine w_ v_r ?_ | refine w_ v_i ?_ | refine w_ v_a ?_ | refine w_ v_l ?_ | refine w_ v_la ?_ | refine w_ v_ls ?_ | refine w_ v_lr ?_ | refine w_ v_ln ?_ | refine w_ v_bd ?_ | refine w_ v_mf ?_ | refine e_ (f_st ?_) | refine e_ (f_al fun _ => ?_) | refine e_ (f_bx fun _ => ?_))
        exact r_again (i + 1) (by omega) (by omega) ⟨rfl, rfl, rfl, rfl, rfl, rfl, trivial⟩ (List.Sublist.refl _)
  · simp only [decide_eq_false_iff_not] at h
    have hi2 : i = 40 := by omega
    subst hi2
    rw [lowR_all]
    repeat (first | refine w_ (v_la (hv := sub_all (rowC_length _))) ?_ | refine e_ (f_st (hl := splice_all (by rw [rowC_length, rowC_length])) (hc := rowC_length _) (hp := rowC_plain _) (hr := Nat.ble_eq_true_of_le (by rw [rowC_length]; omega)) ?_) | refine r_seq ?_ | refine r_nil ?_ | refine r_region ?_ | refine r_skip ?_ | refine r_block ?_ | refine r_inBlock ?_ | refine x_ ?_ | refine w_ v_p ?_ | refine w_ v_cv ?_ | refine w_ v_and ?_ | refine w_ v_or ?_ | refine w_ v_f ?_ | refine w_ v_b ?_ | refine w_ v_r ?_ | refine w_ v_i ?_ | refine w_ v_a ?_ | refine w_ v_l ?_ | refine w_ v_la ?_ | refine w_ v_ls ?_ | refine w_ v_lr ?_ | refine w_ v_ln ?_ | refine w_ v_bd ?_ | refine w_ v_mf ?_ | refine e_ (f_st ?_) | refine e_ (f_al fun _ => ?_) | refine e_ (f_bx fun _ => ?_))
    refine t2 (List.nil_sublist _) ⟨?_, rfl⟩
    show Value.agg (List.take 40 (rowC (mergeR old d had))).toArray = _
    rw [List.take_of_length_le (by rw [rowC_length]; omega)]
end Go.Proofs

namespace Go.Proofs
open Go.Cf
set_option maxRecDepth 10000

theorem number_does (a b : Int) (w : World) (hb : 0 < b) (hb2 : b ≤ 9223372036854775807) : Does Tryz.prog 15 [.int .i64 a, .int .i64 b] w [] (fun v L => v = .int .i64 (a % b) ∧ L = []) := by
  refine does_of Tryz.func15 rfl rfl ?_
  have h1 := Int.emod_lt_of_pos a hb
  have h2 := Int.emod_nonneg a (b := b) (by omega)
  have h3 : a.tmod b = if 0 ≤ a ∨ a % b = 0 then a % b else a % b - b := by
    rw [Int.tmod_eq_emod]; split <;> split <;> simp_all [Int.dvd_iff_emod_eq_zero] <;> omega
  by_cases hc : 0 ≤ a ∨ a % b = 0
  · rw [if_pos hc] at h3
    repeat (first | refine w_ (v_tmod h3 (by omega)) ?_ | refine r_seq ?_ | refine r_nil ?_ | refine r_region ?_ | refine r_skip ?_ | refine r_block ?_ | refine r_inBlock ?_ | refine x_ ?_ | refine w_ v_p ?_ | refine w_ v_cv ?_ | refine w_ v_and ?_ | refine w_ v_or ?_ | refine w_ v_f ?_ | refine w_ v_b ?_ | refine w_ v_r ?_ | refine w_ v_i ?_ | refine w_ v_a ?_ | refine w_ v_l ?_ | refine w_ v_la ?_ | refine w_ v_ls ?_ | refine w_ v_lr ?_ | refine w_ v_ln ?_ | refine w_ v_bd ?_ | refine w_ v_mf ?_ | refine e_ (f_st ?_) | refine e_ (f_al fun _ => ?_) | refine e_ (f_bx fun _ => ?_))
    refine c_ (fun h => ?_) (fun h => ?_)
    · simp only [decide_eq_true_eq] at h; omega
    · repeat (first | refine r_seq ?_ | refine r_nil ?_ | refine r_region ?_ | refine r_skip ?_ | refine r_block ?_ | refine r_inBlock ?_ | refine x_ ?_ | refine w_ v_p ?_ | refine w_ v_cv ?_ | refine w_ v_and ?_ | refine w_ v_or ?_ | refine w_ v_f ?_ | refine w_ v_b ?_ | refine w_ v_r ?_ | refine w_ v_i ?_ | refine w_ v_a ?_ | refine w_ v_l ?_ | refine w_ v_la ?_ | refine w_ v_ls ?_ | refine w_ v_lr ?_ | refine w_ v_ln ?_ | refine w_ v_bd ?_ | refine w_ v_mf ?_ | refine e_ (f_st ?_) | refine e_ (f_al fun _ => ?_) | refine e_ (f_bx fun _ => ?_))
      exact t_ rfl (.tmp rfl .nil) (List.Sublist.refl _) ⟨rfl, rfl⟩
  · rw [if_neg hc] at h3
    repeat (first | refine w_ (v_tmod h3 (by omega)) ?_ | refine r_seq ?_ | refine r_nil ?_ | refine r_region ?_ | refine r_skip ?_ | refine r_block ?_ | refine r_inBlock ?_ | refine x_ ?_ | refine w_ v_p ?_ | refine w_ v_cv ?_ | refine w_ v_and ?_ | refine w_ v_or ?_ | refine w_ v_f ?_ | refine w_ v_b ?_ | refine w_ v_r ?_ | refine w_ v_i ?_ | refine w_ v_a ?_ | refine w_ v_l ?_ | refine w_ v_la ?_ | refine w_ v_ls ?_ | refine w_ v_lr ?_ | refine w_ v_ln ?_ | refine w_ v_bd ?_ | refine w_ v_mf ?_ | refine e_ (f_st ?_) | refine e_ (f_al fun _ => ?_) | refine e_ (f_bx fun _ => ?_))
    refine c_ (fun h => ?_) (fun h => ?_)
    · simp only [decide_eq_true_eq] at h
      repeat (first | refine r_seq ?_ | refine r_nil ?_ | refine r_region ?_ | refine r_skip ?_ | refine r_block ?_ | refine r_inBlock ?_ | refine x_ ?_ | refine w_ v_p ?_ | refine w_ v_cv ?_ | refine w_ v_and ?_ | refine w_ v_or ?_ | refine w_ v_f ?_ | refine w_ v_b ?_ | refine w_ v_r ?_ | refine w_ v_i ?_ | refine w_ v_a ?_ | refine w_ v_l ?_ | refine w_ v_la ?_ | refine w_ v_ls ?_ | refine w_ v_lr ?_ | refine w_ v_ln ?_ | refine w_ v_bd ?_ | refine w_ v_mf ?_ | refine e_ (f_st ?_) | refine e_ (f_al fun _ => ?_) | refine e_ (f_bx fun _ => ?_))
      exact t_ rfl (.tmp rfl .nil) (List.Sublist.refl _) ⟨by show Value.int _ (a % b - b + b) = _; congr 1; omega, rfl⟩
    · simp only [decide_eq_false_iff_not] at h; omega

theorem ones_does (N : Nat) (w : World) (hN : N < 2 ^ 32) : Does Tryz.prog 197 [.int .i64 N] w [] (fun v L => v = .int .i64 (pop N) ∧ L = []) := by
  refine does_of Tryz.func197 rfl rfl ?_
  have hN2 := pop_le hN
  repeat (first | refine r_seq ?_ | refine r_nil ?_ | refine r_region ?_ | refine r_skip ?_ | refine r_block ?_ | refine r_inBlock ?_ | refine x_ ?_ | refine w_ v_p ?_ | refine w_ v_cv ?_ | refine w_ v_and ?_ | refine w_ v_or ?_ | refine w_ v_f ?_ | refine w_ v_b ?_ | refine w_ v_r ?_ | refine w_ v_i ?_ | refine w_ v_a ?_ | refine w_ v_l ?_ | refine w_ v_la ?_ | refine w_ v_ls ?_ | refine w_ v_lr ?_ | refine w_ v_ln ?_ | refine w_ v_bd ?_ | refine w_ v_mf ?_ | refine e_ (f_st ?_) | refine e_ (f_al fun _ => ?_) | refine e_ (f_bx fun _ => ?_))
  refine r_loop (τ := Nat × Nat) (fun t => t.1 < 2 ^ 32 ∧ t.2 ≤ 32 ∧ t.2 + pop t.1 = pop N) (fun t => t.1) (fun t => [(0, .v (.int .i64 t.1)), (3, .v (.int .i64 t.2))]) (fun _ => []) (N, 0) ⟨hN, by simp, by simp⟩ ⟨rfl, rfl, trivial⟩ (List.Sublist.refl _) ?_
  rintro ⟨m, j⟩ ⟨hm, hj, hp⟩ f
  dsimp only at hm hj hp
  have hb : bw .and .i64 (m : Int) 1 = ((m % 2 ^ 1 : Nat) : Int) := an m 1 (by omega) (by omega)
  rw [Nat.pow_one] at hb
  have hs := pop_step m
  repeat (first | refine r_seq ?_ | refine r_nil ?_ | refine r_region ?_ | refine r_skip ?_ | refine r_block ?_ | refine r_inBlock ?_ | refine x_ ?_ | refine w_ v_p ?_ | refine w_ v_cv ?_ | refine w_ v_and ?_ | refine w_ v_or ?_ | refine w_ v_f ?_ | refine w_ v_b ?_ | refine w_ v_r ?_ | refine w_ v_i ?_ | refine w_ v_a ?_ | refine w_ v_l ?_ | refine w_ v_la ?_ | refine w_ v_ls ?_ | refine w_ v_lr ?_ | refine w_ v_ln ?_ | refine w_ v_bd ?_ | refine w_ v_mf ?_ | refine e_ (f_st ?_) | refine e_ (f_al fun _ => ?_) | refine e_ (f_bx fun _ => ?_))
  refine c_ (fun h => ?_) (fun h => ?_)
  · simp only [decide_eq_true_eq] at h
    repeat (first | refine w_ (v_pe (congrArg _ hb) rfl trivial) ?_ | refine r_seq ?_ | refine r_nil ?_ | refine r_region ?_ | refine r_skip ?_ | refine r_block ?_ | refine r_inBlock ?_ | refine x_ ?_ | refine w_ v_p ?_ | refine w_ v_cv ?_ | refine w_ v_and ?_ | refine w_ v_or ?_ | refine w_ v_f ?_ | refine w_ v_b ?_ | refine w_ v_r ?_ | refine w_ v_i ?_ | refine w_ v_a ?_ | refine w_ v_l ?_ | refine w_ v_la ?_ | refine w_ v_ls ?_ | refine w_ v_lr ?_ | refine w_ v_ln ?_ | refine w_ v_bd ?_ | refine w_ v_mf ?_ | refine e_ (f_st ?_) | refine e_ (f_al fun _ => ?_) | refine e_ (f_bx fun _ => ?_))
    exact r_again (m / 2, j + m % 2) ⟨by dsimp only; omega, by dsimp only; omega, by dsimp only; omega⟩ (by dsimp only; omega) ⟨rfl, rfl, trivial⟩ (List.Sublist.refl _)
  · simp only [decide_eq_false_iff_not] at h
    have h0 : m = 0 := by omega
    subst h0
    repeat (first | refine r_seq ?_ | refine r_nil ?_ | refine r_region ?_ | refine r_skip ?_ | refine r_block ?_ | refine r_inBlock ?_ | refine x_ ?_ | refine w_ v_p ?_ | refine w_ v_cv ?_ | refine w_ v_and ?_ | refine w_ v_or ?_ | refine w_ v_f ?_ | refine w_ v_b ?_ | refine w_ v_r ?_ | refine w_ v_i ?_ | refine w_ v_a ?_ | refine w_ v_l ?_ | refine w_ v_la ?_ | refine w_ v_ls ?_ | refine w_ v_lr ?_ | refine w_ v_ln ?_ | refine w_ v_bd ?_ | refine w_ v_mf ?_ | refine e_ (f_st ?_) | refine e_ (f_al fun _ => ?_) | refine e_ (f_bx fun _ => ?_))
    refine t_ rfl (.tmp rfl .nil) (List.Sublist.refl _) ⟨?_, rfl⟩
    show Value.int _ _ = _
    rw [← hp, pop_zero]; rfl

theorem odd1_does (x : UInt8) (w : World) : Does Tryz.prog 198 [.int .u8 x.toNat] w [] (fun v L => v = .bool (oddB x) ∧ L = []) := by
  refine does_of Tryz.func198 rfl rfl ?_
  have hx := x.toNat_lt
  repeat (first | refine r_seq ?_ | refine r_nil ?_ | refine r_region ?_ | refine r_skip ?_ | refine r_block ?_ | refine r_inBlock ?_ | refine x_ ?_ | refine w_ v_p ?_ | refine w_ v_cv ?_ | refine w_ v_and ?_ | refine w_ v_or ?_ | refine w_ v_f ?_ | refine w_ v_b ?_ | refine w_ v_r ?_ | refine w_ v_i ?_ | refine w_ v_a ?_ | refine w_ v_l ?_ | refine w_ v_la ?_ | refine w_ v_ls ?_ | refine w_ v_lr ?_ | refine w_ v_ln ?_ | refine w_ v_bd ?_ | refine w_ v_mf ?_ | refine e_ (f_st ?_) | refine e_ (f_al fun _ => ?_) | refine e_ (f_bx fun _ => ?_))
  refine e_ (f_c (fun w _ => ones_does x.toNat w (by omega)) fun v L' h => ?_)
  obtain ⟨rfl, rfl⟩ := h
  repeat (first | refine r_seq ?_ | refine r_nil ?_ | refine r_region ?_ | refine r_skip ?_ | refine r_block ?_ | refine r_inBlock ?_ | refine x_ ?_ | refine w_ v_p ?_ | refine w_ v_cv ?_ | refine w_ v_and ?_ | refine w_ v_or ?_ | refine w_ v_f ?_ | refine w_ v_b ?_ | refine w_ v_r ?_ | refine w_ v_i ?_ | refine w_ v_a ?_ | refine w_ v_l ?_ | refine w_ v_la ?_ | refine w_ v_ls ?_ | refine w_ v_lr ?_ | refine w_ v_ln ?_ | refine w_ v_bd ?_ | refine w_ v_mf ?_ | refine e_ (f_st ?_) | refine e_ (f_al fun _ => ?_) | refine e_ (f_bx fun _ => ?_))
  refine t_ rfl (.tmp rfl .nil) (List.Sublist.refl _) ⟨?_, rfl⟩
  show Value.bool _ = _
  simp only [oddB]
  congr 1
  rw [Bool.eq_iff_iff]
  simp only [beq_iff_eq]
  omega

theorem makeOdd1_does (b : UInt8) (w : World) : Does Tryz.prog 138 [.int .u8 b.toNat] w [] (fun v L => v = .int .u8 (makeOdd b).toNat ∧ L = []) := by
  refine does_of Tryz.func138 rfl rfl ?_
  repeat (first | refine r_seq ?_ | refine r_nil ?_ | refine r_region ?_ | refine r_skip ?_ | refine r_block ?_ | refine r_inBlock ?_ | refine x_ ?_ | refine w_ v_p ?_ | refine w_ v_cv ?_ | refine w_ v_and ?_ | refine w_ v_or ?_ | refine w_ v_f ?_ | refine w_ v_b ?_ | refine w_ v_r ?_ | refine w_ v_i ?_ | refine w_ v_a ?_ | refine w_ v_l ?_ | refine w_ v_la ?_ | refine w_ v_ls ?_ | refine w_ v_lr ?_ | refine w_ v_ln ?_ | refine w_ v_bd ?_ | refine w_ v_mf ?_ | refine e_ (f_st ?_) | refine e_ (f_al fun _ => ?_) | refine e_ (f_bx fun _ => ?_))
  refine r_as 3 (v' := .int .u8 (b &&& 0x7f).toNat) (congrArg (Value.int .u8) (bw_and8 b 0x7f)) ?_
  refine r_as 6 (v' := .int .u8 (b &&& 0x7f).toNat) (congrArg (Value.int .u8) (bw_and8 b 0x7f)) ?_
  refine e_ (f_c (fun w _ => odd1_does (b &&& 0x7f) w) fun v L' h => ?_)
  obtain ⟨rfl, rfl⟩ := h
  refine r_nil ?_
  refine c_ (fun h => ?_) (fun h => ?_)
  · repeat (first | refine r_seq ?_ | refine r_nil ?_ | refine r_region ?_ | refine r_skip ?_ | refine r_block ?_ | refine r_inBlock ?_ | refine x_ ?_ | refine w_ v_p ?_ | refine w_ v_cv ?_ | refine w_ v_and ?_ | refine w_ v_or ?_ | refine w_ v_f ?_ | refine w_ v_b ?_ | refine w_ v_r ?_ | refine w_ v_i ?_ | refine w_ v_a ?_ | refine w_ v_l ?_ | refine w_ v_la ?_ | refine w_ v_ls ?_ | refine w_ v_lr ?_ | refine w_ v_ln ?_ | refine w_ v_bd ?_ | refine w_ v_mf ?_ | refine e_ (f_st ?_) | refine e_ (f_al fun _ => ?_) | refine e_ (f_bx fun _ => ?_))
    refine t_ rfl (.tmp rfl .nil) (List.nil_sublist _) ⟨?_, rfl⟩
    rw [makeOdd, if_pos h]; rfl
  · repeat (first | refine r_seq ?_ | refine r_nil ?_ | refine r_region ?_ | refine r_skip ?_ | refine r_block ?_ | refine r_inBlock ?_ | refine x_ ?_ | refine w_ v_p ?_ | refine w_ v_cv ?_ | refine w_ v_and ?_ | refine w_ v_or ?_ | refine w_ v_f ?_ | refine w_ v_b ?_ | refine w_ v_r ?_ | refine w_ v_i ?_ | refine w_ v_a ?_ | refine w_ v_l ?_ | refine w_ v_la ?_ | refine w_ v_ls ?_ | refine w_ v_lr ?_ | refine w_ v_ln ?_ | refine w_ v_bd ?_ | refine w_ v_mf ?_ | refine e_ (f_st ?_) | refine e_ (f_al fun _ => ?_) | refine e_ (f_bx fun _ => ?_))
    refine t_ rfl (.tmp rfl .nil) (List.nil_sublist _) ⟨?_, rfl⟩
    rw [makeOdd, if_neg (by simp [h])]
    exact congrArg (Value.int .u8) (bw_or8 (b &&& 0x7f) 0x80)

theorem hp0_lt : ∀ n, n < 16 → hp0 n < 256 := by decide
theorem hp0_or : ∀ n, n < 16 → (UInt8.ofNat (hp0 n) ||| 64).toNat = hp0 n ||| 64 := by decide
theorem hp0_of : ∀ n, n < 16 → (UInt8.ofNat (hp0 n)).toNat = hp0 n := by decide

theorem put_does (n : Nat) (w : World) (hn : n < 16) : Does Tryz.prog 137 [.int .i64 n] w [] (fun v L => v = .int .u8 (hamPut n).toNat ∧ L = []) := by
  refine does_of Tryz.func137 rfl rfl ?_
  have h16 : n = 0 ∨ n = 1 ∨ n = 2 ∨ n = 3 ∨ n = 4 ∨ n = 5 ∨ n = 6 ∨ n = 7 ∨ n = 8 ∨ n = 9 ∨ n = 10 ∨ n = 11 ∨ n = 12 ∨ n = 13 ∨ n = 14 ∨ n = 15 := by omega
  have hlt := hp0_lt n hn
  repeat (first | refine r_seq ?_ | refine r_nil ?_ | refine r_region ?_ | refine r_skip ?_ | refine r_block ?_ | refine r_inBlock ?_ | refine x_ ?_ | refine w_ v_p ?_ | refine w_ v_cv ?_ | refine w_ v_and ?_ | refine w_ v_or ?_ | refine w_ v_f ?_ | refine w_ v_b ?_ | refine w_ v_r ?_ | refine w_ v_i ?_ | refine w_ v_a ?_ | refine w_ v_l ?_ | refine w_ v_la ?_ | refine w_ v_ls ?_ | refine w_ v_lr ?_ | refine w_ v_ln ?_ | refine w_ v_bd ?_ | refine w_ v_mf ?_ | refine e_ (f_st ?_) | refine e_ (f_al fun _ => ?_) | refine e_ (f_bx fun _ => ?_))
  have e0 : bw .and .i64 (n : Int) 1 = ((n % 2 : Nat) : Int) := an n 1 (by omega) (by omega)
  have d1 : (n : Int) / 2 ^ Int.toNat 1 = ((n / 2 : Nat) : Int) := shr_nat n 1
  have d2 : (n : Int) / 2 ^ Int.toNat 2 = ((n / 4 : Nat) : Int) := shr_nat n 2
  have d3 : (n : Int) / 2 ^ Int.toNat 3 = ((n / 8 : Nat) : Int) := shr_nat n 3
  have e1 : bw .and .i64 ((n / 2 : Nat) : Int) 1 = ((n / 2 % 2 : Nat) : Int) := an (n / 2) 1 (by omega) (by omega)
  have e2 : bw .and .i64 ((n / 4 : Nat) : Int) 1 = ((n / 4 % 2 : Nat) : Int) := an (n / 4) 1 (by omega) (by omega)
  have e3 : bw .and .i64 ((n / 8 : Nat) : Int) 1 = ((n / 8 % 2 : Nat) : Int) := an (n / 8) 1 (by omega) (by omega)
  refine e_ (f_bs (l := [.int .i64 (n % 2 : Nat), .int .i64 (n / 2 % 2 : Nat), .int .i64 (n / 4 % 2 : Nat), .int .i64 (n / 8 % 2 : Nat)]) (hl := by rw [d1, d2, d3, e0, e1, e2, e3]; rfl) fun b => ?_)
  clear e0 d1 d2 d3 e1 e2 e3
  repeat (first | refine r_seq ?_ | refine r_nil ?_ | refine r_region ?_ | refine r_skip ?_ | refine r_block ?_ | refine r_inBlock ?_ | refine x_ ?_ | refine w_ v_p ?_ | refine w_ v_cv ?_ | refine w_ v_and ?_ | refine w_ v_or ?_ | refine w_ v_f ?_ | refine w_ v_b ?_ | refine w_ v_r ?_ | refine w_ v_i ?_ | refine w_ v_a ?_ | refine w_ v_l ?_ | refine w_ v_la ?_ | refine w_ v_ls ?_ | refine w_ v_lr ?_ | refine w_ v_ln ?_ | refine w_ v_bd ?_ | refine w_ v_mf ?_ | refine e_ (f_st ?_) | refine e_ (f_al fun _ => ?_) | refine e_ (f_bx fun _ => ?_))
  refine d_all [] ?_
  first | (refine dp 0 ?_; first | refine tp (fun _ => v_p) ?_)
  first | (refine dp 1 ?_; first | refine tp (fun _ => v_a) ?_ | refine tp (fun _ => v_i) ?_) | (refine dw 1 ?_; first | refine tw (v_b) ?_ | refine tw (v_r) ?_)
  first | (refine dw 2 ?_; first | refine tw (v_l) ?_ | refine tw (v_la) ?_ | refine tw (v_ls) ?_ | refine tw (v_lr) ?_ | refine tw ((v_ge hG)) ?_)
  first | (refine dp 3 ?_; first | refine tp (fun _ => v_p) ?_ | refine tp (fun _ => v_nl) ?_ | refine tp (fun _ => v_nn) ?_ | refine tp (fun _ => v_bq) ?_)
  first | (refine dp 4 ?_; first | refine tp (fun _ => v_p) ?_)
  first | (refine dp 5 ?_; first | refine tp (fun _ => v_a) ?_ | refine tp (fun _ => v_i) ?_) | (refine dw 5 ?_; first | refine tw (v_b) ?_ | refine tw (v_r) ?_)
  first | (refine dw 6 ?_; first | refine tw (v_l) ?_ | refine tw (v_la) ?_ | refine tw (v_ls) ?_ | refine tw (v_lr) ?_ | refine tw ((v_ge hG)) ?_)
  first | (refine dp 7 ?_; first | refine tp (fun _ => v_p) ?_ | refine tp (fun _ => v_nl) ?_ | refine tp (fun _ => v_nn) ?_ | refine tp (fun _ => v_bq) ?_)
  first | (refine dp 8 ?_; first | refine tp (fun _ => v_p) ?_ | refine tp (fun _ => v_nl) ?_ | refine tp (fun _ => v_nn) ?_ | refine tp (fun _ => v_bq) ?_)
  first | (refine dp 9 ?_; first | refine tp (fun _ => v_p) ?_)
  first | (refine dp 10 ?_; first | refine tp (fun _ => v_a) ?_ | refine tp (fun _ => v_i) ?_) | (refine dw 10 ?_; first | refine tw (v_b) ?_ | refine tw (v_r) ?_)
  first | (refine dw 11 ?_; first | refine tw (v_l) ?_ | refine tw (v_la) ?_ | refine tw (v_ls) ?_ | refine tw (v_lr) ?_ | refine tw ((v_ge hG)) ?_)
  first | (refine dp 12 ?_; first | refine tp (fun _ => v_p) ?_ | refine tp (fun _ => v_nl) ?_ | refine tp (fun _ => v_nn) ?_ | refine tp (fun _ => v_bq) ?_)
  first | (refine dp 13 ?_; first | refine tp (fun _ => v_p) ?_ | refine tp (fun _ => v_nl) ?_ | refine tp (fun _ => v_nn) ?_ | refine tp (fun _ => v_bq) ?_)
  first | (refine dp 14 ?_; first | refine tp (fun _ => v_p) ?_)
  first | (refine dp 15 ?_; first | refine tp (fun _ => v_a) ?_ | refine tp (fun _ => v_i) ?_) | (refine dw 15 ?_; first | refine tw (v_b) ?_ | refine tw (v_r) ?_)
  first | (refine dw 16 ?_; first | refine tw (v_l) ?_ | refine tw (v_la) ?_ | refine tw (v_ls) ?_ | refine tw (v_lr) ?_ | refine tw ((v_ge hG)) ?_)
  first | (refine dp 17 ?_; first | refine tp (fun _ => v_p) ?_ | refine tp (fun _ => v_nl) ?_ | refine tp (fun _ => v_nn) ?_ | refine tp (fun _ => v_bq) ?_)
  first | (refine dp 18 ?_; first | refine tp (fun _ => v_p) ?_ | refine tp (fun _ => v_nl) ?_ | refine tp (fun _ => v_nn) ?_ | refine tp (fun _ => v_bq) ?_)
  first | (refine dp 19 ?_; first | refine tp (fun _ => v_p) ?_)
  refine d_z ?_
  refine r_seq ?_
  refine d_all [] ?_
  first | (refine dp 0 ?_; first | refine tp (fun _ => v_p) ?_)
  first | (refine dp 1 ?_; first | refine tp (fun _ => v_p) ?_)
  first | (refine dp 2 ?_; first | refine tp (fun _ => v_a) ?_ | refine tp (fun _ => v_i) ?_) | (refine dw 2 ?_; first | refine tw (v_b) ?_ | refine tw (v_r) ?_)
  first | (refine dw 3 ?_; first | refine tw (v_l) ?_ | refine tw (v_la) ?_ | refine tw (v_ls) ?_ | refine tw (v_lr) ?_ | refine tw ((v_ge hG)) ?_)
  first | (refine dp 4 ?_; first | refine tp (fun _ => v_p) ?_ | refine tp (fun _ => v_nl) ?_ | refine tp (fun _ => v_nn) ?_ | refine tp (fun _ => v_bq) ?_)
  first | (refine dp 5 ?_; first | refine tp (fun _ => v_p) ?_)
  first | (refine dp 6 ?_; first | refine tp (fun _ => v_a) ?_ | refine tp (fun _ => v_i) ?_) | (refine dw 6 ?_; first | refine tw (v_b) ?_ | refine tw (v_r) ?_)
  first | (refine dw 7 ?_; first | refine tw (v_l) ?_ | refine tw (v_la) ?_ | refine tw (v_ls) ?_ | refine tw (v_lr) ?_ | refine tw ((v_ge hG)) ?_)
  first | (refine dp 8 ?_; first | refine tp (fun _ => v_p) ?_ | refine tp (fun _ => v_nl) ?_ | refine tp (fun _ => v_nn) ?_ | refine tp (fun _ => v_bq) ?_)
  first | (refine dp 9 ?_; first | refine tp (fun _ => v_p) ?_)
  first | (refine dp 10 ?_; first | refine tp (fun _ => v_a) ?_ | refine tp (fun _ => v_i) ?_) | (refine dw 10 ?_; first | refine tw (v_b) ?_ | refine tw (v_r) ?_)
  first | (refine dw 11 ?_; first | refine tw (v_l) ?_ | refine tw (v_la) ?_ | refine tw (v_ls) ?_ | refine tw (v_lr) ?_ | refine tw ((v_ge hG)) ?_)
  first | (refine dp 12 ?_; first | refine tp (fun _ => v_p) ?_ | refine tp (fun _ => v_nl) ?_ | refine tp (fun _ => v_nn) ?_ | refine tp (fun _ => v_bq) ?_)
  first | (refine dp 13 ?_; first | refine tp (fun _ => v_p) ?_ | refine tp (fun _ => v_nl) ?_ | refine tp (fun _ => v_nn) ?_ | refine tp (fun _ => v_bq) ?_)
  first | (refine dp 14 ?_; first | refine tp (fun _ => v_p) ?_)
  first | (refine dp 15 ?_; first | refine tp (fun _ => v_a) ?_ | refine tp (fun _ => v_i) ?_) | (refine dw 15 ?_; first | refine tw (v_b) ?_ | refine tw (v_r) ?_)
  first | (refine dw 16 ?_; first | refine tw (v_l) ?_ | refine tw (v_la) ?_ | refine tw (v_ls) ?_ | refine tw (v_lr) ?_ | refine tw ((v_ge hG)) ?_)
  first | (refine dp 17 ?_; first | refine tp (fun _ => v_p) ?_ | refine tp (fun _ => v_nl) ?_ | refine tp (fun _ => v_nn) ?_ | refine tp (fun _ => v_bq) ?_)
  first | (refine dp 18 ?_; first | refine tp (fun _ => v_p) ?_)
  first | (refine dp 19 ?_; first | refine tp (fun _ => v_a) ?_ | refine tp (fun _ => v_i) ?_) | (refine dw 19 ?_; first | refine tw (v_b) ?_ | refine tw (v_r) ?_)
  first | (refine dw 20 ?_; first | refine tw (v_l) ?_ | refine tw (v_la) ?_ | refine tw (v_ls) ?_ | refine tw (v_lr) ?_ | refine tw ((v_ge hG)) ?_)
  first | (refine dp 21 ?_; first | refine tp (fun _ => v_p) ?_ | refine tp (fun _ => v_nl) ?_ | refine tp (fun _ => v_nn) ?_ | refine tp (fun _ => v_bq) ?_)
  first | (refine dp 22 ?_; first | refine tp (fun _ => v_p) ?_)
  first | (refine dp 23 ?_; first | refine tp (fun _ => v_a) ?_ | refine tp (fun _ => v_i) ?_) | (refine dw 23 ?_; first | refine tw (v_b) ?_ | refine tw (v_r) ?_)
  first | (refine dw 24 ?_; first | refine tw (v_l) ?_ | refine tw (v_la) ?_ | refine tw (v_ls) ?_ | refine tw (v_lr) ?_ | refine tw ((v_ge hG)) ?_)
  first | (refine dp 25 ?_; first | refine tp (fun _ => v_p) ?_ | refine tp (fun _ => v_nl) ?_ | refine tp (fun _ => v_nn) ?_ | refine tp (fun _ => v_bq) ?_)
  first | (refine dp 26 ?_; first | refine tp (fun _ => v_p) ?_ | refine tp (fun _ => v_nl) ?_ | refine tp (fun _ => v_nn) ?_ | refine tp (fun _ => v_bq) ?_)
  first | (refine dp 27 ?_; first | refine tp (fun _ => v_p) ?_ | refine tp (fun _ => v_nl) ?_ | refine tp (fun _ => v_nn) ?_ | refine tp (fun _ => v_bq) ?_)
  first | (refine dp 28 ?_; first | refine tp (fun _ => v_p) ?_)
  first | (refine dp 29 ?_; first | refine tp (fun _ => v_a) ?_ | refine tp (fun _ => v_i) ?_) | (refine dw 29 ?_; first | refine tw (v_b) ?_ | refine tw (v_r) ?_)
  first | (refine dw 30 ?_; first | refine tw (v_l) ?_ | refine tw (v_la) ?_ | refine tw (v_ls) ?_ | refine tw (v_lr) ?_ | refine tw ((v_ge hG)) ?_)
  first | (refine dp 31 ?_; first | refine tp (fun _ => v_p) ?_ | refine tp (fun _ => v_nl) ?_ | refine tp (fun _ => v_nn) ?_ | refine tp (fun _ => v_bq) ?_)
  first | (refine dp 32 ?_; first | refine tp (fun _ => v_p) ?_)
  first | (refine dp 33 ?_; first | refine tp (fun _ => v_a) ?_ | refine tp (fun _ => v_i) ?_) | (refine dw 33 ?_; first | refine tw (v_b) ?_ | refine tw (v_r) ?_)
  first | (refine dw 34 ?_; first | refine tw (v_l) ?_ | refine tw (v_la) ?_ | refine tw (v_ls) ?_ | refine tw (v_lr) ?_ | refine tw ((v_ge hG)) ?_)
  first | (refine dp 35 ?_; first | refine tp (fun _ => v_p) ?_ | refine tp (fun _ => v_nl) ?_ | refine tp (fun _ => v_nn) ?_ | refine tp (fun _ => v_bq) ?_)
  first | (refine dp 36 ?_; first | refine tp (fun _ => v_p) ?_)
  first | (refine dp 37 ?_; first | refine tp (fun _ => v_a) ?_ | refine tp (fun _ => v_i) ?_) | (refine dw 37 ?_; first | refine tw (v_b) ?_ | refine tw (v_r) ?_)
  first | (refine dw 38 ?_; first | refine tw (v_l) ?_ | refine tw (v_la) ?_ | refine tw (v_ls) ?_ | refine tw (v_lr) ?_ | refine tw ((v_ge hG)) ?_)
  first | (refine dp 39 ?_; first | refine tp (fun _ => v_p) ?_ | refine tp (fun _ => v_nl) ?_ | refine tp (fun _ => v_nn) ?_ | refine tp (fun _ => v_bq) ?_)
  first | (refine dp 40 ?_; first | refine tp (fun _ => v_p) ?_ | refine tp (fun _ => v_nl) ?_ | refine tp (fun _ => v_nn) ?_ | refine tp (fun _ => v_bq) ?_)
  first | (refine dp 41 ?_; first | refine tp (fun _ => v_p) ?_ | refine tp (fun _ => v_nl) ?_ | refine tp (fun _ => v_nn) ?_ | refine tp (fun _ => v_bq) ?_)
  first | (refine dp 42 ?_; first | refine tp (fun _ => v_p) ?_)
  refine d_z ?_
  refine r_as 4 (congrArg (Value.int .i64) (?_ : _ = ((hp0 n : Nat) : Int))) ?_
  · rcases h16 with rfl | rfl | rfl | rfl | rfl | rfl | rfl | rfl | rfl | rfl | rfl | rfl | rfl | rfl | rfl | rfl <;> decide
  repeat (first | refine r_seq ?_ | refine r_nil ?_ | refine r_region ?_ | refine r_skip ?_ | refine r_block ?_ | refine r_inBlock ?_ | refine x_ ?_ | refine w_ v_p ?_ | refine w_ v_cv ?_ | refine w_ v_and ?_ | refine w_ v_or ?_ | refine w_ v_f ?_ | refine w_ v_b ?_ | refine w_ v_r ?_ | refine w_ v_i ?_ | refine w_ v_a ?_ | refine w_ v_l ?_ | refine w_ v_la ?_ | refine w_ v_ls ?_ | refine w_ v_lr ?_ | refine w_ v_ln ?_ | refine w_ v_bd ?_ | refine w_ v_mf ?_ | refine e_ (f_st ?_) | refine e_ (f_al fun _ => ?_) | refine e_ (f_bx fun _ => ?_))
  refine e_ (f_c (fun w _ => ones_does (hp0 n) w (by omega)) fun v L' h => ?_)
  obtain ⟨rfl, rfl⟩ := h
  have hodd : oddB (UInt8.ofNat (hp0 n)) = (pop (hp0 n) % 2 == 1) := by rw [oddB, hp0_of n hn]
  repeat (first | refine r_seq ?_ | refine r_nil ?_ | refine r_region ?_ | refine r_skip ?_ | refine r_block ?_ | refine r_inBlock ?_ | refine x_ ?_ | refine w_ v_p ?_ | refine w_ v_cv ?_ | refine w_ v_and ?_ | refine w_ v_or ?_ | refine w_ v_f ?_ | refine w_ v_b ?_ | refine w_ v_r ?_ | refine w_ v_i ?_ | refine w_ v_a ?_ | refine w_ v_l ?_ | refine w_ v_la ?_ | refine w_ v_ls ?_ | refine w_ v_lr ?_ | refine w_ v_ln ?_ | refine w_ v_bd ?_ | refine w_ v_mf ?_ | refine e_ (f_st ?_) | refine e_ (f_al fun _ => ?_) | refine e_ (f_bx fun _ => ?_))
  refine c_ (fun h => ?_) (fun h => ?_)
  · have h1 : oddB (UInt8.ofNat (hp0 n)) = false := by
      rw [hodd]; simp only [beq_iff_eq, beq_eq_false_iff_ne, ne_eq] at h ⊢; omega
    have hb : bw .or .i64 (hp0 n : Int) 64 = ((hp0 n ||| 64 : Nat) : Int) := bw_or (hp0 n) 64 (by omega) (by omega)
    have hp : (hamPut n).toNat = hp0 n ||| 64 := by
      simp only [hamPut, h1, Bool.false_eq_true, if_false]; exact hp0_or n hn
    have hlt2 := (hamPut n).toNat_lt
    repeat (first | refine r_seq ?_ | refine r_nil ?_ | refine r_region ?_ | refine r_skip ?_ | refine r_block ?_ | refine r_inBlock ?_ | refine x_ ?_ | refine w_ v_p ?_ | refine w_ v_cv ?_ | refine w_ v_and ?_ | refine w_ v_or ?_ | refine w_ v_f ?_ | refine w_ v_b ?_ | refine w_ v_r ?_ | refine w_ v_i ?_ | refine w_ v_a ?_ | refine w_ v_l ?_ | refine w_ v_la ?_ | refine w_ v_ls ?_ | refine w_ v_lr ?_ | refine w_ v_ln ?_ | refine w_ v_bd ?_ | refine w_ v_mf ?_ | refine e_ (f_st ?_) | refine e_ (f_al fun _ => ?_) | refine e_ (f_bx fun _ => ?_))
    exact t_ rfl (.tmp rfl .nil) (List.nil_sublist _) ⟨by rw [hp]; exact congrArg (Value.int .u8) hb, rfl⟩
  · have h1 : oddB (UInt8.ofNat (hp0 n)) = true := by
      rw [hodd]; simp only [beq_iff_eq, beq_eq_false_iff_ne, ne_eq] at h ⊢; omega
    have hp : (hamPut n).toNat = hp0 n := by
      simp only [hamPut, h1, if_true]; exact hp0_of n hn
    repeat (first | refine r_seq ?_ | refine r_nil ?_ | refine r_region ?_ | refine r_skip ?_ | refine r_block ?_ | refine r_inBlock ?_ | refine x_ ?_ | refine w_ v_p ?_ | refine w_ v_cv ?_ | refine w_ v_and ?_ | refine w_ v_or ?_ | refine w_ v_f ?_ | refine w_ v_b ?_ | refine w_ v_r ?_ | refine w_ v_i ?_ | refine w_ v_a ?_ | refine w_ v_l ?_ | refine w_ v_la ?_ | refine w_ v_ls ?_ | refine w_ v_lr ?_ | refine w_ v_ln ?_ | refine w_ v_bd ?_ | refine w_ v_mf ?_ | refine e_ (f_st ?_) | refine e_ (f_al fun _ => ?_) | refine e_ (f_bx fun _ => ?_))
    refine t_ rfl (.tmp rfl .nil) (List.nil_sublist _) ⟨?_, rfl⟩
    rw [hp]; rfl
end Go.Proofs

namespace Go.Cf

/-- The six nibbles of a place, and three bits beside. -/
def nib6 (page sub bits : Nat) : List Nat := [page % 16, page / 16, sub % 16, sub / 16 % 8 + bits % 2 * 8, sub / 256 % 16, sub / 4096 % 4 + bits / 2 * 4]
def hams (l : List Nat) : List UInt8 := l.map hamPut
/-- A packet of a magazine and a row. -/
def packB (mag row : Nat) (d : List UInt8) : List UInt8 := hamPut (mag % 8 + row % 2 * 8) :: hamPut (row / 2) :: d
/-- Text with its parity, so long. -/
def oddT (b : List UInt8) (n : Nat) : List UInt8 := (List.range n).map fun i => makeOdd (if i < b.length then b.getD i 0 else 0x20)
theorem oddT_length (b : List UInt8) (n : Nat) : (oddT b n).length = n := by simp [oddT]
theorem oddT_succ (b : List UInt8) (n : Nat) : oddT b (n + 1) = oddT b n ++ [makeOdd (if n < b.length then b.getD n 0 else 0x20)] := by simp [oddT, List.range_succ]
theorem wrap_u64 {z : Int} (h : 0 ≤ z ∧ z ≤ 18446744073709551615) : IntKind.u64.wrap z = z := by
  have e1 : (2 : Int) ^ IntKind.u64.bits = 18446744073709551616 := by decide
  simp only [IntKind.wrap, IntKind.signed, e1, Bool.false_and, Bool.false_eq_true, if_false]
  omega
theorem wrap_u32 {z : Int} (h : 0 ≤ z ∧ z ≤ 4294967295) : IntKind.u32.wrap z = z := by
  have e1 : (2 : Int) ^ IntKind.u32.bits = 4294967296 := by decide
  simp only [IntKind.wrap, IntKind.signed, e1, Bool.false_and, Bool.false_eq_true, if_false]
  omega

/-- The flags as a number. -/
def flagN (c : Nat → Bool) : Nat → Nat
  | 0 => 0
  | i + 1 => flagN c i + boolN (c i) * 2 ^ i
theorem flagN_lt (c : Nat → Bool) : ∀ i, flagN c i < 2 ^ i
  | 0 => Nat.one_pos
  | i + 1 => by
    have h1 := flagN_lt c i
    have h2 : boolN (c i) ≤ 1 := by cases c i <;> decide
    have h3 : boolN (c i) * 2 ^ i ≤ 1 * 2 ^ i := Nat.mul_le_mul_right _ h2
    rw [flagN, Nat.pow_succ]; omega

/-- May this place be? -/
def Right (p : Pl) : Prop := 1 ≤ p.mag ∧ p.mag ≤ 8 ∧ p.page < 256 ∧ p.sub < 16384 ∧ bw .andNot .i64 (p.sub : Int) 16255 = 0

/-- A head's packet. -/
def headB (h : Hd) (t : List UInt8) : List UInt8 :=
  packB h.pl.mag 0 (hams (nib6 h.pl.page h.pl.sub (flagN h.c 11 % 8)) ++ hams [flagN h.c 11 / 8 % 16, flagN h.c 11 / 128 % 16] ++ t)
end Go.Cf

namespace Go.Proofs
open Go.Cf
set_option maxRecDepth 10000

theorem put_does' {z : Int} {n : Nat} (hz : z = (n : Int)) (hn : n < 16) (w : World) : Does Tryz.prog 137 [.int .i64 z] w [] (fun v L => v = .int .u8 (hamPut n).toNat ∧ L = []) := by subst hz; exact put_does n w hn

theorem placed_does (page sub bits : Nat) (w : World) (h1 : page < 256) (h2 : sub < 16384) (h3 : bits < 8) :
    Does Tryz.prog 136 [.int .i64 page, .int .i64 sub, .int .i64 bits] w [] (fun v L => ∃ b, v = .slice (some ⟨b, 0, none⟩) 6 6 ∧ L = [.row (some ⟨b, 0, none⟩) 6 6 (bys (hams (nib6 page sub bits))) 5 1]) := by
  refine does_of Tryz.func136 rfl rfl ?_
  have e0 : bw .and .i64 (page : Int) 15 = ((page % 16 : Nat) : Int) := an page 4 (by omega) (by omega)
  have e1 : (page : Int) / 2 ^ Int.toNat 4 = ((page / 16 : Nat) : Int) := shr_nat page 4
  have e2 : bw .and .i64 (sub : Int) 15 = ((sub % 16 : Nat) : Int) := an sub 4 (by omega) (by omega)
  have s4 : (sub : Int) / 2 ^ Int.toNat 4 = ((sub / 16 : Nat) : Int) := shr_nat sub 4
  have s8 : (sub : Int) / 2 ^ Int.toNat 8 = ((sub / 256 : Nat) : Int) := shr_nat sub 8
  have s12 : (sub : Int) / 2 ^ Int.toNat 12 = ((sub / 4096 : Nat) : Int) := shr_nat sub 12
  have b1 : (bits : Int) / 2 ^ Int.toNat 1 = ((bits / 2 : Nat) : Int) := shr_nat bits 1
  have a7 : bw .and .i64 ((sub / 16 : Nat) : Int) 7 = ((sub / 16 % 8 : Nat) : Int) := an (sub / 16) 3 (by omega) (by omega)
  have a1 : bw .and .i64 (bits : Int) 1 = ((bits % 2 : Nat) : Int) := an bits 1 (by omega) (by omega)
  have e3 : bw .or .i64 ((sub / 16 % 8 : Nat) : Int) (shl .i64 ((bits % 2 : Nat) : Int) 3) = ((sub / 16 % 8 + bits % 2 * 8 : Nat) : Int) := os _ (bits % 2) 3 (by omega) (by omega) (by omega)
  rw [← a7, ← s4, ← a1] at e3
  have e4 : bw .and .i64 ((sub / 256 : Nat) : Int) 15 = ((sub / 256 % 16 : Nat) : Int) := an (sub / 256) 4 (by omega) (by omega)
  rw [← s8] at e4
  have a3 : bw .and .i64 ((sub / 4096 : Nat) : Int) 3 = ((sub / 4096 % 4 : Nat) : Int) := an (sub / 4096) 2 (by omega) (by omega)
  have e5 : bw .or .i64 ((sub / 4096 % 4 : Nat) : Int) (shl .i64 ((bits / 2 : Nat) : Int) 2) = ((sub / 4096 % 4 + bits / 2 * 4 : Nat) : Int) := os _ (bits / 2) 2 (by omega) (by omega) (by omega)
  rw [← a3, ← s12, ← b1] at e5
  repeat (first | refine r_seq ?_ | refine r_nil ?_ | refine r_region ?_ | refine r_skip ?_ | refine r_block ?_ | refine r_inBlock ?_ | refine x_ ?_ | refine w_ v_p ?_ | refine w_ v_cv ?_ | refine w_ v_and ?_ | refine w_ v_or ?_ | refine w_ v_f ?_ | refine w_ v_b ?_ | refine w_ v_r ?_ | refine w_ v_i ?_ | refine w_ v_a ?_ | refine w_ v_l ?_ | refine w_ v_la ?_ | refine w_ v_ls ?_ | refine w_ v_lr ?_ | refine w_ v_ln ?_ | refine w_ v_bd ?_ | refine w_ v_mf ?_ | refine e_ (f_st ?_) | refine e_ (f_al fun _ => ?_) | refine e_ (f_bx fun _ => ?_))
  refine e_ (f_c (fun w _ => put_does' e0 (by omega) w) fun v L' h => ?_)
  obtain ⟨rfl, rfl⟩ := h
  repeat (first | refine r_seq ?_ | refine r_nil ?_ | refine r_region ?_ | refine r_skip ?_ | refine r_block ?_ | refine r_inBlock ?_ | refine x_ ?_ | refine w_ v_p ?_ | refine w_ v_cv ?_ | refine w_ v_and ?_ | refine w_ v_or ?_ | refine w_ v_f ?_ | refine w_ v_b ?_ | refine w_ v_r ?_ | refine w_ v_i ?_ | refine w_ v_a ?_ | refine w_ v_l ?_ | refine w_ v_la ?_ | refine w_ v_ls ?_ | refine w_ v_lr ?_ | refine w_ v_ln ?_ | refine w_ v_bd ?_ | refine w_ v_mf ?_ | refine e_ (f_st ?_) | refine e_ (f_al fun _ => ?_) | refine e_ (f_bx fun _ => ?_))
  refine e_ (f_c (fun w _ => put_does' e1 (by omega) w) fun v L' h => ?_)
  obtain ⟨rfl, rfl⟩ := h
  repeat (first | refine r_seq ?_ | refine r_nil ?_ | refine r_region ?_ | refine r_skip ?_ | refine r_block ?_ | refine r_inBlock ?_ | refine x_ ?_ | refine w_ v_p ?_ | refine w_ v_cv ?_ | refine w_ v_and ?_ | refine w_ v_or ?_ | refine w_ v_f ?_ | refine w_ v_b ?_ | refine w_ v_r ?_ | refine w_ v_i ?_ | refine w_ v_a ?_ | refine w_ v_l ?_ | refine w_ v_la ?_ | refine w_ v_ls ?_ | refine w_ v_lr ?_ | refine w_ v_ln ?_ | refine w_ v_bd ?_ | refine w_ v_mf ?_ | refine e_ (f_st ?_) | refine e_ (f_al fun _ => ?_) | refine e_ (f_bx fun _ => ?_))
  refine e_ (f_c (fun w _ => put_does' e2 (by omega) w) fun v L' h => ?_)
  obtain ⟨rfl, rfl⟩ := h
  repeat (first | refine r_seq ?_ | refine r_nil ?_ | refine r_region ?_ | refine r_skip ?_ | refine r_block ?_ | refine r_inBlock ?_ | refine x_ ?_ | refine w_ v_p ?_ | refine w_ v_cv ?_ | refine w_ v_and ?_ | refine w_ v_or ?_ | refine w_ v_f ?_ | refine w_ v_b ?_ | refine w_ v_r ?_ | refine w_ v_i ?_ | refine w_ v_a ?_ | refine w_ v_l ?_ | refine w_ v_la ?_ | refine w_ v_ls ?_ | refine w_ v_lr ?_ | refine w_ v_ln ?_ | refine w_ v_bd ?_ | refine w_ v_mf ?_ | refine e_ (f_st ?_) | refine e_ (f_al fun _ => ?_) | refine e_ (f_bx fun _ => ?_))
  refine e_ (f_c (fun w _ => put_does' e3 (by omega) w) fun v L' h => ?_)
  obtain ⟨rfl, rfl⟩ := h
  repeat (first | refine r_seq ?_ | refine r_nil ?_ | refine r_region ?_ | refine r_skip ?_ | refine r_block ?_ | refine r_inBlock ?_ | refine x_ ?_ | refine w_ v_p ?_ | refine w_ v_cv ?_ | refine w_ v_and ?_ | refine w_ v_or ?_ | refine w_ v_f ?_ | refine w_ v_b ?_ | refine w_ v_r ?_ | refine w_ v_i ?_ | refine w_ v_a ?_ | refine w_ v_l ?_ | refine w_ v_la ?_ | refine w_ v_ls ?_ | refine w_ v_lr ?_ | refine w_ v_ln ?_ | refine w_ v_bd ?_ | refine w_ v_mf ?_ | refine e_ (f_st ?_) | refine e_ (f_al fun _ => ?_) | refine e_ (f_bx fun _ => ?_))
  refine e_ (f_c (fun w _ => put_does' e4 (by omega) w) fun v L' h => ?_)
  obtain ⟨rfl, rfl⟩ := h
  repeat (first | refine r_seq ?_ | refine r_nil ?_ | refine r_region ?_ | refine r_skip ?_ | refine r_block ?_ | refine r_inBlock ?_ | refine x_ ?_ | refine w_ v_p ?_ | refine w_ v_cv ?_ | refine w_ v_and ?_ | refine w_ v_or ?_ | refine w_ v_f ?_ | refine w_ v_b ?_ | refine w_ v_r ?_ | refine w_ v_i ?_ | refine w_ v_a ?_ | refine w_ v_l ?_ | refine w_ v_la ?_ | refine w_ v_ls ?_ | refine w_ v_lr ?_ | refine w_ v_ln ?_ | refine w_ v_bd ?_ | refine w_ v_mf ?_ | refine e_ (f_st ?_) | refine e_ (f_al fun _ => ?_) | refine e_ (f_bx fun _ => ?_))
  refine e_ (f_c (fun w _ => put_does' e5 (by omega) w) fun v L' h => ?_)
  obtain ⟨rfl, rfl⟩ := h
  refine e_ (f_bs (l := bys (hams (nib6 page sub bits))) fun b => ?_)
  refine r_cr 6 1 ?_
  repeat (first | refine r_seq ?_ | refine r_nil ?_ | refine r_region ?_ | refine r_skip ?_ | refine r_block ?_ | refine r_inBlock ?_ | refine x_ ?_ | refine w_ v_p ?_ | refine w_ v_cv ?_ | refine w_ v_and ?_ | refine w_ v_or ?_ | refine w_ v_f ?_ | refine w_ v_b ?_ | refine w_ v_r ?_ | refine w_ v_i ?_ | refine w_ v_a ?_ | refine w_ v_l ?_ | refine w_ v_la ?_ | refine w_ v_ls ?_ | refine w_ v_lr ?_ | refine w_ v_ln ?_ | refine w_ v_bd ?_ | refine w_ v_mf ?_ | refine e_ (f_st ?_) | refine e_ (f_al fun _ => ?_) | refine e_ (f_bx fun _ => ?_))
  exact t_ rfl (.tmp rfl .nil) (.cons_cons _ (List.nil_sublist _)) ⟨b, rfl, rfl⟩

theorem packed_does (mag row : Nat) (d : List UInt8) (p : Option Addr) (c m : Nat) (w : World) (h1 : mag < 2 ^ 32) (h2 : row < 32) (hm : d.length = m) (hl : m ≤ 1000) (hs : Sl w [] p m 1 (bys d)) :
    Does Tryz.prog 65 [.int .i64 mag, .int .i64 row, .slice p m c] w [] (fun v L => ∃ q c', v = .slice q (2 + m) c' ∧ L = [.row q (2 + m) c' (bys (packB mag row d)) 5 1]) := by
  refine does_of Tryz.func65 rfl rfl ?_
  have a1 : bw .and .i64 (row : Int) 1 = ((row % 2 : Nat) : Int) := an row 1 (by omega) (by omega)
  have e0 : bw .or .i64 ((mag % 8 : Nat) : Int) (shl .i64 ((row % 2 : Nat) : Int) 3) = ((mag % 8 + row % 2 * 8 : Nat) : Int) := os _ (row % 2) 3 (by omega) (by omega) (by omega)
  rw [← a1] at e0
  have e1 : (row : Int) / 2 ^ Int.toNat 1 = ((row / 2 : Nat) : Int) := shr_nat row 1
  repeat (first | refine r_seq ?_ | refine r_nil ?_ | refine r_region ?_ | refine r_skip ?_ | refine r_block ?_ | refine r_inBlock ?_ | refine x_ ?_ | refine w_ v_p ?_ | refine w_ v_cv ?_ | refine w_ v_and ?_ | refine w_ v_or ?_ | refine w_ v_f ?_ | refine w_ v_b ?_ | refine w_ v_r ?_ | refine w_ v_i ?_ | refine w_ v_a ?_ | refine w_ v_l ?_ | refine w_ v_la ?_ | refine w_ v_ls ?_ | refine w_ v_lr ?_ | refine w_ v_ln ?_ | refine w_ v_bd ?_ | refine w_ v_mf ?_ | refine e_ (f_st ?_) | refine e_ (f_al fun _ => ?_) | refine e_ (f_bx fun _ => ?_))
  refine e_ (f_c (fun w _ => put_does' e0 (by omega) w) fun v L' h => ?_)
  obtain ⟨rfl, rfl⟩ := h
  repeat (first | refine r_seq ?_ | refine r_nil ?_ | refine r_region ?_ | refine r_skip ?_ | refine r_block ?_ | refine r_inBlock ?_ | refine x_ ?_ | refine w_ v_p ?_ | refine w_ v_cv ?_ | refine w_ v_and ?_ | refine w_ v_or ?_ | refine w_ v_f ?_ | refine w_ v_b ?_ | refine w_ v_r ?_ | refine w_ v_i ?_ | refine w_ v_a ?_ | refine w_ v_l ?_ | refine w_ v_la ?_ | refine w_ v_ls ?_ | refine w_ v_lr ?_ | refine w_ v_ln ?_ | refine w_ v_bd ?_ | refine w_ v_mf ?_ | refine e_ (f_st ?_) | refine e_ (f_al fun _ => ?_) | refine e_ (f_bx fun _ => ?_))
  refine e_ (f_c (fun w _ => put_does' e1 (by omega) w) fun v L' h => ?_)
  obtain ⟨rfl, rfl⟩ := h
  refine e_ (f_bs (l := bys [hamPut (mag % 8 + row % 2 * 8), hamPut (row / 2)]) fun b => ?_)
  refine r_cr 2 1 ?_
  repeat (first | refine r_seq ?_ | refine r_nil ?_ | refine r_region ?_ | refine r_skip ?_ | refine r_block ?_ | refine r_inBlock ?_ | refine x_ ?_ | refine w_ v_p ?_ | refine w_ v_cv ?_ | refine w_ v_and ?_ | refine w_ v_or ?_ | refine w_ v_f ?_ | refine w_ v_b ?_ | refine w_ v_r ?_ | refine w_ v_i ?_ | refine w_ v_a ?_ | refine w_ v_l ?_ | refine w_ v_la ?_ | refine w_ v_ls ?_ | refine w_ v_lr ?_ | refine w_ v_ln ?_ | refine w_ v_bd ?_ | refine w_ v_mf ?_ | refine e_ (f_st ?_) | refine e_ (f_al fun _ => ?_) | refine e_ (f_bx fun _ => ?_))
  refine e_ (f_a (fun w hw => hs.now hw) (bys_plain d) fun q c' => ?_)
  repeat (first | refine r_seq ?_ | refine r_nil ?_ | refine r_region ?_ | refine r_skip ?_ | refine r_block ?_ | refine r_inBlock ?_ | refine x_ ?_ | refine w_ v_p ?_ | refine w_ v_cv ?_ | refine w_ v_and ?_ | refine w_ v_or ?_ | refine w_ v_f ?_ | refine w_ v_b ?_ | refine w_ v_r ?_ | refine w_ v_i ?_ | refine w_ v_a ?_ | refine w_ v_l ?_ | refine w_ v_la ?_ | refine w_ v_ls ?_ | refine w_ v_lr ?_ | refine w_ v_ln ?_ | refine w_ v_bd ?_ | refine w_ v_mf ?_ | refine e_ (f_st ?_) | refine e_ (f_al fun _ => ?_) | refine e_ (f_bx fun _ => ?_))
  exact t_ rfl (.tmp rfl .nil) (.cons_cons _ (List.nil_sublist _)) ⟨q, c', rfl, rfl⟩

theorem oddT_does (b : List UInt8) (p : Option Addr) (c m n : Nat) (w : World) (hm : b.length = m) (_hl : m ≤ 1000) (hn : n ≤ 1000) (hs : Sl w [] p m 1 (bys b)) :
    Does Tryz.prog 64 [.slice p m c, .int .i64 n] w [] (fun v L => ∃ q c', v = .slice q n c' ∧ L = [.row q n c' (bys (oddT b n)) 5 1]) := by
  refine does_of Tryz.func64 rfl rfl ?_
  repeat (first | refine r_seq ?_ | refine r_nil ?_ | refine r_region ?_ | refine r_skip ?_ | refine r_block ?_ | refine r_inBlock ?_ | refine x_ ?_ | refine w_ v_p ?_ | refine w_ v_cv ?_ | refine w_ v_and ?_ | refine w_ v_or ?_ | refine w_ v_f ?_ | refine w_ v_b ?_ | refine w_ v_r ?_ | refine w_ v_i ?_ | refine w_ v_a ?_ | refine w_ v_l ?_ | refine w_ v_la ?_ | refine w_ v_ls ?_ | refine w_ v_lr ?_ | refine w_ v_ln ?_ | refine w_ v_bd ?_ | refine w_ v_mf ?_ | refine e_ (f_st ?_) | refine e_ (f_al fun _ => ?_) | refine e_ (f_bx fun _ => ?_))
  refine r_row (T := 5) (sz := 1) ?_
  refine r_loop (τ := Nat × Option Addr × Nat) (fun t => t.1 ≤ n) (fun t => n - t.1)
    (fun t => [(0, .v (.slice p m c)), (1, .v (.int .i64 n)), (5, .v (.slice t.2.1 t.1 t.2.2)), (6, .v (.int .i64 t.1))])
    (fun t => [.row t.2.1 t.1 t.2.2 (bys (oddT b t.1)) 5 1]) (0, none, 0) (by dsimp only; omega) ⟨rfl, rfl, rfl, rfl, trivial⟩ (List.Sublist.refl _) ?_
  rintro ⟨i, q, c'⟩ hi f
  dsimp only at hi
  repeat (first | refine r_seq ?_ | refine r_nil ?_ | refine r_region ?_ | refine r_skip ?_ | refine r_block ?_ | refine r_inBlock ?_ | refine x_ ?_ | refine w_ v_p ?_ | refine w_ v_cv ?_ | refine w_ v_and ?_ | refine w_ v_or ?_ | refine w_ v_f ?_ | refine w_ v_b ?_ | refine w_ v_r ?_ | refine w_ v_i ?_ | refine w_ v_a ?_ | refine w_ v_l ?_ | refine w_ v_la ?_ | refine w_ v_ls ?_ | refine w_ v_lr ?_ | refine w_ v_ln ?_ | refine w_ v_bd ?_ | refine w_ v_mf ?_ | refine e_ (f_st ?_) | refine e_ (f_al fun _ => ?_) | refine e_ (f_bx fun _ => ?_))
  refine c_ (fun h => ?_) (fun h => ?_)
  · simp only [decide_eq_true_eq] at h
    generalize hx : (if i < b.length then b.getD i 0 else 0x20) = x
    repeat (first | refine r_seq ?_ | refine r_nil ?_ | refine r_region ?_ | refine r_skip ?_ | refine r_block ?_ | refine r_inBlock ?_ | refine x_ ?_ | refine w_ v_p ?_ | refine w_ v_cv ?_ | refine w_ v_and ?_ | refine w_ v_or ?_ | refine w_ v_f ?_ | refine w_ v_b ?_ | refine w_ v_r ?_ | refine w_ v_i ?_ | refine w_ v_a ?_ | refine w_ v_l ?_ | refine w_ v_la ?_ | refine w_ v_ls ?_ | refine w_ v_lr ?_ | refine w_ v_ln ?_ | refine w_ v_bd ?_ | refine w_ v_mf ?_ | refine e_ (f_st ?_) | refine e_ (f_al fun _ => ?_) | refine e_ (f_bx fun _ => ?_))
    refine r_mt (τ := Unit) (fun _ => True) (fun _ => [(7, .v (.int .u8 x.toNat)), (0, .v (.slice p m c)), (1, .v (.int .i64 n)), (5, .v (.slice q i c')), (6, .v (.int .i64 i))]) ?_ ?_
    · refine c_ (fun h1 => ?_) (fun h1 => ?_)
      · simp only [decide_eq_true_eq] at h1
        have hb : b[i]? = some x := by
          rw [if_pos (by omega)] at hx
          rw [← hx, List.getD_eq_getElem?_getD, List.getElem?_eq_getElem (by omega)]; rfl
        have hload : (bys b)[((i : Nat) : Int).toNat * 1]? = some (.int .u8 x.toNat) := by simpa using bys_get hb
        repeat (first | refine w_ (v_ls (hv := hload)) ?_ | refine r_seq ?_ | refine r_nil ?_ | refine r_region ?_ | refine r_skip ?_ | refine r_block ?_ | refine r_inBlock ?_ | refine x_ ?_ | refine w_ v_p ?_ | refine w_ v_cv ?_ | refine w_ v_and ?_ | refine w_ v_or ?_ | refine w_ v_f ?_ | refine w_ v_b ?_ | refine w_ v_r ?_ | refine w_ v_i ?_ | refine w_ v_a ?_ | refine w_ v_l ?_ | refine w_ v_la ?_ | refine w_ v_ls ?_ | refine w_ v_lr ?_ | refine w_ v_ln ?_ | refine w_ v_bd ?_ | refine w_ v_mf ?_ | refine e_ (f_st ?_) | refine e_ (f_al fun _ => ?_) | refine e_ (f_bx fun _ => ?_))
        exact r_met () trivial ⟨rfl, rfl, rfl, rfl, rfl, trivial⟩ (List.Sublist.refl _)
      · simp only [decide_eq_false_iff_not] at h1
        rw [if_neg (by omega)] at hx
        subst hx
        repeat (first | refine r_seq ?_ | refine r_nil ?_ | refine r_region ?_ | refine r_skip ?_ | refine r_block ?_ | refine r_inBlock ?_ | refine x_ ?_ | refine w_ v_p ?_ | refine w_ v_cv ?_ | refine w_ v_and ?_ | refine w_ v_or ?_ | refine w_ v_f ?_ | refine w_ v_b ?_ | refine w_ v_r ?_ | refine w_ v_i ?_ | refine w_ v_a ?_ | refine w_ v_l ?_ | refine w_ v_la ?_ | refine w_ v_ls ?_ | refine w_ v_lr ?_ | refine w_ v_ln ?_ | refine w_ v_bd ?_ | refine w_ v_mf ?_ | refine e_ (f_st ?_) | refine e_ (f_al fun _ => ?_) | refine e_ (f_bx fun _ => ?_))
        exact r_met () trivial ⟨rfl, rfl, rfl, rfl, rfl, trivial⟩ (List.Sublist.refl _)
    rintro - - f
    repeat (first | refine r_seq ?_ | refine r_nil ?_ | refine r_region ?_ | refine r_skip ?_ | refine r_block ?_ | refine r_inBlock ?_ | refine x_ ?_ | refine w_ v_p ?_ | refine w_ v_cv ?_ | refine w_ v_and ?_ | refine w_ v_or ?_ | refine w_ v_f ?_ | refine w_ v_b ?_ | refine w_ v_r ?_ | refine w_ v_i ?_ | refine w_ v_a ?_ | refine w_ v_l ?_ | refine w_ v_la ?_ | refine w_ v_ls ?_ | refine w_ v_lr ?_ | refine w_ v_ln ?_ | refine w_ v_bd ?_ | refine w_ v_mf ?_ | refine e_ (f_st ?_) | refine e_ (f_al fun _ => ?_) | refine e_ (f_bx fun _ => ?_))
    refine e_ (f_c (fun w _ => makeOdd1_does x w) fun v L' h => ?_)
    obtain ⟨rfl, rfl⟩ := h
    refine e_ (f_bs (l := bys [makeOdd x]) fun _ => ?_)
    refine e_ (f_a (fun w hw => sl_of_cells hw (.head _) rfl) (bys_plain _) fun q' c'' => ?_)
    repeat (first | refine r_seq ?_ | refine r_nil ?_ | refine r_region ?_ | refine r_skip ?_ | refine r_block ?_ | refine r_inBlock ?_ | refine x_ ?_ | refine w_ v_p ?_ | refine w_ v_cv ?_ | refine w_ v_and ?_ | refine w_ v_or ?_ | refine w_ v_f ?_ | refine w_ v_b ?_ | refine w_ v_r ?_ | refine w_ v_i ?_ | refine w_ v_a ?_ | refine w_ v_l ?_ | refine w_ v_la ?_ | refine w_ v_ls ?_ | refine w_ v_lr ?_ | refine w_ v_ln ?_ | refine w_ v_bd ?_ | refine w_ v_mf ?_ | refine e_ (f_st ?_) | refine e_ (f_al fun _ => ?_) | refine e_ (f_bx fun _ => ?_))
    refine r_again (i + 1, q', c'') (by dsimp only; omega) (by dsimp only; omega) ⟨rfl, rfl, rfl, rfl, trivial⟩ (.cons _ ?_)
    dsimp only
    rw [oddT_succ, hx, bys_append]
    exact List.Sublist.refl _
  · simp only [decide_eq_false_iff_not] at h
    have hi2 : i = n := by omega
    subst hi2
    repeat (first | refine r_seq ?_ | refine r_nil ?_ | refine r_region ?_ | refine r_skip ?_ | refine r_block ?_ | refine r_inBlock ?_ | refine x_ ?_ | refine w_ v_p ?_ | refine w_ v_cv ?_ | refine w_ v_and ?_ | refine w_ v_or ?_ | refine w_ v_f ?_ | refine w_ v_b ?_ | refine w_ v_r ?_ | refine w_ v_i ?_ | refine w_ v_a ?_ | refine w_ v_l ?_ | refine w_ v_la ?_ | refine w_ v_ls ?_ | refine w_ v_lr ?_ | refine w_ v_ln ?_ | refine w_ v_bd ?_ | refine w_ v_mf ?_ | refine e_ (f_st ?_) | refine e_ (f_al fun _ => ?_) | refine e_ (f_bx fun _ => ?_))
    exact t_ rfl (.tmp rfl .nil) (List.Sublist.refl _) ⟨q, c', rfl, rfl⟩
end Go.Proofs

namespace Go.Proofs
open Go.Cf
set_option maxRecDepth 10000

theorem right_does (pl : Pl) (w : World) (hp : Right pl) : Does Tryz.prog 135 [.agg (plC pl).toArray] w [] (fun v L => v = .bool true ∧ L = []) := by
  refine does_of Tryz.func135 rfl rfl ?_
  obtain ⟨h1, h2, h3, h4, h5⟩ := hp
  repeat (first | refine r_seq ?_ | refine r_nil ?_ | refine r_region ?_ | refine r_skip ?_ | refine r_block ?_ | refine r_inBlock ?_ | refine x_ ?_ | refine w_ v_p ?_ | refine w_ v_cv ?_ | refine w_ v_and ?_ | refine w_ v_or ?_ | refine w_ v_f ?_ | refine w_ v_b ?_ | refine w_ v_r ?_ | refine w_ v_i ?_ | refine w_ v_a ?_ | refine w_ v_l ?_ | refine w_ v_la ?_ | refine w_ v_ls ?_ | refine w_ v_lr ?_ | refine w_ v_ln ?_ | refine w_ v_bd ?_ | refine w_ v_mf ?_ | refine e_ (f_st ?_) | refine e_ (f_al fun _ => ?_) | refine e_ (f_bx fun _ => ?_))
  refine t_ rfl (.tmp rfl .nil) (List.nil_sublist _) ⟨congrArg Value.bool ?_, rfl⟩
  simp only [Bool.and_eq_true, decide_eq_true_eq, beq_iff_eq]
  omega

theorem headB_does (h : Hd) (t : List UInt8) (p : Option Addr) (c : Nat) (w : World) (hr : Right h.pl) (ht : t.length = 32) (hs : Sl w [] p 32 1 (bys t)) :
    Does Tryz.prog 63 [.agg (hdC h).toArray, .slice p 32 c] w [] (fun v L => ∃ q c', v = .tuple #[.slice q 42 c', .int .i64 0] ∧ L = [.row q 42 c' (bys (headB h t)) 5 1]) := by
  refine does_of Tryz.func63 rfl rfl ?_
  repeat (first | refine e_ (f_bx fun b2 => ?_) | refine r_seq ?_ | refine r_nil ?_ | refine r_region ?_ | refine r_skip ?_ | refine r_block ?_ | refine r_inBlock ?_ | refine x_ ?_ | refine w_ v_p ?_ | refine w_ v_cv ?_ | refine w_ v_and ?_ | refine w_ v_or ?_ | refine w_ v_f ?_ | refine w_ v_b ?_ | refine w_ v_r ?_ | refine w_ v_i ?_ | refine w_ v_a ?_ | refine w_ v_l ?_ | refine w_ v_la ?_ | refine w_ v_ls ?_ | refine w_ v_lr ?_ | refine w_ v_ln ?_ | refine w_ v_bd ?_ | refine w_ v_mf ?_ | refine e_ (f_st ?_) | refine e_ (f_al fun _ => ?_) | refine e_ (f_bx fun _ => ?_))
  refine e_ (f_c (fun w _ => right_does h.pl w hr) fun v L' hv => ?_)
  obtain ⟨rfl, rfl⟩ := hv
  obtain ⟨h1, h2, h3, h4, -⟩ := hr
  repeat (first | refine r_seq ?_ | refine r_nil ?_ | refine r_region ?_ | refine r_skip ?_ | refine r_block ?_ | refine r_inBlock ?_ | refine x_ ?_ | refine w_ v_p ?_ | refine w_ v_cv ?_ | refine w_ v_and ?_ | refine w_ v_or ?_ | refine w_ v_f ?_ | refine w_ v_b ?_ | refine w_ v_r ?_ | refine w_ v_i ?_ | refine w_ v_a ?_ | refine w_ v_l ?_ | refine w_ v_la ?_ | refine w_ v_ls ?_ | refine w_ v_lr ?_ | refine w_ v_ln ?_ | refine w_ v_bd ?_ | refine w_ v_mf ?_ | refine e_ (f_st ?_) | refine e_ (f_al fun _ => ?_) | refine e_ (f_bx fun _ => ?_))
  refine c_ (t := false) (fun h => by cases h) (fun _ => ?_)
  repeat (first | refine r_seq ?_ | refine r_nil ?_ | refine r_region ?_ | refine r_skip ?_ | refine r_block ?_ | refine r_inBlock ?_ | refine x_ ?_ | refine w_ v_p ?_ | refine w_ v_cv ?_ | refine w_ v_and ?_ | refine w_ v_or ?_ | refine w_ v_f ?_ | refine w_ v_b ?_ | refine w_ v_r ?_ | refine w_ v_i ?_ | refine w_ v_a ?_ | refine w_ v_l ?_ | refine w_ v_la ?_ | refine w_ v_ls ?_ | refine w_ v_lr ?_ | refine w_ v_ln ?_ | refine w_ v_bd ?_ | refine w_ v_mf ?_ | refine e_ (f_st ?_) | refine e_ (f_al fun _ => ?_) | refine e_ (f_bx fun _ => ?_))
  refine c_ (t := false) (fun h => by cases h) (fun _ => ?_)
  repeat (first | refine r_seq ?_ | refine r_nil ?_ | refine r_region ?_ | refine r_skip ?_ | refine r_block ?_ | refine r_inBlock ?_ | refine x_ ?_ | refine w_ v_p ?_ | refine w_ v_cv ?_ | refine w_ v_and ?_ | refine w_ v_or ?_ | refine w_ v_f ?_ | refine w_ v_b ?_ | refine w_ v_r ?_ | refine w_ v_i ?_ | refine w_ v_a ?_ | refine w_ v_l ?_ | refine w_ v_la ?_ | refine w_ v_ls ?_ | refine w_ v_lr ?_ | refine w_ v_ln ?_ | refine w_ v_bd ?_ | refine w_ v_mf ?_ | refine e_ (f_st ?_) | refine e_ (f_al fun _ => ?_) | refine e_ (f_bx fun _ => ?_))
  refine r_loop (τ := Nat) (fun i => i ≤ 11) (fun i => 11 - i) (fun i => [(1, .v (.slice p 32 c)), (2, .v (.pointer (some ⟨b2, 0, none⟩))), (6, .v (.int .i64 (flagN h.c i))), (7, .v (.int .i64 i))])
    (fun _ => [.cells b2 (hdC h) 48]) 0 (by omega) ⟨rfl, rfl, rfl, rfl, trivial⟩ (List.Sublist.refl _) ?_
  rintro i hi f
  repeat (first | refine r_seq ?_ | refine r_nil ?_ | refine r_region ?_ | refine r_skip ?_ | refine r_block ?_ | refine r_inBlock ?_ | refine x_ ?_ | refine w_ v_p ?_ | refine w_ v_cv ?_ | refine w_ v_and ?_ | refine w_ v_or ?_ | refine w_ v_f ?_ | refine w_ v_b ?_ | refine w_ v_r ?_ | refine w_ v_i ?_ | refine w_ v_a ?_ | refine w_ v_l ?_ | refine w_ v_la ?_ | refine w_ v_ls ?_ | refine w_ v_lr ?_ | refine w_ v_ln ?_ | refine w_ v_bd ?_ | refine w_ v_mf ?_ | refine e_ (f_st ?_) | refine e_ (f_al fun _ => ?_) | refine e_ (f_bx fun _ => ?_))
  refine c_ (fun h5 => ?_) (fun h5 => ?_)
  · simp only [decide_eq_true_eq] at h5
    have hlt : i < 11 := by omega
    have hload : (hdC h)[3 + ((i : Nat) : Int).toNat * 1]? = some (.bool (h.c i)) := by
      match i, hlt with
      | 0, _ => rfl
      | 1, _ => rfl
      | 2, _ => rfl
      | 3, _ => rfl
      | 4, _ => rfl
      | 5, _ => rfl
      | 6, _ => rfl
      | 7, _ => rfl
      | 8, _ => rfl
      | 9, _ => rfl
      | 10, _ => rfl
    repeat (first | refine w_ (v_l (hv := hload)) ?_ | refine r_seq ?_ | refine r_nil ?_ | refine r_region ?_ | refine r_skip ?_ | refine r_block ?_ | refine r_inBlock ?_ | refine x_ ?_ | refine w_ v_p ?_ | refine w_ v_cv ?_ | refine w_ v_and ?_ | refine w_ v_or ?_ | refine w_ v_f ?_ | refine w_ v_b ?_ | refine w_ v_r ?_ | refine w_ v_i ?_ | refine w_ v_a ?_ | refine w_ v_l ?_ | refine w_ v_la ?_ | refine w_ v_ls ?_ | refine w_ v_lr ?_ | refine w_ v_ln ?_ | refine w_ v_bd ?_ | refine w_ v_mf ?_ | refine e_ (f_st ?_) | refine e_ (f_al fun _ => ?_) | refine e_ (f_bx fun _ => ?_))
    refine c_ (fun h6 => ?_) (fun h6 => ?_)
    · have hfl := flagN_lt h.c i
      have hfb : 2 ^ i ≤ 2 ^ 10 := Nat.pow_le_pow_right (by omega) (by omega)
      have e : bw .or .i64 (flagN h.c i : Int) (shl .i64 1 (i : Int)) = ((flagN h.c i + 1 * 2 ^ i : Nat) : Int) := os (flagN h.c i) 1 i hfl (by omega) (by omega)
      repeat (first | refine w_ (v_cv (hc := wrap_u64 (by omega))) ?_ | refine r_seq ?_ | refine r_nil ?_ | refine r_region ?_ | refine r_skip ?_ | refine r_block ?_ | refine r_inBlock ?_ | refine x_ ?_ | refine w_ v_p ?_ | refine w_ v_cv ?_ | refine w_ v_and ?_ | refine w_ v_or ?_ | refine w_ v_f ?_ | refine w_ v_b ?_ | refine w_ v_r ?_ | refine w_ v_i ?_ | refine w_ v_a ?_ | refine w_ v_l ?_ | refine w_ v_la ?_ | refine w_ v_ls ?_ | refine w_ v_lr ?_ | refine w_ v_ln ?_ | refine w_ v_bd ?_ | refine w_ v_mf ?_ | refine e_ (f_st ?_) | refine e_ (f_al fun _ => ?_) | refine e_ (f_bx fun _ => ?_))
      exact r_again (i + 1) (by omega) (by omega) ⟨rfl, rfl, by rw [flagN, h6]; exact congrArg (Value.int .i64) e, rfl, trivial⟩ (List.Sublist.refl _)
    · repeat (first | refine r_seq ?_ | refine r_nil ?_ | refine r_region ?_ | refine r_skip ?_ | refine r_block ?_ | refine r_inBlock ?_ | refine x_ ?_ | refine w_ v_p ?_ | refine w_ v_cv ?_ | refine w_ v_and ?_ | refine w_ v_or ?_ | refine w_ v_f ?_ | refine w_ v_b ?_ | refine w_ v_r ?_ | refine w_ v_i ?_ | refine w_ v_a ?_ | refine w_ v_l ?_ | refine w_ v_la ?_ | refine w_ v_ls ?_ | refine w_ v_lr ?_ | refine w_ v_ln ?_ | refine w_ v_bd ?_ | refine w_ v_mf ?_ | refine e_ (f_st ?_) | refine e_ (f_al fun _ => ?_) | refine e_ (f_bx fun _ => ?_))
      exact r_again (i + 1) (by omega) (by omega) ⟨rfl, rfl, by rw [flagN, h6]; simp only [boolN, Bool.false_eq_true, if_false, Nat.zero_mul, Nat.add_zero]; rfl, rfl, trivial⟩ (List.Sublist.refl _)
  · simp only [decide_eq_false_iff_not] at h5
    have hi2 : i = 11 := by omega
    subst hi2
    have hfl := flagN_lt h.c 11
    generalize hfn : flagN h.c 11 = fl at hfl
    have a7 : bw .and .i64 (fl : Int) 7 = ((fl % 8 : Nat) : Int) := an fl 3 (by omega) (by omega)
    have s3 : (fl : Int) / 2 ^ Int.toNat 3 = ((fl / 8 : Nat) : Int) := shr_nat fl 3
    have s7 : (fl : Int) / 2 ^ Int.toNat 7 = ((fl / 128 : Nat) : Int) := shr_nat fl 7
    have e1 : bw .and .i64 ((fl / 8 : Nat) : Int) 15 = ((fl / 8 % 16 : Nat) : Int) := an (fl / 8) 4 (by omega) (by omega)
    have e2 : bw .and .i64 ((fl / 128 : Nat) : Int) 15 = ((fl / 128 % 16 : Nat) : Int) := an (fl / 128) 4 (by omega) (by omega)
    rw [← s3] at e1
    rw [← s7] at e2
    repeat (first | refine r_seq ?_ | refine r_nil ?_ | refine r_region ?_ | refine r_skip ?_ | refine r_block ?_ | refine r_inBlock ?_ | refine x_ ?_ | refine w_ v_p ?_ | refine w_ v_cv ?_ | refine w_ v_and ?_ | refine w_ v_or ?_ | refine w_ v_f ?_ | refine w_ v_b ?_ | refine w_ v_r ?_ | refine w_ v_i ?_ | refine w_ v_a ?_ | refine w_ v_l ?_ | refine w_ v_la ?_ | refine w_ v_ls ?_ | refine w_ v_lr ?_ | refine w_ v_ln ?_ | refine w_ v_bd ?_ | refine w_ v_mf ?_ | refine e_ (f_st ?_) | refine e_ (f_al fun _ => ?_) | refine e_ (f_bx fun _ => ?_))
    refine r_as 36 (congrArg (Value.int .i64) a7) ?_
    refine e_ (f_c (fun w _ => placed_does h.pl.page h.pl.sub (fl % 8) w h3 h4 (by omega)) fun v L' hv => ?_)
    obtain ⟨b4, rfl, rfl⟩ := hv
    repeat (first | refine r_seq ?_ | refine r_nil ?_ | refine r_region ?_ | refine r_skip ?_ | refine r_block ?_ | refine r_inBlock ?_ | refine x_ ?_ | refine w_ v_p ?_ | refine w_ v_cv ?_ | refine w_ v_and ?_ | refine w_ v_or ?_ | refine w_ v_f ?_ | refine w_ v_b ?_ | refine w_ v_r ?_ | refine w_ v_i ?_ | refine w_ v_a ?_ | refine w_ v_l ?_ | refine w_ v_la ?_ | refine w_ v_ls ?_ | refine w_ v_lr ?_ | refine w_ v_ln ?_ | refine w_ v_bd ?_ | refine w_ v_mf ?_ | refine e_ (f_st ?_) | refine e_ (f_al fun _ => ?_) | refine e_ (f_bx fun _ => ?_))
    refine e_ (f_c (fun w _ => put_does' e1 (by omega) w) fun v L' hv => ?_)
    obtain ⟨rfl, rfl⟩ := hv
    repeat (first | refine r_seq ?_ | refine r_nil ?_ | refine r_region ?_ | refine r_skip ?_ | refine r_block ?_ | refine r_inBlock ?_ | refine x_ ?_ | refine w_ v_p ?_ | refine w_ v_cv ?_ | refine w_ v_and ?_ | refine w_ v_or ?_ | refine w_ v_f ?_ | refine w_ v_b ?_ | refine w_ v_r ?_ | refine w_ v_i ?_ | refine w_ v_a ?_ | refine w_ v_l ?_ | refine w_ v_la ?_ | refine w_ v_ls ?_ | refine w_ v_lr ?_ | refine w_ v_ln ?_ | refine w_ v_bd ?_ | refine w_ v_mf ?_ | refine e_ (f_st ?_) | refine e_ (f_al fun _ => ?_) | refine e_ (f_bx fun _ => ?_))
    refine e_ (f_c (fun w _ => put_does' e2 (by omega) w) fun v L' hv => ?_)
    obtain ⟨rfl, rfl⟩ := hv
    refine e_ (f_bs (l := bys (hams [fl / 8 % 16, fl / 128 % 16])) fun b5 => ?_)
    refine e_ (f_a (fun w hw => sl_of_cells hw (.head _) rfl) (bys_plain _) fun q c1 => ?_)
    repeat (first | refine r_seq ?_ | refine r_nil ?_ | refine r_region ?_ | refine r_skip ?_ | refine r_block ?_ | refine r_inBlock ?_ | refine x_ ?_ | refine w_ v_p ?_ | refine w_ v_cv ?_ | refine w_ v_and ?_ | refine w_ v_or ?_ | refine w_ v_f ?_ | refine w_ v_b ?_ | refine w_ v_r ?_ | refine w_ v_i ?_ | refine w_ v_a ?_ | refine w_ v_l ?_ | refine w_ v_la ?_ | refine w_ v_ls ?_ | refine w_ v_lr ?_ | refine w_ v_ln ?_ | refine w_ v_bd ?_ | refine w_ v_mf ?_ | refine e_ (f_st ?_) | refine e_ (f_al fun _ => ?_) | refine e_ (f_bx fun _ => ?_))
    refine d_in ([.cells b2 (hdC h) 48]) [] ?_
    first | (refine dp 0 ?_; first | refine tp (fun _ => v_f) ?_)
    first | (refine dp 1 ?_; first | refine tp (fun _ => v_f) ?_)
    first | (refine dw 2 ?_; first | refine tw (v_l) ?_ | refine tw (v_la) ?_ | refine tw (v_ls) ?_ | refine tw (v_lr) ?_ | refine tw ((v_ge hG)) ?_)
    first | (refine dp 3 ?_; first | refine tp (fun _ => v_p) ?_)
    first | (refine dp 4 ?_; first | refine tp (fun _ => v_p) ?_)
    refine d_e 5 ?_
    refine f_a (fun w hw => hs.now hw) (bys_plain t) fun q2 c2 => ⟨?_, ?_⟩
    · first | exact st_n | exact st_l rfl | exact st_s (by repeat (first | exact List.Sublist.refl _ | exact List.nil_sublist _ | exact List.sublist_append_right _ _ | apply List.Sublist.cons_cons | apply List.Sublist.cons))
    
    refine d_e 6 ?_
    refine f_c (fun w hw => packed_does h.pl.mag 0 (hams (nib6 h.pl.page h.pl.sub (fl % 8)) ++ hams [fl / 8 % 16, fl / 128 % 16] ++ t) q2 c2 (6 + 2 + 32) w (by omega) (by omega) (by rw [List.length_append, ht]; rfl) (by omega) (by
      rw [bys_append, bys_append]; exact sl_of_row hw (by repeat (first | exact List.Mem.head _ | apply List.Mem.tail)))) fun v L' hv => ?_
    obtain ⟨q3, c3, rfl, rfl⟩ := hv
    refine ⟨?_, ?_⟩
    · first | exact st_n | exact st_l rfl | exact st_s (by repeat (first | exact List.Sublist.refl _ | exact List.nil_sublist _ | exact List.sublist_append_right _ _ | apply List.Sublist.cons_cons | apply List.Sublist.cons))
    first | (refine dp 7 ?_; first | refine tp (fun _ => v_p) ?_)
    first | (refine dp 8 ?_; first | refine tp (fun _ => v_p) ?_)
    refine d_z ?_
    refine t_ rfl (.tmp rfl (.tmp rfl .nil)) (.cons_cons _ (List.nil_sublist _)) ⟨q3, c3, rfl, ?_⟩
    rw [headB, hfn]
end Go.Proofs

