/-
  Contracts: the service, in parts.
-/
import Derived.Test.YtdjgkbphbffleaaGreatDoorA08
import Derived.Test.YtdjgkbphbffleaaGreatDoorA06
namespace Go.Cf
/-- A half of a byte. -/
def nibB (b : List UInt8) (k : Nat) : Nat := (b.getD (k / 2) 0).toNat / 2 ^ (4 - 4 * (k % 2)) % 16
def dg (b : List UInt8) (s : Nat) : Nat → Option Nat
  | 0 => some 0
  | j + 1 => match dg b s j with
    | none => none
    | some n => if nibB b (s + j) = 0 ∨ 10 < nibB b (s + j) then none else some (10 * n + (nibB b (s + j) - 1))
def digitsM (b : List UInt8) (s : Nat) : Option Nat := dg b s (2 * b.length - s)
theorem dg_none {b : List UInt8} {s j : Nat} (h : dg b s j = none) : ∀ k, dg b s (j + k) = none
  | 0 => h
  | k + 1 => by rw [← Nat.add_assoc, dg, dg_none h k]
theorem dg_lt {b : List UInt8} {s : Nat} : ∀ {j n : Nat}, dg b s j = some n → n < 10 ^ j
  | 0, n, h => by simp only [dg, Option.some.injEq] at h; subst h; decide
  | j + 1, n, h => by
    rw [dg] at h
    cases h1 : dg b s j with
    | none => rw [h1] at h; cases h
    | some n' =>
      rw [h1] at h
      have h2 := dg_lt h1
      simp only at h
      split at h
      · cases h
      · simp only [Option.some.injEq] at h
        rw [Nat.pow_succ]; omega
end Go.Cf
namespace Go.Proofs
open Go.Cf
set_option maxRecDepth 10000

theorem shr8_and (b : UInt8) (k : Nat) : bw .and .u8 ((b.toNat : Int) / 2 ^ k) 15 = ((b.toNat / 2 ^ k % 16 : Nat) : Int) := by
  have hb := b.toNat_lt
  have h1 : b.toNat / 2 ^ k ≤ b.toNat := Nat.div_le_self _ _
  rw [shr_nat]
  unfold bw
  have h : ((BitVec.ofInt IntKind.u8.bits ((b.toNat / 2 ^ k : Nat) : Int)) &&& (BitVec.ofInt IntKind.u8.bits 15)).toNat = b.toNat / 2 ^ k % 16 := by
    rw [BitVec.toNat_and, bvi _ (b.toNat / 2 ^ k) (by show b.toNat / 2 ^ k < 2 ^ 8; omega)]
    exact Nat.and_two_pow_sub_one_eq_mod _ 4
  simp only [h]
  exact wrap_u8 (by omega)

theorem digits_does (l : List UInt8) (s : Nat) (p : Option Addr) (c m : Nat) (w : World) (hm : l.length = m) (hs1 : s ≤ 1) (hm3 : 1 ≤ m ∧ m ≤ 3) (hs : Sl w [] p m 1 (bys l)) :
    Does Tryz.prog 192 [.slice p m c, .int .i64 s] w [] (fun v L => v = .tuple #[.int .i64 ((digitsM l s).getD 0), .bool (digitsM l s).isSome] ∧ L = []) := by
  refine does_of Tryz.func192 rfl rfl ?_
  repeat (first | refine r_seq ?_ | refine r_nil ?_ | refine r_region ?_ | refine r_skip ?_ | refine r_block ?_ | refine r_inBlock ?_ | refine x_ ?_ | refine w_ v_p ?_ | refine w_ v_cv ?_ | refine w_ v_and ?_ | refine w_ v_or ?_ | refine w_ v_f ?_ | refine w_ v_b ?_ | refine w_ v_r ?_ | refine w_ v_i ?_ | refine w_ v_a ?_ | refine w_ v_l ?_ | refine w_ v_la ?_ | refine w_ v_ls ?_ | refine w_ v_lr ?_ | refine w_ v_ln ?_ | refine w_ v_bd ?_ | refine w_ v_ba ?_ | refine w_ v_mf ?_ | refine w_ v_sap ?_ | refine w_ v_pkf ?_ | refine w_ v_pkt ?_ | refine w_ v_nl ?_ | refine w_ v_nn ?_ | refine e_ (f_st ?_) | refine e_ (f_al fun _ => ?_) | refine e_ (f_bx fun _ => ?_))
  refine r_loop (τ := Nat × Nat) (fun t => s + t.1 ≤ 2 * m ∧ dg l s t.1 = some t.2) (fun t => 2 * m - t.1) (fun t => [(0, .v (.slice p m c)), (6, .v (.int .i64 t.2)), (7, .v (.int .i64 (s + t.1 : Nat)))]) (fun _ => []) (0, 0) ⟨by omega, rfl⟩ ⟨rfl, rfl, rfl, trivial⟩ (List.Sublist.refl _) ?_
  rintro ⟨j, n⟩ ⟨hj, hn⟩ f
  dsimp only at hj hn ⊢
  have hjl : j ≤ 6 := by omega
  have hnl : n < 1000000 := by
    have h1 := dg_lt hn
    have h2 : 10 ^ j ≤ 10 ^ 6 := Nat.pow_le_pow_right (by omega) hjl
    omega
  repeat (first | refine r_seq ?_ | refine r_nil ?_ | refine r_region ?_ | refine r_skip ?_ | refine r_block ?_ | refine r_inBlock ?_ | refine x_ ?_ | refine w_ v_p ?_ | refine w_ v_cv ?_ | refine w_ v_and ?_ | refine w_ v_or ?_ | refine w_ v_f ?_ | refine w_ v_b ?_ | refine w_ v_r ?_ | refine w_ v_i ?_ | refine w_ v_a ?_ | refine w_ v_l ?_ | refine w_ v_la ?_ | refine w_ v_ls ?_ | refine w_ v_lr ?_ | refine w_ v_ln ?_ | refine w_ v_bd ?_ | refine w_ v_ba ?_ | refine w_ v_mf ?_ | refine w_ v_sap ?_ | refine w_ v_pkf ?_ | refine w_ v_pkt ?_ | refine w_ v_nl ?_ | refine w_ v_nn ?_ | refine e_ (f_st ?_) | refine e_ (f_al fun _ => ?_) | refine e_ (f_bx fun _ => ?_))
  refine c_ (fun h => ?_) (fun h => ?_)
  · simp only [decide_eq_true_eq] at h
    have hlt : s + j < 2 * m := by omega
    have hk : (((s + j : Nat) : Int) / 2).toNat = (s + j) / 2 := by omega
    have hb : l[(s + j) / 2]? = some (l.getD ((s + j) / 2) 0) := by
      rw [List.getD_eq_getElem?_getD, List.getElem?_eq_getElem (by omega)]; rfl
    have hload : (bys l)[(((s + j : Nat) : Int) / 2).toNat * 1]? = some (.int .u8 (l.getD ((s + j) / 2) 0).toNat) := by rw [hk, Nat.mul_one]; exact bys_get hb
    have hsh : ((4 : Int) - 4 * (((s + j : Nat) : Int) % 2)).toNat = 4 - 4 * ((s + j) % 2) := by omega
    have hv := shr8_and (l.getD ((s + j) / 2) 0) (4 - 4 * ((s + j) % 2))
    rw [← hsh] at hv
    have hnb : nibB l (s + j) < 16 := Nat.mod_lt _ (by decide)
    repeat (first | refine w_ (v_ls (hv := hload)) ?_ | refine w_ (v_cv (hc := (congrArg IntKind.i64.wrap hv).trans (wrap_i64 (by omega)))) ?_ | refine r_seq ?_ | refine r_nil ?_ | refine r_region ?_ | refine r_skip ?_ | refine r_block ?_ | refine r_inBlock ?_ | refine x_ ?_ | refine w_ v_p ?_ | refine w_ v_cv ?_ | refine w_ v_and ?_ | refine w_ v_or ?_ | refine w_ v_f ?_ | refine w_ v_b ?_ | refine w_ v_r ?_ | refine w_ v_i ?_ | refine w_ v_a ?_ | refine w_ v_l ?_ | refine w_ v_la ?_ | refine w_ v_ls ?_ | refine w_ v_lr ?_ | refine w_ v_ln ?_ | refine w_ v_bd ?_ | refine w_ v_ba ?_ | refine w_ v_mf ?_ | refine w_ v_sap ?_ | refine w_ v_pkf ?_ | refine w_ v_pkt ?_ | refine w_ v_nl ?_ | refine w_ v_nn ?_ | refine e_ (f_st ?_) | refine e_ (f_al fun _ => ?_) | refine e_ (f_bx fun _ => ?_))
    have hnd : (l.getD ((s + j) / 2) 0).toNat / 2 ^ ((4 : Int) - 4 * (((s + j : Nat) : Int) % 2)).toNat % 16 = nibB l (s + j) := by rw [hsh]; rfl
    refine c_ (fun h1 => ?_) (fun h1 => ?_)
    · simp only [Bool.or_eq_true, decide_eq_true_eq] at h1
      rw [hnd] at h1
      have hfail : dg l s (j + 1) = none := by rw [dg, hn]; simp only; rw [if_pos (by omega)]
      have hall : digitsM l s = none := by
        have := dg_none hfail (2 * m - s - (j + 1))
        rw [show j + 1 + (2 * m - s - (j + 1)) = 2 * m - s from by omega] at this
        rw [digitsM, hm]; exact this
      repeat (first | refine r_seq ?_ | refine r_nil ?_ | refine r_region ?_ | refine r_skip ?_ | refine r_block ?_ | refine r_inBlock ?_ | refine x_ ?_ | refine w_ v_p ?_ | refine w_ v_cv ?_ | refine w_ v_and ?_ | refine w_ v_or ?_ | refine w_ v_f ?_ | refine w_ v_b ?_ | refine w_ v_r ?_ | refine w_ v_i ?_ | refine w_ v_a ?_ | refine w_ v_l ?_ | refine w_ v_la ?_ | refine w_ v_ls ?_ | refine w_ v_lr ?_ | refine w_ v_ln ?_ | refine w_ v_bd ?_ | refine w_ v_ba ?_ | refine w_ v_mf ?_ | refine w_ v_sap ?_ | refine w_ v_pkf ?_ | refine w_ v_pkt ?_ | refine w_ v_nl ?_ | refine w_ v_nn ?_ | refine e_ (f_st ?_) | refine e_ (f_al fun _ => ?_) | refine e_ (f_bx fun _ => ?_))
      refine t_ rfl (.tmp rfl (.tmp rfl .nil)) (List.nil_sublist _) ⟨by rw [hall]; rfl, rfl⟩
    · simp only [Bool.or_eq_false_iff, decide_eq_false_iff_not] at h1
      rw [hnd] at h1
      have hok : dg l s (j + 1) = some (10 * n + (nibB l (s + j) - 1)) := by rw [dg, hn]; simp only; rw [if_neg (by omega)]
      repeat (first | refine r_seq ?_ | refine r_nil ?_ | refine r_region ?_ | refine r_skip ?_ | refine r_block ?_ | refine r_inBlock ?_ | refine x_ ?_ | refine w_ v_p ?_ | refine w_ v_cv ?_ | refine w_ v_and ?_ | refine w_ v_or ?_ | refine w_ v_f ?_ | refine w_ v_b ?_ | refine w_ v_r ?_ | refine w_ v_i ?_ | refine w_ v_a ?_ | refine w_ v_l ?_ | refine w_ v_la ?_ | refine w_ v_ls ?_ | refine w_ v_lr ?_ | refine w_ v_ln ?_ | refine w_ v_bd ?_ | refine w_ v_ba ?_ | refine w_ v_mf ?_ | refine w_ v_sap ?_ | refine w_ v_pkf ?_ | refine w_ v_pkt ?_ | refine w_ v_nl ?_ | refine w_ v_nn ?_ | refine e_ (f_st ?_) | refine e_ (f_al fun _ => ?_) | refine e_ (f_bx fun _ => ?_))
      refine r_again (j + 1, 10 * n + (nibB l (s + j) - 1)) ⟨by dsimp only; omega, hok⟩ (by dsimp only; omega) ⟨rfl, ?_, rfl, trivial⟩ (List.Sublist.refl _)
      refine congrArg (Value.int .i64) ?_
      rw [hnd]; dsimp only; omega
  · simp only [decide_eq_false_iff_not] at h
    have hj2 : j = 2 * m - s := by omega
    have hall : digitsM l s = some n := by rw [digitsM, hm, ← hj2]; exact hn
    repeat (first | refine r_seq ?_ | refine r_nil ?_ | refine r_region ?_ | refine r_skip ?_ | refine r_block ?_ | refine r_inBlock ?_ | refine x_ ?_ | refine w_ v_p ?_ | refine w_ v_cv ?_ | refine w_ v_and ?_ | refine w_ v_or ?_ | refine w_ v_f ?_ | refine w_ v_b ?_ | refine w_ v_r ?_ | refine w_ v_i ?_ | refine w_ v_a ?_ | refine w_ v_l ?_ | refine w_ v_la ?_ | refine w_ v_ls ?_ | refine w_ v_lr ?_ | refine w_ v_ln ?_ | refine w_ v_bd ?_ | refine w_ v_ba ?_ | refine w_ v_mf ?_ | refine w_ v_sap ?_ | refine w_ v_pkf ?_ | refine w_ v_pkt ?_ | refine w_ v_nl ?_ | refine w_ v_nn ?_ | refine e_ (f_st ?_) | refine e_ (f_al fun _ => ?_) | refine e_ (f_bx fun _ => ?_))
    refine t_ rfl (.tmp rfl (.tmp rfl .nil)) (List.nil_sublist _) ⟨by rw [hall]; rfl, rfl⟩
end Go.Proofs

namespace Go.Cf
structure Inf where
  first : Pl
  network : Nat
  offset : Int
  day : Nat
  hour : Nat
  minute : Nat
  second : Nat
  text : List UInt8
abbrev infC (i : Inf) : List Value := [.int .i64 i.first.mag, .int .i64 i.first.page, .int .i64 i.first.sub, .int .i64 i.network, .int .i64 i.offset, .int .i64 i.day, .int .i64 i.hour, .int .i64 i.minute, .int .i64 i.second, str i.text]
def fairM (i : Inf) : Bool := decide (i.day ≤ 99999 ∧ i.hour ≤ 23 ∧ i.minute ≤ 59 ∧ i.second ≤ 59)
def clockI (i : Inf) (d : List UInt8) : Inf := { i with day := (digitsM (partOf d 9 3) 1).getD 0, hour := (digitsM [d.getD 12 0] 0).getD 0, minute := (digitsM [d.getD 13 0] 0).getD 0, second := (digitsM [d.getD 14 0] 0).getD 0 }
def clockB (i : Inf) (d : List UInt8) : Bool := (digitsM (partOf d 9 3) 1).isSome && (digitsM [d.getD 12 0] 0).isSome && (digitsM [d.getD 13 0] 0).isSome && (digitsM [d.getD 14 0] 0).isSome && fairM (clockI i d)
end Go.Cf
namespace Go.Proofs
open Go.Cf
set_option maxRecDepth 10000

theorem fair_does (i : Inf) (w : World) : Does Tryz.prog 193 [.agg (infC i).toArray] w [] (fun v L => v = .bool (fairM i) ∧ L = []) := by
  refine does_of Tryz.func193 rfl rfl ?_
  repeat (first | refine r_seq ?_ | refine r_nil ?_ | refine r_region ?_ | refine r_skip ?_ | refine r_block ?_ | refine r_inBlock ?_ | refine x_ ?_ | refine w_ v_p ?_ | refine w_ v_cv ?_ | refine w_ v_and ?_ | refine w_ v_or ?_ | refine w_ v_f ?_ | refine w_ v_b ?_ | refine w_ v_r ?_ | refine w_ v_i ?_ | refine w_ v_a ?_ | refine w_ v_l ?_ | refine w_ v_la ?_ | refine w_ v_ls ?_ | refine w_ v_lr ?_ | refine w_ v_ln ?_ | refine w_ v_bd ?_ | refine w_ v_ba ?_ | refine w_ v_mf ?_ | refine w_ v_sap ?_ | refine w_ v_pkf ?_ | refine w_ v_pkt ?_ | refine w_ v_nl ?_ | refine w_ v_nn ?_ | refine e_ (f_st ?_) | refine e_ (f_al fun _ => ?_) | refine e_ (f_bx fun _ => ?_))
  refine t_ rfl (.tmp rfl .nil) (List.nil_sublist _) ⟨?_, rfl⟩
  refine congrArg Value.bool ?_
  rw [fairM, Bool.eq_iff_iff]
  simp only [Bool.and_eq_true, decide_eq_true_eq]
  omega

theorem clock_does (i : Inf) (kd : Pk) (bi : Nat) (p : Option Addr) (c m : Nat) (w : World) (hm : kd.data.length = m) (hi : (St.mk w [bi] [.cells bi (infC i) 82]).holds w) (hs : Sl w [bi] p m 1 (bys kd.data)) :
    Does Tryz.prog 130 [.pointer (some ⟨bi, 0, none⟩), .agg (pkC kd.mag kd.row kd.kind kd.code (.slice p m c)).toArray] w [bi] (fun v L => v = .bool (clockB i kd.data) ∧ L = [.cells bi (infC (clockI i kd.data)) 82]) := by
  refine does_ofM Tryz.func130 rfl rfl hi ?_
  repeat (first | refine e_ (f_bx fun b3 => ?_) | refine r_seq ?_ | refine r_nil ?_ | refine r_region ?_ | refine r_skip ?_ | refine r_block ?_ | refine r_inBlock ?_ | refine x_ ?_ | refine w_ v_p ?_ | refine w_ v_cv ?_ | refine w_ v_and ?_ | refine w_ v_or ?_ | refine w_ v_f ?_ | refine w_ v_b ?_ | refine w_ v_r ?_ | refine w_ v_i ?_ | refine w_ v_a ?_ | refine w_ v_l ?_ | refine w_ v_la ?_ | refine w_ v_ls ?_ | refine w_ v_lr ?_ | refine w_ v_ln ?_ | refine w_ v_bd ?_ | refine w_ v_ba ?_ | refine w_ v_mf ?_ | refine w_ v_sap ?_ | refine w_ v_pkf ?_ | refine w_ v_pkt ?_ | refine w_ v_nl ?_ | refine w_ v_nn ?_ | refine e_ (f_st ?_) | refine e_ (f_al fun _ => ?_) | refine e_ (f_bx fun _ => ?_))
  refine e_ (f_c (fun w hw => part_does kd.mag kd.row kd.kind kd.code kd.data p c 9 3 m w hm (by omega) (by omega) (hs.now hw)) fun v L' h => ?_)
  obtain ⟨q, rfl, rfl⟩ := h
  refine e_ (f_c (fun w hw => digits_does (partOf kd.data 9 3) 1 q 3 3 w rfl (by omega) (by omega) (sl_of_row hw (.head _))) fun v L' h => ?_)
  obtain ⟨rfl, rfl⟩ := h
  repeat (first | refine r_seq ?_ | refine r_nil ?_ | refine r_region ?_ | refine r_skip ?_ | refine r_block ?_ | refine r_inBlock ?_ | refine x_ ?_ | refine w_ v_p ?_ | refine w_ v_cv ?_ | refine w_ v_and ?_ | refine w_ v_or ?_ | refine w_ v_f ?_ | refine w_ v_b ?_ | refine w_ v_r ?_ | refine w_ v_i ?_ | refine w_ v_a ?_ | refine w_ v_l ?_ | refine w_ v_la ?_ | refine w_ v_ls ?_ | refine w_ v_lr ?_ | refine w_ v_ln ?_ | refine w_ v_bd ?_ | refine w_ v_ba ?_ | refine w_ v_mf ?_ | refine w_ v_sap ?_ | refine w_ v_pkf ?_ | refine w_ v_pkt ?_ | refine w_ v_nl ?_ | refine w_ v_nn ?_ | refine e_ (f_st ?_) | refine e_ (f_al fun _ => ?_) | refine e_ (f_bx fun _ => ?_))
  refine e_ (f_c (fun w hw => part_does kd.mag kd.row kd.kind kd.code kd.data p c 12 3 m w hm (by omega) (by omega) (hs.now hw)) fun v L' h => ?_)
  obtain ⟨q2, rfl, rfl⟩ := h
  repeat (first | refine w_ v_sh ?_ | refine r_seq ?_ | refine r_nil ?_ | refine r_region ?_ | refine r_skip ?_ | refine r_block ?_ | refine r_inBlock ?_ | refine x_ ?_ | refine w_ v_p ?_ | refine w_ v_cv ?_ | refine w_ v_and ?_ | refine w_ v_or ?_ | refine w_ v_f ?_ | refine w_ v_b ?_ | refine w_ v_r ?_ | refine w_ v_i ?_ | refine w_ v_a ?_ | refine w_ v_l ?_ | refine w_ v_la ?_ | refine w_ v_ls ?_ | refine w_ v_lr ?_ | refine w_ v_ln ?_ | refine w_ v_bd ?_ | refine w_ v_ba ?_ | refine w_ v_mf ?_ | refine w_ v_sap ?_ | refine w_ v_pkf ?_ | refine w_ v_pkt ?_ | refine w_ v_nl ?_ | refine w_ v_nn ?_ | refine e_ (f_st ?_) | refine e_ (f_al fun _ => ?_) | refine e_ (f_bx fun _ => ?_))
  refine e_ (f_c (fun w hw => digits_does [kd.data.getD 12 0] 0 _ _ _ w rfl (by omega) (by simp) (sl_row_part hw (xs := bys (partOf kd.data 12 3)) (.head _) 0 1 (by omega) (by omega))) fun v L' h => ?_)
  obtain ⟨rfl, rfl⟩ := h
  repeat (first | refine w_ v_slh ?_ | refine r_seq ?_ | refine r_nil ?_ | refine r_region ?_ | refine r_skip ?_ | refine r_block ?_ | refine r_inBlock ?_ | refine x_ ?_ | refine w_ v_p ?_ | refine w_ v_cv ?_ | refine w_ v_and ?_ | refine w_ v_or ?_ | refine w_ v_f ?_ | refine w_ v_b ?_ | refine w_ v_r ?_ | refine w_ v_i ?_ | refine w_ v_a ?_ | refine w_ v_l ?_ | refine w_ v_la ?_ | refine w_ v_ls ?_ | refine w_ v_lr ?_ | refine w_ v_ln ?_ | refine w_ v_bd ?_ | refine w_ v_ba ?_ | refine w_ v_mf ?_ | refine w_ v_sap ?_ | refine w_ v_pkf ?_ | refine w_ v_pkt ?_ | refine w_ v_nl ?_ | refine w_ v_nn ?_ | refine e_ (f_st ?_) | refine e_ (f_al fun _ => ?_) | refine e_ (f_bx fun _ => ?_))
  refine e_ (f_c (fun w hw => digits_does [kd.data.getD 13 0] 0 _ _ _ w rfl (by omega) (by simp) (sl_row_part hw (xs := bys (partOf kd.data 12 3)) (.head _) 1 2 (by omega) (by omega))) fun v L' h => ?_)
  obtain ⟨rfl, rfl⟩ := h
  repeat (first | refine w_ v_sl ?_ | refine r_seq ?_ | refine r_nil ?_ | refine r_region ?_ | refine r_skip ?_ | refine r_block ?_ | refine r_inBlock ?_ | refine x_ ?_ | refine w_ v_p ?_ | refine w_ v_cv ?_ | refine w_ v_and ?_ | refine w_ v_or ?_ | refine w_ v_f ?_ | refine w_ v_b ?_ | refine w_ v_r ?_ | refine w_ v_i ?_ | refine w_ v_a ?_ | refine w_ v_l ?_ | refine w_ v_la ?_ | refine w_ v_ls ?_ | refine w_ v_lr ?_ | refine w_ v_ln ?_ | refine w_ v_bd ?_ | refine w_ v_ba ?_ | refine w_ v_mf ?_ | refine w_ v_sap ?_ | refine w_ v_pkf ?_ | refine w_ v_pkt ?_ | refine w_ v_nl ?_ | refine w_ v_nn ?_ | refine e_ (f_st ?_) | refine e_ (f_al fun _ => ?_) | refine e_ (f_bx fun _ => ?_))
  refine e_ (f_c (fun w hw => digits_does [kd.data.getD 14 0] 0 _ _ _ w rfl (by omega) (by simp) (sl_row_part hw (xs := bys (partOf kd.data 12 3)) (.head _) 2 3 (by omega) (by omega))) fun v L' h => ?_)
  obtain ⟨rfl, rfl⟩ := h
  repeat (first | refine r_seq ?_ | refine r_nil ?_ | refine r_region ?_ | refine r_skip ?_ | refine r_block ?_ | refine r_inBlock ?_ | refine x_ ?_ | refine w_ v_p ?_ | refine w_ v_cv ?_ | refine w_ v_and ?_ | refine w_ v_or ?_ | refine w_ v_f ?_ | refine w_ v_b ?_ | refine w_ v_r ?_ | refine w_ v_i ?_ | refine w_ v_a ?_ | refine w_ v_l ?_ | refine w_ v_la ?_ | refine w_ v_ls ?_ | refine w_ v_lr ?_ | refine w_ v_ln ?_ | refine w_ v_bd ?_ | refine w_ v_ba ?_ | refine w_ v_mf ?_ | refine w_ v_sap ?_ | refine w_ v_pkf ?_ | refine w_ v_pkt ?_ | refine w_ v_nl ?_ | refine w_ v_nn ?_ | refine e_ (f_st ?_) | refine e_ (f_al fun _ => ?_) | refine e_ (f_bx fun _ => ?_))
  refine g_ (fun hc => ?_) (fun hc d hd => ?_)
  · refine r_as 69 (mk_true (gd := some _) hc) ?_
    refine e_ (f_c (fun w hw => fair_does (clockI i kd.data) w) fun v L' h => ?_)
    obtain ⟨rfl, rfl⟩ := h
    repeat (first | refine r_seq ?_ | refine r_nil ?_ | refine r_region ?_ | refine r_skip ?_ | refine r_block ?_ | refine r_inBlock ?_ | refine x_ ?_ | refine w_ v_p ?_ | refine w_ v_cv ?_ | refine w_ v_and ?_ | refine w_ v_or ?_ | refine w_ v_f ?_ | refine w_ v_b ?_ | refine w_ v_r ?_ | refine w_ v_i ?_ | refine w_ v_a ?_ | refine w_ v_l ?_ | refine w_ v_la ?_ | refine w_ v_ls ?_ | refine w_ v_lr ?_ | refine w_ v_ln ?_ | refine w_ v_bd ?_ | refine w_ v_ba ?_ | refine w_ v_mf ?_ | refine w_ v_sap ?_ | refine w_ v_pkf ?_ | refine w_ v_pkt ?_ | refine w_ v_nl ?_ | refine w_ v_nn ?_ | refine e_ (f_st ?_) | refine e_ (f_al fun _ => ?_) | refine e_ (f_bx fun _ => ?_))
    exact r_ord (M := [.cells bi (infC (clockI i kd.data)) 82]) (t2 (List.Sublist.refl _) ⟨rfl, rfl⟩)
  · cases hd
    refine r_as 66 (congrArg Value.bool hc) ?_
    repeat (first | refine r_seq ?_ | refine r_nil ?_ | refine r_region ?_ | refine r_skip ?_ | refine r_block ?_ | refine r_inBlock ?_ | refine x_ ?_ | refine w_ v_p ?_ | refine w_ v_cv ?_ | refine w_ v_and ?_ | refine w_ v_or ?_ | refine w_ v_f ?_ | refine w_ v_b ?_ | refine w_ v_r ?_ | refine w_ v_i ?_ | refine w_ v_a ?_ | refine w_ v_l ?_ | refine w_ v_la ?_ | refine w_ v_ls ?_ | refine w_ v_lr ?_ | refine w_ v_ln ?_ | refine w_ v_bd ?_ | refine w_ v_ba ?_ | refine w_ v_mf ?_ | refine w_ v_sap ?_ | refine w_ v_pkf ?_ | refine w_ v_pkt ?_ | refine w_ v_nl ?_ | refine w_ v_nn ?_ | refine e_ (f_st ?_) | refine e_ (f_al fun _ => ?_) | refine e_ (f_bx fun _ => ?_))
    refine r_ord (M := [.cells bi (infC (clockI i kd.data)) 82]) (t2 (List.Sublist.refl _) ⟨?_, rfl⟩)
    have hc' : ((digitsM (partOf kd.data 9 3) 1).isSome && (digitsM [kd.data.getD 12 0] 0).isSome && (digitsM [kd.data.getD 13 0] 0).isSome && (digitsM [kd.data.getD 14 0] 0).isSome) = false := hc
    rw [clockB, hc']; rfl

/-- Bytes without their highest bits. -/
def lettersM (l : List UInt8) : List UInt8 := l.map fun b => b &&& 0x7f
def wordB (b : UInt8) : UInt8 := if !oddB b || decide ((b &&& 0x7f).toNat < 32) then 0x20 else b &&& 0x7f

theorem textP_does (l : List UInt8) (p : Option Addr) (c m : Nat) (w : World) (hm : l.length = m) (hle : m ≤ 1000) (hs : Sl w [] p m 1 (bys l)) :
    Does Tryz.prog 171 [.slice p m c] w [] (fun v L => ∃ q d q2 d2, v = .tuple #[.slice q m d, .slice q2 m d2] ∧ L = [.row q m d (bys (lettersM l)) 5 1, .row q2 m d2 (bools (l.map oddB)) 4 1]) := by
  refine does_of Tryz.func171 rfl rfl ?_
  repeat (first | refine r_seq ?_ | refine r_nil ?_ | refine r_region ?_ | refine r_skip ?_ | refine r_block ?_ | refine r_inBlock ?_ | refine x_ ?_ | refine w_ v_p ?_ | refine w_ v_cv ?_ | refine w_ v_and ?_ | refine w_ v_or ?_ | refine w_ v_f ?_ | refine w_ v_b ?_ | refine w_ v_r ?_ | refine w_ v_i ?_ | refine w_ v_a ?_ | refine w_ v_l ?_ | refine w_ v_la ?_ | refine w_ v_ls ?_ | refine w_ v_lr ?_ | refine w_ v_ln ?_ | refine w_ v_bd ?_ | refine w_ v_ba ?_ | refine w_ v_mf ?_ | refine w_ v_sap ?_ | refine w_ v_pkf ?_ | refine w_ v_pkt ?_ | refine w_ v_nl ?_ | refine w_ v_nn ?_ | refine e_ (f_st ?_) | refine e_ (f_al fun _ => ?_) | refine e_ (f_bx fun _ => ?_))
  refine r_row (T := 5) (sz := 1) ?_
  refine r_row (T := 4) (sz := 1) ?_
  refine r_loop (τ := Nat × Option Addr × Nat × Option Addr × Nat) (fun t => t.1 ≤ m) (fun t => m - t.1)
    (fun t => [(4, .v (.slice t.2.1 t.1 t.2.2.1)), (5, .v (.slice t.2.2.2.1 t.1 t.2.2.2.2)), (10, .v (.int .i64 t.1)), (8, .v (.slice p m c)), (9, .v (.int .i64 m))])
    (fun t => [.row t.2.2.2.1 t.1 t.2.2.2.2 (bools ((l.map oddB).take t.1)) 4 1, .row t.2.1 t.1 t.2.2.1 (bys ((lettersM l).take t.1)) 5 1])
    (0, none, 0, none, 0) (by omega) ⟨rfl, rfl, rfl, rfl, rfl, trivial⟩ (List.Sublist.refl _) ?_
  rintro ⟨k, p1, c1, p2, c2⟩ hk f
  dsimp only at hk ⊢
  repeat (first | refine r_seq ?_ | refine r_nil ?_ | refine r_region ?_ | refine r_skip ?_ | refine r_block ?_ | refine r_inBlock ?_ | refine x_ ?_ | refine w_ v_p ?_ | refine w_ v_cv ?_ | refine w_ v_and ?_ | refine w_ v_or ?_ | refine w_ v_f ?_ | refine w_ v_b ?_ | refine w_ v_r ?_ | refine w_ v_i ?_ | refine w_ v_a ?_ | refine w_ v_l ?_ | refine w_ v_la ?_ | refine w_ v_ls ?_ | refine w_ v_lr ?_ | refine w_ v_ln ?_ | refine w_ v_bd ?_ | refine w_ v_ba ?_ | refine w_ v_mf ?_ | refine w_ v_sap ?_ | refine w_ v_pkf ?_ | refine w_ v_pkt ?_ | refine w_ v_nl ?_ | refine w_ v_nn ?_ | refine e_ (f_st ?_) | refine e_ (f_al fun _ => ?_) | refine e_ (f_bx fun _ => ?_))
  refine c_ (fun h => ?_) (fun h => ?_)
  · simp only [decide_eq_true_eq] at h
    have hlt : k < m := by omega
    have hb : l[k]? = some l[k] := List.getElem?_eq_getElem (by omega)
    have t1 : (lettersM l).take (k + 1) = (lettersM l).take k ++ [l[k] &&& 0x7f] := take_snoc (by rw [lettersM, List.getElem?_map, hb]; rfl)
    have t2' : (l.map oddB).take (k + 1) = (l.map oddB).take k ++ [oddB l[k]] := take_snoc (by rw [List.getElem?_map, hb]; rfl)
    generalize l[k] = b at hb t1 t2'
    have hload : (bys l)[((k : Nat) : Int).toNat * 1]? = some (.int .u8 b.toNat) := by simpa using bys_get hb
    repeat (first | refine w_ (v_ls (hv := hload)) ?_ | refine r_seq ?_ | refine r_nil ?_ | refine r_region ?_ | refine r_skip ?_ | refine r_block ?_ | refine r_inBlock ?_ | refine x_ ?_ | refine w_ v_p ?_ | refine w_ v_cv ?_ | refine w_ v_and ?_ | refine w_ v_or ?_ | refine w_ v_f ?_ | refine w_ v_b ?_ | refine w_ v_r ?_ | refine w_ v_i ?_ | refine w_ v_a ?_ | refine w_ v_l ?_ | refine w_ v_la ?_ | refine w_ v_ls ?_ | refine w_ v_lr ?_ | refine w_ v_ln ?_ | refine w_ v_bd ?_ | refine w_ v_ba ?_ | refine w_ v_mf ?_ | refine w_ v_sap ?_ | refine w_ v_pkf ?_ | refine w_ v_pkt ?_ | refine w_ v_nl ?_ | refine w_ v_nn ?_ | refine e_ (f_st ?_) | refine e_ (f_al fun _ => ?_) | refine e_ (f_bx fun _ => ?_))
    refine r_as 16 (v' := .int .u8 (b &&& 0x7f).toNat) (congrArg (Value.int .u8) (bw_and8 b 0x7f)) ?_
    refine e_ (f_bs (l := bys [b &&& 0x7f]) fun b17 => ?_)
    refine e_ (f_a (m := k) (m2 := 1) (fun w hw => sl_of_cells hw (.head _) rfl) (bys_plain _) fun q3 c3 => ?_)
    repeat (first | refine r_seq ?_ | refine r_nil ?_ | refine r_region ?_ | refine r_skip ?_ | refine r_block ?_ | refine r_inBlock ?_ | refine x_ ?_ | refine w_ v_p ?_ | refine w_ v_cv ?_ | refine w_ v_and ?_ | refine w_ v_or ?_ | refine w_ v_f ?_ | refine w_ v_b ?_ | refine w_ v_r ?_ | refine w_ v_i ?_ | refine w_ v_a ?_ | refine w_ v_l ?_ | refine w_ v_la ?_ | refine w_ v_ls ?_ | refine w_ v_lr ?_ | refine w_ v_ln ?_ | refine w_ v_bd ?_ | refine w_ v_ba ?_ | refine w_ v_mf ?_ | refine w_ v_sap ?_ | refine w_ v_pkf ?_ | refine w_ v_pkt ?_ | refine w_ v_nl ?_ | refine w_ v_nn ?_ | refine e_ (f_st ?_) | refine e_ (f_al fun _ => ?_) | refine e_ (f_bx fun _ => ?_))
    refine e_ (f_c (fun w hw => odd_does b w) fun v L' h => ?_)
    obtain ⟨rfl, rfl⟩ := h
    refine e_ (f_bs (l := bools [oddB b]) fun b22 => ?_)
    refine e_ (f_a (m := k) (m2 := 1) (fun w hw => sl_of_cells hw (.head _) rfl) (bools_plain _) fun q4 c4 => ?_)
    rw [← bys_append, ← bools_append, ← t1, ← t2']
    repeat (first | refine r_seq ?_ | refine r_nil ?_ | refine r_region ?_ | refine r_skip ?_ | refine r_block ?_ | refine r_inBlock ?_ | refine x_ ?_ | refine w_ v_p ?_ | refine w_ v_cv ?_ | refine w_ v_and ?_ | refine w_ v_or ?_ | refine w_ v_f ?_ | refine w_ v_b ?_ | refine w_ v_r ?_ | refine w_ v_i ?_ | refine w_ v_a ?_ | refine w_ v_l ?_ | refine w_ v_la ?_ | refine w_ v_ls ?_ | refine w_ v_lr ?_ | refine w_ v_ln ?_ | refine w_ v_bd ?_ | refine w_ v_ba ?_ | refine w_ v_mf ?_ | refine w_ v_sap ?_ | refine w_ v_pkf ?_ | refine w_ v_pkt ?_ | refine w_ v_nl ?_ | refine w_ v_nn ?_ | refine e_ (f_st ?_) | refine e_ (f_al fun _ => ?_) | refine e_ (f_bx fun _ => ?_))
    exact r_ord (r_again (k + 1, q3, c3, q4, c4) (by dsimp only; omega) (by dsimp only; omega) ⟨rfl, rfl, rfl, rfl, rfl, trivial⟩ (List.Sublist.refl _))
  · simp only [decide_eq_false_iff_not] at h
    have hk2 : k = m := by omega
    subst hk2
    repeat (first | refine r_seq ?_ | refine r_nil ?_ | refine r_region ?_ | refine r_skip ?_ | refine r_block ?_ | refine r_inBlock ?_ | refine x_ ?_ | refine w_ v_p ?_ | refine w_ v_cv ?_ | refine w_ v_and ?_ | refine w_ v_or ?_ | refine w_ v_f ?_ | refine w_ v_b ?_ | refine w_ v_r ?_ | refine w_ v_i ?_ | refine w_ v_a ?_ | refine w_ v_l ?_ | refine w_ v_la ?_ | refine w_ v_ls ?_ | refine w_ v_lr ?_ | refine w_ v_ln ?_ | refine w_ v_bd ?_ | refine w_ v_ba ?_ | refine w_ v_mf ?_ | refine w_ v_sap ?_ | refine w_ v_pkf ?_ | refine w_ v_pkt ?_ | refine w_ v_nl ?_ | refine w_ v_nn ?_ | refine e_ (f_st ?_) | refine e_ (f_al fun _ => ?_) | refine e_ (f_bx fun _ => ?_))
    refine r_ord (M := [.row p1 k c1 (bys ((lettersM l).take k)) 5 1, .row p2 k c2 (bools ((l.map oddB).take k)) 4 1]) ?_
    rw [List.take_of_length_le (by simp [lettersM, hm]), List.take_of_length_le (by simp [hm])]
    exact t2 (List.Sublist.refl _) ⟨p1, c1, p2, c2, rfl, rfl⟩

theorem words_does (l : List UInt8) (p : Option Addr) (c m : Nat) (w : World) (hm : l.length = m) (hle : m ≤ 1000) (hs : Sl w [] p m 1 (bys l)) :
    Does Tryz.prog 131 [.slice p m c] w [] (fun v L => v = str (l.map wordB) ∧ L = []) := by
  refine does_of Tryz.func131 rfl rfl ?_
  repeat (first | refine r_seq ?_ | refine r_nil ?_ | refine r_region ?_ | refine r_skip ?_ | refine r_block ?_ | refine r_inBlock ?_ | refine x_ ?_ | refine w_ v_p ?_ | refine w_ v_cv ?_ | refine w_ v_and ?_ | refine w_ v_or ?_ | refine w_ v_f ?_ | refine w_ v_b ?_ | refine w_ v_r ?_ | refine w_ v_i ?_ | refine w_ v_a ?_ | refine w_ v_l ?_ | refine w_ v_la ?_ | refine w_ v_ls ?_ | refine w_ v_lr ?_ | refine w_ v_ln ?_ | refine w_ v_bd ?_ | refine w_ v_ba ?_ | refine w_ v_mf ?_ | refine w_ v_sap ?_ | refine w_ v_pkf ?_ | refine w_ v_pkt ?_ | refine w_ v_nl ?_ | refine w_ v_nn ?_ | refine e_ (f_st ?_) | refine e_ (f_al fun _ => ?_) | refine e_ (f_bx fun _ => ?_))
  refine e_ (f_c (fun w hw => textP_does l p c m w hm hle (hs.now hw)) fun v L' h => ?_)
  obtain ⟨q, d, q2, d2, rfl, rfl⟩ := h
  repeat (first | refine r_seq ?_ | refine r_nil ?_ | refine r_region ?_ | refine r_skip ?_ | refine r_block ?_ | refine r_inBlock ?_ | refine x_ ?_ | refine w_ v_p ?_ | refine w_ v_cv ?_ | refine w_ v_and ?_ | refine w_ v_or ?_ | refine w_ v_f ?_ | refine w_ v_b ?_ | refine w_ v_r ?_ | refine w_ v_i ?_ | refine w_ v_a ?_ | refine w_ v_l ?_ | refine w_ v_la ?_ | refine w_ v_ls ?_ | refine w_ v_lr ?_ | refine w_ v_ln ?_ | refine w_ v_bd ?_ | refine w_ v_ba ?_ | refine w_ v_mf ?_ | refine w_ v_sap ?_ | refine w_ v_pkf ?_ | refine w_ v_pkt ?_ | refine w_ v_nl ?_ | refine w_ v_nn ?_ | refine e_ (f_st ?_) | refine e_ (f_al fun _ => ?_) | refine e_ (f_bx fun _ => ?_))
  refine r_loop (τ := Nat) (fun k => k ≤ m) (fun k => m - k)
    (fun k => [(3, .v (.slice q m d)), (4, .v (.slice q2 m d2)), (13, .v (.int .i64 k)), (12, .v (.int .i64 m))])
    (fun k => [.row q m d (bys ((l.map wordB).take k ++ (lettersM l).drop k)) 5 1, .row q2 m d2 (bools (l.map oddB)) 4 1])
    0 (by omega) ⟨rfl, rfl, rfl, rfl, trivial⟩ (List.Sublist.refl _) ?_
  rintro k hk f
  repeat (first | refine r_seq ?_ | refine r_nil ?_ | refine r_region ?_ | refine r_skip ?_ | refine r_block ?_ | refine r_inBlock ?_ | refine x_ ?_ | refine w_ v_p ?_ | refine w_ v_cv ?_ | refine w_ v_and ?_ | refine w_ v_or ?_ | refine w_ v_f ?_ | refine w_ v_b ?_ | refine w_ v_r ?_ | refine w_ v_i ?_ | refine w_ v_a ?_ | refine w_ v_l ?_ | refine w_ v_la ?_ | refine w_ v_ls ?_ | refine w_ v_lr ?_ | refine w_ v_ln ?_ | refine w_ v_bd ?_ | refine w_ v_ba ?_ | refine w_ v_mf ?_ | refine w_ v_sap ?_ | refine w_ v_pkf ?_ | refine w_ v_pkt ?_ | refine w_ v_nl ?_ | refine w_ v_nn ?_ | refine e_ (f_st ?_) | refine e_ (f_al fun _ => ?_) | refine e_ (f_bx fun _ => ?_))
  refine c_ (fun h => ?_) (fun h => ?_)
  · simp only [decide_eq_true_eq] at h
    have hlt : k < m := by omega
    have hb : l[k]? = some l[k] := List.getElem?_eq_getElem (by omega)
    have hb2 : (l.map wordB)[k]? = some (wordB l[k]) := by rw [List.getElem?_map, hb]; rfl
    have hb3 : (lettersM l)[k]? = some (l[k] &&& 0x7f) := by rw [lettersM, List.getElem?_map, hb]; rfl
    have hb4 : (l.map oddB)[k]? = some (oddB l[k]) := by rw [List.getElem?_map, hb]; rfl
    generalize l[k] = b at hb hb2 hb3 hb4
    have htl : ((l.map wordB).take k).length = k := by simp; omega
    have hdr : (lettersM l).drop k = (b &&& 0x7f) :: (lettersM l).drop (k + 1) := by
      rw [List.getElem?_eq_some_iff] at hb3
      obtain ⟨h1, h2⟩ := hb3
      rw [List.drop_eq_getElem_cons h1, h2]
    have htk := take_snoc hb2
    have hl1 : (bools (l.map oddB))[((k : Nat) : Int).toNat * 1]? = some (.bool (oddB b)) := by simpa using bools_get hb4
    have hl2 : (bys ((l.map wordB).take k ++ (lettersM l).drop k))[((k : Nat) : Int).toNat * 1]? = some (.int .u8 (b &&& 0x7f).toNat) := by
      have : ((l.map wordB).take k ++ (lettersM l).drop k)[k]? = some (b &&& 0x7f) := by
        rw [List.getElem?_append_right (by omega), htl, hdr, Nat.sub_self]; rfl
      simpa using bys_get this
    repeat (first | refine w_ (v_lr (hv := hl1)) ?_ | refine w_ (v_lr (hv := hl2)) ?_ | refine r_seq ?_ | refine r_nil ?_ | refine r_region ?_ | refine r_skip ?_ | refine r_block ?_ | refine r_inBlock ?_ | refine x_ ?_ | refine w_ v_p ?_ | refine w_ v_cv ?_ | refine w_ v_and ?_ | refine w_ v_or ?_ | refine w_ v_f ?_ | refine w_ v_b ?_ | refine w_ v_r ?_ | refine w_ v_i ?_ | refine w_ v_a ?_ | refine w_ v_l ?_ | refine w_ v_la ?_ | refine w_ v_ls ?_ | refine w_ v_lr ?_ | refine w_ v_ln ?_ | refine w_ v_bd ?_ | refine w_ v_ba ?_ | refine w_ v_mf ?_ | refine w_ v_sap ?_ | refine w_ v_pkf ?_ | refine w_ v_pkt ?_ | refine w_ v_nl ?_ | refine w_ v_nn ?_ | refine e_ (f_st ?_) | refine e_ (f_al fun _ => ?_) | refine e_ (f_bx fun _ => ?_))
    have hw : wordB b = if (!oddB b || decide (((b &&& 0x7f).toNat : Int) < 32)) then 0x20 else b &&& 0x7f := by
      have h3 : decide (((b &&& 0x7f).toNat : Int) < 32) = decide ((b &&& 0x7f).toNat < 32) := by rw [decide_eq_decide]; omega
      rw [wordB, h3]
    refine c_ (fun h1 => ?_) (fun h1 => ?_)
    · rw [if_pos h1] at hw
      have hst : splice (bys ((l.map wordB).take k ++ (lettersM l).drop k)) (((k : Nat) : Int).toNat * 1) [.int .u8 (0x20 : UInt8).toNat] = bys ((l.map wordB).take (k + 1) ++ (lettersM l).drop (k + 1)) := by
        rw [hdr, splice_bys _ _ _ _ (by rw [htl]; simp), htk, hw]; simp
      have hlen : (bys ((l.map wordB).take k ++ (lettersM l).drop k)).length = m := by simp [bys, lettersM]; omega
      repeat (first | refine r_seq ?_ | refine r_nil ?_ | refine r_region ?_ | refine r_skip ?_ | refine r_block ?_ | refine r_inBlock ?_ | refine x_ ?_ | refine w_ v_p ?_ | refine w_ v_cv ?_ | refine w_ v_and ?_ | refine w_ v_or ?_ | refine w_ v_f ?_ | refine w_ v_b ?_ | refine w_ v_r ?_ | refine w_ v_i ?_ | refine w_ v_a ?_ | refine w_ v_l ?_ | refine w_ v_la ?_ | refine w_ v_ls ?_ | refine w_ v_lr ?_ | refine w_ v_ln ?_ | refine w_ v_bd ?_ | refine w_ v_ba ?_ | refine w_ v_mf ?_ | refine w_ v_sap ?_ | refine w_ v_pkf ?_ | refine w_ v_pkt ?_ | refine w_ v_nl ?_ | refine w_ v_nn ?_ | refine e_ (f_st ?_) | refine e_ (f_al fun _ => ?_) | refine e_ (f_bx fun _ => ?_))
      refine e_ (f_sr (off := ((k : Nat) : Int).toNat * 1) (hl := hst) ?_ (by rw [hlen]; simp; omega))
      repeat (first | refine r_seq ?_ | refine r_nil ?_ | refine r_region ?_ | refine r_skip ?_ | refine r_block ?_ | refine r_inBlock ?_ | refine x_ ?_ | refine w_ v_p ?_ | refine w_ v_cv ?_ | refine w_ v_and ?_ | refine w_ v_or ?_ | refine w_ v_f ?_ | refine w_ v_b ?_ | refine w_ v_r ?_ | refine w_ v_i ?_ | refine w_ v_a ?_ | refine w_ v_l ?_ | refine w_ v_la ?_ | refine w_ v_ls ?_ | refine w_ v_lr ?_ | refine w_ v_ln ?_ | refine w_ v_bd ?_ | refine w_ v_ba ?_ | refine w_ v_mf ?_ | refine w_ v_sap ?_ | refine w_ v_pkf ?_ | refine w_ v_pkt ?_ | refine w_ v_nl ?_ | refine w_ v_nn ?_ | refine e_ (f_st ?_) | refine e_ (f_al fun _ => ?_) | refine e_ (f_bx fun _ => ?_))
      exact r_again (k + 1) (by omega) (by omega) ⟨rfl, rfl, rfl, rfl, trivial⟩ (List.Sublist.refl _)
    · rw [if_neg (by rw [h1]; decide)] at hw
      have hst : (l.map wordB).take k ++ (lettersM l).drop k = (l.map wordB).take (k + 1) ++ (lettersM l).drop (k + 1) := by
        rw [hdr, htk, hw]; simp
      rw [hst]
      repeat (first | refine r_seq ?_ | refine r_nil ?_ | refine r_region ?_ | refine r_skip ?_ | refine r_block ?_ | refine r_inBlock ?_ | refine x_ ?_ | refine w_ v_p ?_ | refine w_ v_cv ?_ | refine w_ v_and ?_ | refine w_ v_or ?_ | refine w_ v_f ?_ | refine w_ v_b ?_ | refine w_ v_r ?_ | refine w_ v_i ?_ | refine w_ v_a ?_ | refine w_ v_l ?_ | refine w_ v_la ?_ | refine w_ v_ls ?_ | refine w_ v_lr ?_ | refine w_ v_ln ?_ | refine w_ v_bd ?_ | refine w_ v_ba ?_ | refine w_ v_mf ?_ | refine w_ v_sap ?_ | refine w_ v_pkf ?_ | refine w_ v_pkt ?_ | refine w_ v_nl ?_ | refine w_ v_nn ?_ | refine e_ (f_st ?_) | refine e_ (f_al fun _ => ?_) | refine e_ (f_bx fun _ => ?_))
      exact r_again (k + 1) (by omega) (by omega) ⟨rfl, rfl, rfl, rfl, trivial⟩ (List.Sublist.refl _)
  · simp only [decide_eq_false_iff_not] at h
    have hk2 : k = m := by omega
    subst hk2
    rw [List.take_of_length_le (by simp [hm]), List.drop_of_length_le (by simp [lettersM, hm]), List.append_nil]
    repeat (first | refine w_ (v_bts (l := l.map wordB) (fun W hW => sl_of_row hW (.head _))) ?_ | refine r_seq ?_ | refine r_nil ?_ | refine r_region ?_ | refine r_skip ?_ | refine r_block ?_ | refine r_inBlock ?_ | refine x_ ?_ | refine w_ v_p ?_ | refine w_ v_cv ?_ | refine w_ v_and ?_ | refine w_ v_or ?_ | refine w_ v_f ?_ | refine w_ v_b ?_ | refine w_ v_r ?_ | refine w_ v_i ?_ | refine w_ v_a ?_ | refine w_ v_l ?_ | refine w_ v_la ?_ | refine w_ v_ls ?_ | refine w_ v_lr ?_ | refine w_ v_ln ?_ | refine w_ v_bd ?_ | refine w_ v_ba ?_ | refine w_ v_mf ?_ | refine w_ v_sap ?_ | refine w_ v_pkf ?_ | refine w_ v_pkt ?_ | refine w_ v_nl ?_ | refine w_ v_nn ?_ | refine e_ (f_st ?_) | refine e_ (f_al fun _ => ?_) | refine e_ (f_bx fun _ => ?_))
    exact t2 (List.nil_sublist _) ⟨rfl, rfl⟩
end Go.Proofs

namespace Go.Cf
variable {P : Program} {n : Nat} {Q : Exit → Act → World → Prop} {k : List It} {f : Nat → Value} {σ : Bd} {w0 : World} {F : List Nat} {L : Hp} {dst : Option Tmp} {ty : TypeId} {pos : String} {after : Array Edge} {guard : Option (Nat × Bool)} {K : Bd → St → Prop}

def blks (C : Hp) : List Nat := C.filterMap En.blk

/-- Some of what is known, as a callee's own. -/
theorem St.holds.give {w : World} (h : (St.mk w0 F L).holds w) {C R : Hp} (hp : L.Perm (C ++ R)) : (St.mk w (blks C) C).holds w := by
  have h2 := h.perm hp
  refine ⟨rfl, rfl, rfl, Nat.le_refl _, fun _ _ _ => rfl, fun e he => h2.own e (by simp [he]), ?_, fun e b he hb _ => List.mem_filterMap.2 ⟨e, he, hb⟩⟩
  have := h2.nodup
  simp only [List.filterMap_append] at this
  exact (List.nodup_append.1 this).1

theorem Rd.at {w : World} (h : (St.mk w0 F L).holds w) {F' : List Nat} (hF : ∀ b, b ∈ F' → b ∈ blks L) {b off : Nat} {v : Value} (hr : Rd w0 F b off v) : Rd w F' b off v := by
  refine ⟨Nat.lt_of_lt_of_le hr.1 h.size, fun hm => ?_, h.rd (s := ⟨w0, F, L⟩) hr⟩
  obtain ⟨e, he, hb⟩ := List.mem_filterMap.1 (hF b hm)
  exact hr.2.1 (h.fp e b he hb hr.1)

theorem Sl.at {w : World} (h : (St.mk w0 F L).holds w) {F' : List Nat} (hF : ∀ b, b ∈ F' → b ∈ blks L) {p : Option Addr} {m sz : Nat} {xs : List Value} (hs : Sl w0 F p m sz xs) : Sl w F' p m sz xs :=
  ⟨hs.len, hs.ptr, fun j v hj => Rd.at h hF (hs.rd j v hj)⟩

/-- A row that the call leaves alone. -/
theorem sl_row_at {w : World} (h : (St.mk w0 F L).holds w) {C R : Hp} (hp : L.Perm (C ++ R)) {F' : List Nat} (hF : ∀ b, b ∈ F' → b ∈ blks C) {p : Option Addr} {m cap sz : Nat} {xs : List Value} {T : TypeId} (hm : En.row p m cap xs T sz ∈ R) : Sl w F' p m sz xs := by
  have h1 := sl_of_row h (hp.mem_iff.2 (List.mem_append_right C hm))
  refine ⟨h1.len, h1.ptr, fun j v hj => ?_⟩
  have h2 := h1.rd j v hj
  refine ⟨h2.1, fun hb => ?_, h2.2.2⟩
  have h3 := (h.perm hp).nodup
  simp only [List.filterMap_append] at h3
  have hpos : 0 < m := by
    have := (List.getElem?_eq_some_iff.1 hj).1
    rw [h1.len] at this
    exact Nat.pos_of_mul_pos_right (by omega : 0 < m * sz)
  have hb2 : pb p ∈ List.filterMap En.blk R := List.mem_filterMap.2 ⟨_, hm, by rw [En.blk, h1.ptr hpos]; rfl⟩
  exact (List.nodup_append.1 h3).2.2 _ (hF _ hb) _ hb2 rfl

theorem Glob.give {E : Nat → Value} {w : World} (h : Glob w0 F E) (hs : (St.mk w0 F L).holds w) {C R : Hp} (hp : L.Perm (C ++ R)) {F' : List Nat} (hF : ∀ b, b ∈ F' → b ∈ blks C) : Glob w F' E :=
  h.at hs fun b hb => by
    have := hF b hb
    exact (hp.filterMap En.blk).mem_iff.2 (by rw [List.filterMap_append]; exact List.mem_append_left _ this)
theorem Sl.give {w : World} (h : (St.mk w0 F L).holds w) {C R : Hp} (hp : L.Perm (C ++ R)) {F' : List Nat} (hF : ∀ b, b ∈ F' → b ∈ blks C) {p : Option Addr} {m sz : Nat} {xs : List Value} (hs : Sl w0 F p m sz xs) : Sl w F' p m sz xs :=
  hs.at h fun b hb => by
    have := hF b hb
    exact (hp.filterMap En.blk).mem_iff.2 (by rw [List.filterMap_append]; exact List.mem_append_left _ this)
end Go.Cf

