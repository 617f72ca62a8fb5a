/-
  Contracts: packets read.
-/
import Derived.Test.YtdjgkbphbffleaaGreatDoorA02
namespace Go.Proofs
open Go.Cf
set_option maxRecDepth 10000

theorem tab8 : ∀ m : Nat, m < 256 → (ByteArray.mk #[0, 1, 1, 2, 1, 2, 2, 3, 1, 2, 2, 3, 2, 3, 3, 4, 1, 2, 2, 3, 2, 3, 3, 4, 2, 3, 3, 4, 3, 4, 4, 5, 1, 2, 2, 3, 2, 3, 3, 4, 2, 3, 3, 4, 3, 4, 4, 5, 2, 3, 3, 4, 3, 4, 4, 5, 3, 4, 4, 5, 4, 5, 5, 6, 1, 2, 2, 3, 2, 3, 3, 4, 2, 3, 3, 4, 3, 4, 4, 5, 2, 3, 3, 4, 3, 4, 4, 5, 3, 4, 4, 5, 4, 5, 5, 6, 2, 3, 3, 4, 3, 4, 4, 5, 3, 4, 4, 5, 4, 5, 5, 6, 3, 4, 4, 5, 4, 5, 5, 6, 4, 5, 5, 6, 5, 6, 6, 7, 1, 2, 2, 3, 2, 3, 3, 4, 2, 3, 3, 4, 3, 4, 4, 5, 2, 3, 3, 4, 3, 4, 4, 5, 3, 4, 4, 5, 4, 5, 5, 6, 2, 3, 3, 4, 3, 4, 4, 5, 3, 4, 4, 5, 4, 5, 5, 6, 3, 4, 4, 5, 4, 5, 5, 6, 4, 5, 5, 6, 5, 6, 6, 7, 2, 3, 3, 4, 3, 4, 4, 5, 3, 4, 4, 5, 4, 5, 5, 6, 3, 4, 4, 5, 4, 5, 5, 6, 4, 5, 5, 6, 5, 6, 6, 7, 3, 4, 4, 5, 4, 5, 5, 6, 4, 5, 5, 6, 5, 6, 6, 7, 4, 5, 5, 6, 5, 6, 6, 7, 5, 6, 6, 7, 6, 7, 7, 8])[m]? = some (UInt8.ofNat (pop m)) := by
  have h : ∀ m : Nat, m < 256 → (ByteArray.mk #[0, 1, 1, 2, 1, 2, 2, 3, 1, 2, 2, 3, 2, 3, 3, 4, 1, 2, 2, 3, 2, 3, 3, 4, 2, 3, 3, 4, 3, 4, 4, 5, 1, 2, 2, 3, 2, 3, 3, 4, 2, 3, 3, 4, 3, 4, 4, 5, 2, 3, 3, 4, 3, 4, 4, 5, 3, 4, 4, 5, 4, 5, 5, 6, 1, 2, 2, 3, 2, 3, 3, 4, 2, 3, 3, 4, 3, 4, 4, 5, 2, 3, 3, 4, 3, 4, 4, 5, 3, 4, 4, 5, 4, 5, 5, 6, 2, 3, 3, 4, 3, 4, 4, 5, 3, 4, 4, 5, 4, 5, 5, 6, 3, 4, 4, 5, 4, 5, 5, 6, 4, 5, 5, 6, 5, 6, 6, 7, 1, 2, 2, 3, 2, 3, 3, 4, 2, 3, 3, 4, 3, 4, 4, 5, 2, 3, 3, 4, 3, 4, 4, 5, 3, 4, 4, 5, 4, 5, 5, 6, 2, 3, 3, 4, 3, 4, 4, 5, 3, 4, 4, 5, 4, 5, 5, 6, 3, 4, 4, 5, 4, 5, 5, 6, 4, 5, 5, 6, 5, 6, 6, 7, 2, 3, 3, 4, 3, 4, 4, 5, 3, 4, 4, 5, 4, 5, 5, 6, 3, 4, 4, 5, 4, 5, 5, 6, 4, 5, 5, 6, 5, 6, 6, 7, 3, 4, 4, 5, 4, 5, 5, 6, 4, 5, 5, 6, 5, 6, 6, 7, 4, 5, 5, 6, 5, 6, 6, 7, 5, 6, 6, 7, 6, 7, 7, 8])[m]? = some (UInt8.ofNat (popF 8 m)) := by decide
  intro m hm
  rw [pop_eq 8 m hm]; exact h m hm

theorem ones8_does (x : UInt8) (w : World) : Does Tryz.prog 183 [.int .u8 x.toNat] w [] (fun v L => v = .int .i64 (pop x.toNat) ∧ L = []) := by
  refine does_of Tryz.func183 rfl rfl ?_
  have hx := x.toNat_lt
  have h3 := pop8 x
  have h2 : (UInt8.ofNat (pop x.toNat)).toNat = pop x.toNat := by rw [UInt8.toNat_ofNat']; omega
  repeat (first | refine w_ (v_is (i := (x.toNat : Int)) (b := UInt8.ofNat (pop x.toNat)) ⟨by omega, tab8 _ hx⟩) ?_ | refine r_seq ?_ | refine r_nil ?_ | refine r_region ?_ | refine r_skip ?_ | refine r_block ?_ | refine r_inBlock ?_ | refine x_ ?_ | refine w_ v_p ?_ | refine w_ v_cv ?_ | refine w_ v_and ?_ | refine w_ v_or ?_ | refine w_ v_f ?_ | refine w_ v_b ?_ | refine w_ v_r ?_ | refine w_ v_i ?_ | refine w_ v_a ?_ | refine w_ v_l ?_ | refine w_ v_la ?_ | refine w_ v_ls ?_ | refine w_ v_lr ?_ | refine w_ v_ln ?_ | refine w_ v_bd ?_ | refine w_ v_mf ?_ | refine e_ (f_st ?_) | refine e_ (f_al fun _ => ?_) | refine e_ (f_bx fun _ => ?_))
  exact t_ rfl (.tmp rfl .nil) (List.Sublist.refl _) ⟨congrArg (fun m : Nat => Value.int .i64 (m : Int)) h2, rfl⟩

theorem odd_does (x : UInt8) (w : World) : Does Tryz.prog 209 [.int .u8 x.toNat] w [] (fun v L => v = .bool (oddB x) ∧ L = []) := by
  refine does_of Tryz.func209 rfl rfl ?_
  repeat (first | refine r_seq ?_ | refine r_nil ?_ | refine r_region ?_ | refine r_skip ?_ | refine r_block ?_ | refine r_inBlock ?_ | refine x_ ?_ | refine w_ v_p ?_ | refine w_ v_cv ?_ | refine w_ v_and ?_ | refine w_ v_or ?_ | refine w_ v_f ?_ | refine w_ v_b ?_ | refine w_ v_r ?_ | refine w_ v_i ?_ | refine w_ v_a ?_ | refine w_ v_l ?_ | refine w_ v_la ?_ | refine w_ v_ls ?_ | refine w_ v_lr ?_ | refine w_ v_ln ?_ | refine w_ v_bd ?_ | refine w_ v_mf ?_ | refine e_ (f_st ?_) | refine e_ (f_al fun _ => ?_) | refine e_ (f_bx fun _ => ?_))
  refine e_ (f_c (fun w _ => ones8_does x w) fun v L' h => ?_)
  obtain ⟨rfl, rfl⟩ := h
  repeat (first | refine r_seq ?_ | refine r_nil ?_ | refine r_region ?_ | refine r_skip ?_ | refine r_block ?_ | refine r_inBlock ?_ | refine x_ ?_ | refine w_ v_p ?_ | refine w_ v_cv ?_ | refine w_ v_and ?_ | refine w_ v_or ?_ | refine w_ v_f ?_ | refine w_ v_b ?_ | refine w_ v_r ?_ | refine w_ v_i ?_ | refine w_ v_a ?_ | refine w_ v_l ?_ | refine w_ v_la ?_ | refine w_ v_ls ?_ | refine w_ v_lr ?_ | refine w_ v_ln ?_ | refine w_ v_bd ?_ | refine w_ v_mf ?_ | refine e_ (f_st ?_) | refine e_ (f_al fun _ => ?_) | refine e_ (f_bx fun _ => ?_))
  refine t_ rfl (.tmp rfl .nil) (List.Sublist.refl _) ⟨?_, rfl⟩
  show Value.bool _ = _
  simp only [oddB]
  congr 1
  rw [Bool.eq_iff_iff]
  simp only [beq_iff_eq]
  omega

theorem even_does (x : UInt8) (w : World) : Does Tryz.prog 224 [.int .u8 x.toNat] w [] (fun v L => v = .bool (!oddB x) ∧ L = []) := by
  refine does_of Tryz.func224 rfl rfl ?_
  repeat (first | refine r_seq ?_ | refine r_nil ?_ | refine r_region ?_ | refine r_skip ?_ | refine r_block ?_ | refine r_inBlock ?_ | refine x_ ?_ | refine w_ v_p ?_ | refine w_ v_cv ?_ | refine w_ v_and ?_ | refine w_ v_or ?_ | refine w_ v_f ?_ | refine w_ v_b ?_ | refine w_ v_r ?_ | refine w_ v_i ?_ | refine w_ v_a ?_ | refine w_ v_l ?_ | refine w_ v_la ?_ | refine w_ v_ls ?_ | refine w_ v_lr ?_ | refine w_ v_ln ?_ | refine w_ v_bd ?_ | refine w_ v_mf ?_ | refine e_ (f_st ?_) | refine e_ (f_al fun _ => ?_) | refine e_ (f_bx fun _ => ?_))
  refine e_ (f_c (fun w _ => odd_does x w) fun v L' h => ?_)
  obtain ⟨rfl, rfl⟩ := h
  repeat (first | refine r_seq ?_ | refine r_nil ?_ | refine r_region ?_ | refine r_skip ?_ | refine r_block ?_ | refine r_inBlock ?_ | refine x_ ?_ | refine w_ v_p ?_ | refine w_ v_cv ?_ | refine w_ v_and ?_ | refine w_ v_or ?_ | refine w_ v_f ?_ | refine w_ v_b ?_ | refine w_ v_r ?_ | refine w_ v_i ?_ | refine w_ v_a ?_ | refine w_ v_l ?_ | refine w_ v_la ?_ | refine w_ v_ls ?_ | refine w_ v_lr ?_ | refine w_ v_ln ?_ | refine w_ v_bd ?_ | refine w_ v_mf ?_ | refine e_ (f_st ?_) | refine e_ (f_al fun _ => ?_) | refine e_ (f_bx fun _ => ?_))
  exact t_ rfl (.tmp rfl .nil) (List.Sublist.refl _) ⟨rfl, rfl⟩

theorem put1_does (n j b off : Nat) (w : World) (hj : j < 4) (hn : n < 16) (hr : Rd w [] b off (.int .i64 n)) :
    Does Tryz.prog 223 [.int .i64 (j + 1 : Nat), .pointer (some ⟨b, off, none⟩)] w [] (fun v L => v = .int .u8 (n / 2 ^ j % 2 : Nat) ∧ L = []) := by
  refine does_of Tryz.func223 rfl rfl ?_
  have h1 : ((j + 1 : Nat) : Int) - 1 = (j : Nat) := by omega
  have h2 : (n : Int) / 2 ^ ((((j + 1 : Nat) : Int) - 1).toNat) = ((n / 2 ^ j : Nat) : Int) := by rw [h1]; simp
  have h3 : n / 2 ^ j < 16 := Nat.lt_of_le_of_lt (Nat.div_le_self _ _) hn
  have h4 : n / 2 ^ j % 2 < 2 := Nat.mod_lt _ (by decide)
  have h5 : bw .and .i64 ((n : Int) / 2 ^ ((((j + 1 : Nat) : Int) - 1).toNat)) 1 = (n / 2 ^ j % 2 : Nat) := by
    rw [h2]
    have := bw_and (n / 2 ^ j) 1 (by omega) (by decide)
    rw [Nat.and_one_is_mod] at this
    exact this
  repeat (first | refine w_ (v_lb hr) ?_ | refine r_seq ?_ | refine r_nil ?_ | refine r_region ?_ | refine r_skip ?_ | refine r_block ?_ | refine r_inBlock ?_ | refine x_ ?_ | refine w_ v_p ?_ | refine w_ v_cv ?_ | refine w_ v_and ?_ | refine w_ v_or ?_ | refine w_ v_f ?_ | refine w_ v_b ?_ | refine w_ v_r ?_ | refine w_ v_i ?_ | refine w_ v_a ?_ | refine w_ v_l ?_ | refine w_ v_la ?_ | refine w_ v_ls ?_ | refine w_ v_lr ?_ | refine w_ v_ln ?_ | refine w_ v_bd ?_ | refine w_ v_mf ?_ | refine e_ (f_st ?_) | refine e_ (f_al fun _ => ?_) | refine e_ (f_bx fun _ => ?_))
  refine r_re (congrArg _ h5) ?_
  repeat (first | refine r_seq ?_ | refine r_nil ?_ | refine r_region ?_ | refine r_skip ?_ | refine r_block ?_ | refine r_inBlock ?_ | refine x_ ?_ | refine w_ v_p ?_ | refine w_ v_cv ?_ | refine w_ v_and ?_ | refine w_ v_or ?_ | refine w_ v_f ?_ | refine w_ v_b ?_ | refine w_ v_r ?_ | refine w_ v_i ?_ | refine w_ v_a ?_ | refine w_ v_l ?_ | refine w_ v_la ?_ | refine w_ v_ls ?_ | refine w_ v_lr ?_ | refine w_ v_ln ?_ | refine w_ v_bd ?_ | refine w_ v_mf ?_ | refine e_ (f_st ?_) | refine e_ (f_al fun _ => ?_) | refine e_ (f_bx fun _ => ?_))
  exact t_ rfl (.tmp rfl .nil) (List.Sublist.refl _) ⟨rfl, rfl⟩

theorem hp_eq (n : Nat) (hn : n < 16) : ∀ b : Nat, b = hp0 n → b < 256 ∧ (UInt8.ofNat b).toNat = b := by
  have h : ∀ m : Nat, m < 16 → hp0 m < 256 := by decide
  rintro b rfl
  exact ⟨h n hn, by have := h n hn; rw [UInt8.toNat_ofNat']; omega⟩

theorem hamPut_does (n : Nat) (w : World) (hn : n < 16) : Does Tryz.prog 184 [.int .i64 n] w [] (fun v L => v = .int .u8 (hamPut n).toNat ∧ L = []) := by
  refine does_of Tryz.func184 rfl rfl ?_
  have hr : ∀ {L : Hp} {w1 : World} {b : Nat}, (St.mk w [] (.cells b [.int .i64 n] 3 :: L)).holds w1 → Rd w1 [] b 0 (.int .i64 n) := fun hs => rd_of_cells hs (.head _) rfl
  repeat (first | (refine e_ (f_v (fun w hs => put1_does n 0 _ 0 w (by decide) hn (hr hs)) fun v L' h => ?_); obtain ⟨rfl, rfl⟩ := h) | (refine e_ (f_v (fun w hs => put1_does n 1 _ 0 w (by decide) hn (hr hs)) fun v L' h => ?_); obtain ⟨rfl, rfl⟩ := h) | (refine e_ (f_v (fun w hs => put1_does n 2 _ 0 w (by decide) hn (hr hs)) fun v L' h => ?_); obtain ⟨rfl, rfl⟩ := h) | (refine e_ (f_v (fun w hs => put1_does n 3 _ 0 w (by decide) hn (hr hs)) fun v L' h => ?_); obtain ⟨rfl, rfl⟩ := h) | refine r_seq ?_ | refine r_nil ?_ | refine r_region ?_ | refine r_skip ?_ | refine r_block ?_ | refine r_inBlock ?_ | refine x_ ?_ | refine w_ v_p ?_ | refine w_ v_cv ?_ | refine w_ v_and ?_ | refine w_ v_or ?_ | refine w_ v_f ?_ | refine w_ v_b ?_ | refine w_ v_r ?_ | refine w_ v_i ?_ | refine w_ v_a ?_ | refine w_ v_l ?_ | refine w_ v_la ?_ | refine w_ v_ls ?_ | refine w_ v_lr ?_ | refine w_ v_ln ?_ | refine w_ v_bd ?_ | refine w_ v_mf ?_ | refine e_ (f_st ?_) | refine e_ (f_al fun _ => ?_) | refine e_ (f_bx fun _ => ?_))
  have h16 : n = 0 ∨ n = 1 ∨ n = 2 ∨ n = 3 ∨ n = 4 ∨ n = 5 ∨ n = 6 ∨ n = 7 ∨ n = 8 ∨ n = 9 ∨ n = 10 ∨ n = 11 ∨ n = 12 ∨ n = 13 ∨ n = 14 ∨ n = 15 := by omega
  refine r_as 4 (congrArg (Value.int .u8) (?_ : _ = ((UInt8.ofNat (hp0 n)).toNat : Int))) ?_
  · rcases h16 with rfl | rfl | rfl | rfl | rfl | rfl | rfl | rfl | rfl | rfl | rfl | rfl | rfl | rfl | rfl | rfl <;> decide
  refine r_as 55 (congrArg (Value.int .u8) (?_ : _ = ((UInt8.ofNat (hp0 n)).toNat : Int))) ?_
  · rcases h16 with rfl | rfl | rfl | rfl | rfl | rfl | rfl | rfl | rfl | rfl | rfl | rfl | rfl | rfl | rfl | rfl <;> decide
  refine e_ (f_c (fun w _ => even_does _ w) fun v L' h => ?_)
  obtain ⟨rfl, rfl⟩ := h
  refine r_nil ?_
  refine c_ (fun h => ?_) (fun h => ?_)
  · repeat (first | refine r_seq ?_ | refine r_nil ?_ | refine r_region ?_ | refine r_skip ?_ | refine r_block ?_ | refine r_inBlock ?_ | refine x_ ?_ | refine w_ v_p ?_ | refine w_ v_cv ?_ | refine w_ v_and ?_ | refine w_ v_or ?_ | refine w_ v_f ?_ | refine w_ v_b ?_ | refine w_ v_r ?_ | refine w_ v_i ?_ | refine w_ v_a ?_ | refine w_ v_l ?_ | refine w_ v_la ?_ | refine w_ v_ls ?_ | refine w_ v_lr ?_ | refine w_ v_ln ?_ | refine w_ v_bd ?_ | refine w_ v_mf ?_ | refine e_ (f_st ?_) | refine e_ (f_al fun _ => ?_) | refine e_ (f_bx fun _ => ?_))
    refine t_ rfl (.tmp rfl .nil) (List.nil_sublist _) ⟨?_, rfl⟩
    have hb := bw_or8 (UInt8.ofNat (hp0 n)) 64
    simp only [Bool.not_eq_true'] at h
    simp only [hamPut, h, Bool.false_eq_true, if_false]
    exact congrArg (Value.int .u8) hb
  · repeat (first | refine r_seq ?_ | refine r_nil ?_ | refine r_region ?_ | refine r_skip ?_ | refine r_block ?_ | refine r_inBlock ?_ | refine x_ ?_ | refine w_ v_p ?_ | refine w_ v_cv ?_ | refine w_ v_and ?_ | refine w_ v_or ?_ | refine w_ v_f ?_ | refine w_ v_b ?_ | refine w_ v_r ?_ | refine w_ v_i ?_ | refine w_ v_a ?_ | refine w_ v_l ?_ | refine w_ v_la ?_ | refine w_ v_ls ?_ | refine w_ v_lr ?_ | refine w_ v_ln ?_ | refine w_ v_bd ?_ | refine w_ v_mf ?_ | refine e_ (f_st ?_) | refine e_ (f_al fun _ => ?_) | refine e_ (f_bx fun _ => ?_))
    refine t_ rfl (.tmp rfl .nil) (List.nil_sublist _) ⟨?_, rfl⟩
    simp only [Bool.not_eq_false'] at h
    simp only [hamPut, h, if_true]
    rfl
end Go.Proofs

namespace Go.Proofs
open Go.Cf
set_option maxRecDepth 10000

theorem get_does (b : UInt8) (w : World) : Does Tryz.prog 119 [.int .u8 b.toNat] w [] (fun v L => v = .tuple #[.int .i64 ((hamGet b).getD 0 : Nat), .bool (hamGet b).isSome] ∧ L = []) := by
  refine does_of Tryz.func119 rfl rfl ?_
  repeat (first | refine r_seq ?_ | refine r_nil ?_ | refine r_region ?_ | refine r_skip ?_ | refine r_block ?_ | refine r_inBlock ?_ | refine x_ ?_ | refine w_ v_p ?_ | refine w_ v_cv ?_ | refine w_ v_and ?_ | refine w_ v_or ?_ | refine w_ v_f ?_ | refine w_ v_b ?_ | refine w_ v_r ?_ | refine w_ v_i ?_ | refine w_ v_a ?_ | refine w_ v_l ?_ | refine w_ v_la ?_ | refine w_ v_ls ?_ | refine w_ v_lr ?_ | refine w_ v_ln ?_ | refine w_ v_bd ?_ | refine w_ v_mf ?_ | refine e_ (f_st ?_) | refine e_ (f_al fun _ => ?_) | refine e_ (f_bx fun _ => ?_))
  refine r_loop (τ := Nat) (fun i => i ≤ 16 ∧ ∀ m, m < i → ¬ pop (b ^^^ hamPut m).toNat ≤ 1) (fun i => 16 - i) (fun i => [(0, .v (.int .u8 b.toNat)), (5, .v (.int .i64 i))]) (fun _ => []) 0 ⟨by omega, fun m hm => by omega⟩ ⟨rfl, rfl, trivial⟩ (List.Sublist.refl _) ?_
  rintro i ⟨hi, hm⟩ f
  repeat (first | refine r_seq ?_ | refine r_nil ?_ | refine r_region ?_ | refine r_skip ?_ | refine r_block ?_ | refine r_inBlock ?_ | refine x_ ?_ | refine w_ v_p ?_ | refine w_ v_cv ?_ | refine w_ v_and ?_ | refine w_ v_or ?_ | refine w_ v_f ?_ | refine w_ v_b ?_ | refine w_ v_r ?_ | refine w_ v_i ?_ | refine w_ v_a ?_ | refine w_ v_l ?_ | refine w_ v_la ?_ | refine w_ v_ls ?_ | refine w_ v_lr ?_ | refine w_ v_ln ?_ | refine w_ v_bd ?_ | refine w_ v_mf ?_ | refine e_ (f_st ?_) | refine e_ (f_al fun _ => ?_) | refine e_ (f_bx fun _ => ?_))
  refine c_ (fun h => ?_) (fun h => ?_)
  · simp only [decide_eq_true_eq] at h
    repeat (first | refine r_seq ?_ | refine r_nil ?_ | refine r_region ?_ | refine r_skip ?_ | refine r_block ?_ | refine r_inBlock ?_ | refine x_ ?_ | refine w_ v_p ?_ | refine w_ v_cv ?_ | refine w_ v_and ?_ | refine w_ v_or ?_ | refine w_ v_f ?_ | refine w_ v_b ?_ | refine w_ v_r ?_ | refine w_ v_i ?_ | refine w_ v_a ?_ | refine w_ v_l ?_ | refine w_ v_la ?_ | refine w_ v_ls ?_ | refine w_ v_lr ?_ | refine w_ v_ln ?_ | refine w_ v_bd ?_ | refine w_ v_mf ?_ | refine e_ (f_st ?_) | refine e_ (f_al fun _ => ?_) | refine e_ (f_bx fun _ => ?_))
    refine e_ (f_c (fun w _ => hamPut_does i w (by omega)) fun v L' h => ?_)
    obtain ⟨rfl, rfl⟩ := h
    refine w_ v_p ?_
    refine r_re (congrArg (Value.int .u8) (bw_xor8 b (hamPut i))) ?_
    refine e_ (f_c (fun w _ => ones8_does (b ^^^ hamPut i) w) fun v L' h => ?_)
    obtain ⟨rfl, rfl⟩ := h
    repeat (first | refine r_seq ?_ | refine r_nil ?_ | refine r_region ?_ | refine r_skip ?_ | refine r_block ?_ | refine r_inBlock ?_ | refine x_ ?_ | refine w_ v_p ?_ | refine w_ v_cv ?_ | refine w_ v_and ?_ | refine w_ v_or ?_ | refine w_ v_f ?_ | refine w_ v_b ?_ | refine w_ v_r ?_ | refine w_ v_i ?_ | refine w_ v_a ?_ | refine w_ v_l ?_ | refine w_ v_la ?_ | refine w_ v_ls ?_ | refine w_ v_lr ?_ | refine w_ v_ln ?_ | refine w_ v_bd ?_ | refine w_ v_mf ?_ | refine e_ (f_st ?_) | refine e_ (f_al fun _ => ?_) | refine e_ (f_bx fun _ => ?_))
    refine c_ (fun h1 => ?_) (fun h1 => ?_)
    · repeat (first | refine r_seq ?_ | refine r_nil ?_ | refine r_region ?_ | refine r_skip ?_ | refine r_block ?_ | refine r_inBlock ?_ | refine x_ ?_ | refine w_ v_p ?_ | refine w_ v_cv ?_ | refine w_ v_and ?_ | refine w_ v_or ?_ | refine w_ v_f ?_ | refine w_ v_b ?_ | refine w_ v_r ?_ | refine w_ v_i ?_ | refine w_ v_a ?_ | refine w_ v_l ?_ | refine w_ v_la ?_ | refine w_ v_ls ?_ | refine w_ v_lr ?_ | refine w_ v_ln ?_ | refine w_ v_bd ?_ | refine w_ v_mf ?_ | refine e_ (f_st ?_) | refine e_ (f_al fun _ => ?_) | refine e_ (f_bx fun _ => ?_))
      have hf : hamGet b = some i := by
        refine List.find?_range_eq_some.2 ⟨by simp only [decide_eq_true_eq] at h1 ⊢; omega, by simp; omega, fun j hj => ?_⟩
        have := hm j hj
        simp only [Bool.not_eq_true', decide_eq_false_iff_not]; exact this
      exact t_ rfl (.tmp rfl (.tmp rfl .nil)) (List.nil_sublist _) ⟨by rw [hf]; rfl, rfl⟩
    · repeat (first | refine r_seq ?_ | refine r_nil ?_ | refine r_region ?_ | refine r_skip ?_ | refine r_block ?_ | refine r_inBlock ?_ | refine x_ ?_ | refine w_ v_p ?_ | refine w_ v_cv ?_ | refine w_ v_and ?_ | refine w_ v_or ?_ | refine w_ v_f ?_ | refine w_ v_b ?_ | refine w_ v_r ?_ | refine w_ v_i ?_ | refine w_ v_a ?_ | refine w_ v_l ?_ | refine w_ v_la ?_ | refine w_ v_ls ?_ | refine w_ v_lr ?_ | refine w_ v_ln ?_ | refine w_ v_bd ?_ | refine w_ v_mf ?_ | refine e_ (f_st ?_) | refine e_ (f_al fun _ => ?_) | refine e_ (f_bx fun _ => ?_))
      simp only [decide_eq_false_iff_not] at h1
      refine r_again (i + 1) ⟨by omega, fun m hm' => ?_⟩ (by omega) ⟨rfl, rfl, trivial⟩ (List.nil_sublist _)
      by_cases he : m = i
      · subst he; omega
      · exact hm m (by omega)
  · simp only [decide_eq_false_iff_not] at h
    have hi16 : i = 16 := by omega
    subst hi16
    have hf : hamGet b = none := by
      refine List.find?_range_eq_none.2 fun j hj => ?_
      have := hm j hj
      simp only [Bool.not_eq_true', decide_eq_false_iff_not]; exact this
    repeat (first | refine r_seq ?_ | refine r_nil ?_ | refine r_region ?_ | refine r_skip ?_ | refine r_block ?_ | refine r_inBlock ?_ | refine x_ ?_ | refine w_ v_p ?_ | refine w_ v_cv ?_ | refine w_ v_and ?_ | refine w_ v_or ?_ | refine w_ v_f ?_ | refine w_ v_b ?_ | refine w_ v_r ?_ | refine w_ v_i ?_ | refine w_ v_a ?_ | refine w_ v_l ?_ | refine w_ v_la ?_ | refine w_ v_ls ?_ | refine w_ v_lr ?_ | refine w_ v_ln ?_ | refine w_ v_bd ?_ | refine w_ v_mf ?_ | refine e_ (f_st ?_) | refine e_ (f_al fun _ => ?_) | refine e_ (f_bx fun _ => ?_))
    exact t_ rfl (.tmp rfl (.tmp rfl .nil)) (List.nil_sublist _) ⟨by rw [hf]; rfl, rfl⟩
end Go.Proofs

namespace Go.Cf
section
variable {P : Program} {n : Nat} {Q : Exit → Act → World → Prop} {k : List It} {f : Nat → Value} {σ : Bd} {w0 : World} {F : List Nat} {L : Hp} {dst : Option Tmp} {ty : TypeId} {pos : String} {after : Array Edge} {guard : Option (Nat × Bool)} {K : Bd → St → Prop}
/-- 'append', the easy way. -/
theorem f_a {T e : TypeId} [TySlice P T e] {x y : Operand} {p q : Option Addr} {m cap m2 c2 : Nat} {xs ys : List Value} {agg : Bool} {sz by_ : Nat} {z : List Value} [TyA P e agg (sz + 1)] [TyB P e by_] [TyZ P e z] {d : Nat} {ix : Nat}
    (hy2 : ∀ w, (St.mk w0 F L).holds w → Sl w [] q m2 (sz + 1) ys) (hpl : ∀ u ∈ ys, plain u = true)
    (h : ∀ p' cap', K ((d, .v (.slice p' (m + m2) cap')) :: σ) ⟨w0, F, setAt L ix (.row p' (m + m2) cap' (xs ++ ys) e (sz + 1))⟩)
    (hx : evo f σ x = some (.slice p m cap) := by exact rfl) (hy : evo f σ y = some (.slice q m2 c2) := by exact rfl)
    (hix : Idx L ix (.row p m cap xs e (sz + 1)) := by repeat (first | exact Idx.head | apply Idx.tail)) (hbd : (m + m2) * by_ ≤ 140737488355328 ∧ m + m2 ≤ 140737488355328 := by omega) (hzl : z.length = sz + 1 := by exact rfl) (hcx : (sv f σ x).cnd = true := by exact rfl) (hcy : (sv f σ y).cnd = true := by exact rfl)
    (hd : dst = some d := by exact rfl) (hn : Nat.ble (d + 1) n = true := by exact rfl) (hg : guard = none := by exact rfl) :
    Ef P n f σ ⟨w0, F, L⟩ ⟨dst, .call { callee := .builtin .append, args := #[x, y], argTypes := #[T, T] }, ty, pos, after, guard⟩ K :=
  f_ap hy2 hpl hbd h hix hzl hx hy hcx hcy rfl hd hn hg

/-- A list with an entry taken out. -/
inductive Rem : Hp → En → Hp → Prop where
  | head {e : En} {L : Hp} : Rem (e :: L) e L
  | tail {c e : En} {L L1 : Hp} (h : Rem L e L1) : Rem (c :: L) e (c :: L1)

theorem Rem.perm {L L1 : Hp} {e : En} (h : Rem L e L1) : L.Perm (e :: L1) := by
  induction h with
  | head => exact List.Perm.refl _
  | tail _ ih => exact (List.Perm.cons _ ih).trans (List.Perm.swap ..)

/-- Some of a list's entries, in another order. -/
inductive Pick : Hp → Hp → Prop where
  | nil {L : Hp} : Pick L []
  | cons {L L1 M : Hp} {e : En} (h : Rem L e L1) (t : Pick L1 M) : Pick L (e :: M)

theorem Pick.perm {L M : Hp} (h : Pick L M) : ∃ R, L.Perm (M ++ R) := by
  induction h with
  | nil => exact ⟨_, List.Perm.refl _⟩
  | cons h _ ih =>
    obtain ⟨R, hR⟩ := ih
    exact ⟨R, h.perm.trans (List.Perm.cons _ hR)⟩

theorem Pick.holds {L M : Hp} (h : Pick L M) {w : World} (hs : (St.mk w0 F L).holds w) : (St.mk w0 F M).holds w := by
  obtain ⟨R, hR⟩ := h.perm
  exact (hs.perm hR).sub (List.sublist_append_left _ _)

theorem r_ord {M : Hp} (h : Wk P n Q k f σ ⟨w0, F, M⟩) (hp : Pick L M := by repeat (first | exact Pick.nil | refine Pick.cons (by repeat (first | exact Rem.head | apply Rem.tail)) ?_)) : Wk P n Q k f σ ⟨w0, F, L⟩ :=
  fun a w hr hs => h a w hr (hp.holds hs)

/-- A part of one's own slice. -/
theorem sl_row_part {w : World} (h : (St.mk w0 F L).holds w) {p : Option Addr} {m cap sz : Nat} {xs : List Value} {T : TypeId} (hm : En.row p m cap xs T sz ∈ L) (l g : Nat) (h1 : l ≤ g) (h2 : g ≤ m) :
    Sl w [] (slp p cap l sz) (g - l) sz ((xs.drop (l * sz)).take ((g - l) * sz)) := by
  refine (sl_of_row h hm).part cap h1 h2 ?_
  rcases (h.own _ hm).2 with ⟨_, rfl, _⟩ | ⟨b, cur, rfl, _, h3, _⟩
  · omega
  · exact h3

/-- A global error. -/
theorem v_ge {s : St} {all : List Oper} {E : Nat → Value} {T g : Nat} {sz : Nat} [TyA P T false sz] {gd : Option Bool} {d : Nat} (hG : Glob s.w0 s.F E) (hd : dst = some d := by exact rfl) (hn : Nat.ble (d + 1) n = true := by exact rfl) (hg : gdOf f σ all guard = some gd := by exact rfl) (hlt : Nat.blt g 6 = true := by exact rfl) :
    Val P n f σ all s ⟨dst, .load T (.global g), ty, pos, after, guard⟩ d gd (E g) :=
  v_lb (hG.rd g (Nat.lt_of_succ_le (Nat.le_of_ble_eq_true hlt))) (x := .global g) rfl hd hn hg trivial

theorem st_n {lst : List Nat} {i : Nat} : Stay w0 F [] lst i ⟨w0, F, L⟩ := by
  unfold Stay; split
  · exact ⟨rfl, rfl⟩
  · exact ⟨rfl, rfl, List.nil_sublist _⟩
theorem st_l {Lp : Hp} {lst : List Nat} {i : Nat} (h : lst.contains i = true) : Stay w0 F Lp lst i ⟨w0, F, L⟩ := by
  unfold Stay; rw [h]; exact ⟨rfl, rfl⟩
theorem st_s {Lp : Hp} {lst : List Nat} {i : Nat} (h : Lp.Sublist L) : Stay w0 F Lp lst i ⟨w0, F, L⟩ := by
  unfold Stay; split
  · exact ⟨rfl, rfl⟩
  · exact ⟨rfl, rfl, h⟩

/-- A drawn statement: all that is known stays, till those of 'lst' come. -/
theorem d_all (lst : List Nat) {ops : List Oper} {id : Nat} (h : WkD P n Q k ops w0 F L lst ops.length (Array.replicate ops.length false) f σ L) (hm : P.follows .mixedOrders = true := by kernel_rfl) :
    Wk P n Q (.code (.region id ops.toArray true) :: k) f σ ⟨w0, F, L⟩ := d_in L lst h hm

/-- Ways meet again; the memory is as it was before them. -/
theorem r_mt {τ : Type} (p : τ → Prop) (S : τ → Bd) {c : Code} (h1 : Wk P n Q (.code c :: .stop (Meets n w0 F p S (fun _ => L)) :: k) f σ ⟨w0, F, L⟩) (h2 : ∀ t, p t → ∀ f, Wk P n Q k f (S t) ⟨w0, F, L⟩) : Wk P n Q (.code c :: k) f σ ⟨w0, F, L⟩ := r_meet p S (fun _ => L) h1 h2

/-- The function hands back what stands in its results. -/
theorem t2 {fn : Func} {w : World} {Φ : Value → Hp → Prop} {vs : List Value} {L' : Hp} (hL : L'.Sublist L) (hΦ : Φ (packed vs) L')
    (hres : Res f σ P L fn.results.toList vs := by first | exact .nil | exact (.tmp rfl .nil) | exact (.tmp rfl (.tmp rfl .nil)) | exact (.tmp rfl (.tmp rfl (.tmp rfl .nil))) | exact Res.cella (by exact rfl) (by repeat (first | exact List.Mem.head _ | apply List.Mem.tail)) (by repeat (first | with_reducible exact sb0 _ | with_reducible apply sb1 | with_reducible apply sb2 | exact rfl)) .nil | exact Res.cella (by exact rfl) (by repeat (first | exact List.Mem.head _ | apply List.Mem.tail)) (by repeat (first | with_reducible exact sb0 _ | with_reducible apply sb1 | with_reducible apply sb2 | exact rfl)) (.tmp rfl .nil) | exact Res.cella (by exact rfl) (by repeat (first | exact List.Mem.head _ | apply List.Mem.tail)) (by repeat (first | with_reducible exact sb0 _ | with_reducible apply sb1 | with_reducible apply sb2 | exact rfl)) (.tmp rfl (.tmp rfl .nil)) | exact Res.cell (by exact rfl) (by repeat (first | exact List.Mem.head _ | apply List.Mem.tail)) (by exact rfl) .nil | exact Res.cell (by exact rfl) (by repeat (first | exact List.Mem.head _ | apply List.Mem.tail)) (by exact rfl) (.tmp rfl .nil) | exact Res.cell (by exact rfl) (by repeat (first | exact List.Mem.head _ | apply List.Mem.tail)) (by exact rfl) (.tmp rfl (.tmp rfl .nil)) | exact .cella (by exact rfl) (by repeat (first | exact List.Mem.head _ | apply List.Mem.tail)) (by repeat (first | with_reducible exact sb0 _ | with_reducible apply sb1 | with_reducible apply sb2 | exact rfl)) (.cella (by exact rfl) (by repeat (first | exact List.Mem.head _ | apply List.Mem.tail)) (by repeat (first | with_reducible exact sb0 _ | with_reducible apply sb1 | with_reducible apply sb2 | exact rfl)) .nil) | exact .cella (by exact rfl) (by repeat (first | exact List.Mem.head _ | apply List.Mem.tail)) (by repeat (first | with_reducible exact sb0 _ | with_reducible apply sb1 | with_reducible apply sb2 | exact rfl)) (.cella (by exact rfl) (by repeat (first | exact List.Mem.head _ | apply List.Mem.tail)) (by repeat (first | with_reducible exact sb0 _ | with_reducible apply sb1 | with_reducible apply sb2 | exact rfl)) (.tmp rfl .nil)) | exact .cella (by exact rfl) (by repeat (first | exact List.Mem.head _ | apply List.Mem.tail)) (by repeat (first | with_reducible exact sb0 _ | with_reducible apply sb1 | with_reducible apply sb2 | exact rfl)) (.cell (by exact rfl) (by repeat (first | exact List.Mem.head _ | apply List.Mem.tail)) (by exact rfl) .nil) | exact .cella (by exact rfl) (by repeat (first | exact List.Mem.head _ | apply List.Mem.tail)) (by repeat (first | with_reducible exact sb0 _ | with_reducible apply sb1 | with_reducible apply sb2 | exact rfl)) (.cell (by exact rfl) (by repeat (first | exact List.Mem.head _ | apply List.Mem.tail)) (by exact rfl) (.tmp rfl .nil)) | exact .cell (by exact rfl) (by repeat (first | exact List.Mem.head _ | apply List.Mem.tail)) (by exact rfl) (.cella (by exact rfl) (by repeat (first | exact List.Mem.head _ | apply List.Mem.tail)) (by repeat (first | with_reducible exact sb0 _ | with_reducible apply sb1 | with_reducible apply sb2 | exact rfl)) .nil) | exact .cell (by exact rfl) (by repeat (first | exact List.Mem.head _ | apply List.Mem.tail)) (by exact rfl) (.cella (by exact rfl) (by repeat (first | exact List.Mem.head _ | apply List.Mem.tail)) (by repeat (first | with_reducible exact sb0 _ | with_reducible apply sb1 | with_reducible apply sb2 | exact rfl)) (.tmp rfl .nil)) | exact .cell (by exact rfl) (by repeat (first | exact List.Mem.head _ | apply List.Mem.tail)) (by exact rfl) (.cell (by exact rfl) (by repeat (first | exact List.Mem.head _ | apply List.Mem.tail)) (by exact rfl) .nil) | exact .cell (by exact rfl) (by repeat (first | exact List.Mem.head _ | apply List.Mem.tail)) (by exact rfl) (.cell (by exact rfl) (by repeat (first | exact List.Mem.head _ | apply List.Mem.tail)) (by exact rfl) (.tmp rfl .nil)) | exact .tmp rfl (.cella (by exact rfl) (by repeat (first | exact List.Mem.head _ | apply List.Mem.tail)) (by repeat (first | with_reducible exact sb0 _ | with_reducible apply sb1 | with_reducible apply sb2 | exact rfl)) .nil) | exact .tmp rfl (.cella (by exact rfl) (by repeat (first | exact List.Mem.head _ | apply List.Mem.tail)) (by repeat (first | with_reducible exact sb0 _ | with_reducible apply sb1 | with_reducible apply sb2 | exact rfl)) (.tmp rfl .nil)) | exact .tmp rfl (.cell (by exact rfl) (by repeat (first | exact List.Mem.head _ | apply List.Mem.tail)) (by exact rfl) .nil) | exact .tmp rfl (.cell (by exact rfl) (by repeat (first | exact List.Mem.head _ | apply List.Mem.tail)) (by exact rfl) (.tmp rfl .nil))) (hn : nod n σ = true := by exact rfl) :
    Wk P n (bodyPost P fn (Post w F Φ)) (.code .ret :: k) f σ ⟨w, F, L⟩ := r_rt rfl hres hL hΦ hn

/-- A made block is a slice that may be appended to. -/
theorem r_cr {b : Nat} {l : List Value} {T : TypeId} (m sz : Nat) {L' : Hp} (h : Wk P n Q k f σ ⟨w0, F, L'⟩) (hu : Upd L (.cells b l T) (.row (some ⟨b, 0, none⟩) m m l T sz) L' := by repeat (first | exact Upd.head | apply Upd.tail)) (hl : l.length = m * sz := by first | exact rfl | assumption) (hm : m ≤ maxLen := by first | decide | assumption) : Wk P n Q k f σ ⟨w0, F, L⟩ := by
  intro a w hr hs
  refine h a w hr (hs.upd hu rfl rfl rfl (Nat.le_refl _) (fun _ _ _ => rfl) ?_ (fun b' hb' => .inl hb'))
  have hc : w.heap[b]? = _ := hs.own _ hu.mem
  refine ⟨hl, .inr ⟨b, _, rfl, hc, Nat.le_refl _, hm, by simpa using hl, ?_⟩⟩
  rw [← hl]; simp
end

def bys (l : List UInt8) : List Value := l.map fun b => .int .u8 b.toNat
def nums (l : List Nat) : List Value := l.map fun n : Nat => .int .i64 (n : Int)

theorem bys_get {l : List UInt8} {i : Nat} {b : UInt8} (h : l[i]? = some b) : (bys l)[i]? = some (.int .u8 b.toNat) := by simp [bys, h]
theorem nums_get {l : List Nat} {i : Nat} {b : Nat} (h : l[i]? = some b) : (nums l)[i]? = some (.int .i64 b) := by simp [nums, h]
theorem bys_length (l : List UInt8) : (bys l).length = l.length := by simp [bys]
theorem nums_length (l : List Nat) : (nums l).length = l.length := by simp [nums]
theorem bys_append (a b : List UInt8) : bys (a ++ b) = bys a ++ bys b := by simp [bys]
theorem nums_append (a b : List Nat) : nums (a ++ b) = nums a ++ nums b := by simp [nums]
theorem bys_plain (l : List UInt8) : ∀ u ∈ bys l, plain u = true := by
  intro u hu
  simp only [bys, List.mem_map] at hu
  obtain ⟨b, _, rfl⟩ := hu
  rfl
theorem nums_plain (l : List Nat) : ∀ u ∈ nums l, plain u = true := by
  intro u hu
  simp only [nums, List.mem_map] at hu
  obtain ⟨b, _, rfl⟩ := hu
  rfl
theorem bys_take (l : List UInt8) (n : Nat) : (bys l).take n = bys (l.take n) := by simp [bys, List.map_take]
theorem bys_drop (l : List UInt8) (n : Nat) : (bys l).drop n = bys (l.drop n) := by simp [bys, List.map_drop]

theorem hamOpen_append (a b : List UInt8) : hamOpen (a ++ b) = (hamOpen a).bind fun x => (hamOpen b).map (x ++ ·) := by
  induction a with
  | nil => simp [hamOpen]
  | cons u r ih =>
    simp only [List.cons_append, hamOpen]
    cases hamGet u with
    | none => rfl
    | some m =>
      simp only [ih]
      cases hamOpen r with
      | none => rfl
      | some x => simp [Option.map_map]; rfl

theorem hamOpen_snoc {a : List UInt8} {b : UInt8} {ns : List Nat} (h : hamOpen a = some ns) : hamOpen (a ++ [b]) = (hamGet b).map fun n => ns ++ [n] := by
  rw [hamOpen_append, h]
  simp only [Option.bind_some, hamOpen]
  cases hamGet b <;> rfl

theorem hamOpen_length : ∀ {a : List UInt8} {ns : List Nat}, hamOpen a = some ns → ns.length = a.length := by
  intro a
  induction a with
  | nil => intro ns h; simp only [hamOpen, Option.some.injEq] at h; subst h; rfl
  | cons b r ih =>
    intro ns h
    simp only [hamOpen] at h
    cases hg : hamGet b with
    | none => simp [hg] at h
    | some m =>
      simp only [hg, Option.map_eq_some_iff] at h
      obtain ⟨x, hx, rfl⟩ := h
      simp [ih hx]

theorem hamOpen_lt : ∀ {a : List UInt8} {ns : List Nat}, hamOpen a = some ns → ∀ n ∈ ns, n < 16 := by
  intro a
  induction a with
  | nil => intro ns h; simp only [hamOpen, Option.some.injEq] at h; subst h; simp
  | cons b r ih =>
    intro ns h
    simp only [hamOpen] at h
    cases hg : hamGet b with
    | none => simp [hg] at h
    | some m =>
      simp only [hg, Option.map_eq_some_iff] at h
      obtain ⟨x, hx, rfl⟩ := h
      intro n hn
      rcases List.mem_cons.1 hn with rfl | hn
      · exact hamGet_lt hg
      · exact ih hx n hn

theorem take_snoc {α : Type} {l : List α} {i : Nat} {x : α} (h : l[i]? = some x) : l.take (i + 1) = l.take i ++ [x] := by
  rw [List.take_add_one, h]; rfl

/-! ### Packets -/

structure Pk where
  mag : Nat
  row : Nat
  kind : Nat
  code : Nat
  data : List UInt8

theorem or_row : ∀ x, x < 16 → ∀ y, y < 16 → (y * 2 ||| x / 8) = 2 * y + x / 8 := by decide

def kindOf (row : Nat) : Nat := if row = 0 then 1 else if row ≤ 24 then 2 else if row < 26 then 0 else if row ≤ 30 then row - 23 else 0

/-- The packet of bytes, or the error's number. -/
def readP (b : List UInt8) : Except Nat Pk :=
  if b.length ≠ 42 then .error 1 else
  match hamOpen (b.take 2) with
  | some [x, y] =>
    let mag := if x % 8 = 0 then 8 else x % 8
    let row := 2 * y + x / 8
    if kindOf row = 0 then .error 3 else
    if row < 26 then .ok ⟨mag, row, kindOf row, 0, b.drop 2⟩ else
    match hamGet (b.getD 2 0) with
    | none => .error 2
    | some c => .ok ⟨mag, row, kindOf row, c, b.drop 3⟩
  | _ => .error 2

/-- A slice of few, made by the program. -/
def Row1 (T : TypeId) (sz m : Nat) (xs : List Value) (v : Value) (L : Hp) : Prop := ∃ p c, v = .slice p m c ∧ L = [.row p m c xs T sz]
end Go.Cf

namespace Go.Proofs
open Go.Cf
set_option maxRecDepth 10000

/-- What 'ham.Open' hands back. -/
def OpenR (l : List UInt8) (v : Value) (L : Hp) : Prop := match hamOpen l with
  | none => v = .tuple #[.slice none 0 0, .bool false] ∧ L = []
  | some ns => ∃ p c, v = .tuple #[.slice p l.length c, .bool true] ∧ L = [.row p l.length c (nums ns) 3 1]

theorem open_does (l : List UInt8) (p : Option Addr) (cap : Nat) (w : World) (hl : l.length ≤ 1000) (hs : Sl w [] p l.length 1 (bys l)) :
    Does Tryz.prog 116 [.slice p l.length cap] w [] (OpenR l) := by
  refine does_of Tryz.func116 rfl rfl ?_
  repeat (first | refine r_seq ?_ | refine r_nil ?_ | refine r_region ?_ | refine r_skip ?_ | refine r_block ?_ | refine r_inBlock ?_ | refine x_ ?_ | refine w_ v_p ?_ | refine w_ v_cv ?_ | refine w_ v_and ?_ | refine w_ v_or ?_ | refine w_ v_f ?_ | refine w_ v_b ?_ | refine w_ v_r ?_ | refine w_ v_i ?_ | refine w_ v_a ?_ | refine w_ v_l ?_ | refine w_ v_la ?_ | refine w_ v_ls ?_ | refine w_ v_lr ?_ | refine w_ v_ln ?_ | refine w_ v_bd ?_ | refine w_ v_mf ?_ | refine e_ (f_st ?_) | refine e_ (f_al fun _ => ?_) | refine e_ (f_bx fun _ => ?_))
  refine r_row (T := 3) (sz := 1) ?_
  refine r_loop (τ := Nat × List Nat × Option Addr × Nat) (fun t => t.1 ≤ l.length ∧ hamOpen (l.take t.1) = some t.2.1) (fun t => l.length - t.1)
    (fun t => [(9, .v (.slice p l.length cap)), (10, .v (.int .i64 l.length)), (11, .v (.int .i64 t.1)), (4, .v (.slice t.2.2.1 t.1 t.2.2.2))])
    (fun t => [.row t.2.2.1 t.1 t.2.2.2 (nums t.2.1) 3 1]) (0, [], none, 0) ⟨by omega, rfl⟩ ⟨rfl, rfl, rfl, rfl, trivial⟩ (List.Sublist.refl _) ?_
  rintro ⟨i, ns, q, c⟩ ⟨hi, ho⟩ f
  dsimp only at hi ho
  repeat (first | refine r_seq ?_ | refine r_nil ?_ | refine r_region ?_ | refine r_skip ?_ | refine r_block ?_ | refine r_inBlock ?_ | refine x_ ?_ | refine w_ v_p ?_ | refine w_ v_cv ?_ | refine w_ v_and ?_ | refine w_ v_or ?_ | refine w_ v_f ?_ | refine w_ v_b ?_ | refine w_ v_r ?_ | refine w_ v_i ?_ | refine w_ v_a ?_ | refine w_ v_l ?_ | refine w_ v_la ?_ | refine w_ v_ls ?_ | refine w_ v_lr ?_ | refine w_ v_ln ?_ | refine w_ v_bd ?_ | refine w_ v_mf ?_ | refine e_ (f_st ?_) | refine e_ (f_al fun _ => ?_) | refine e_ (f_bx fun _ => ?_))
  refine c_ (fun h => ?_) (fun h => ?_)
  · simp only [decide_eq_true_eq] at h
    have hlt : i < l.length := by omega
    have hb : l[i]? = some l[i] := List.getElem?_eq_getElem hlt
    generalize l[i] = b at hb
    have hload : (bys l)[((i : Nat) : Int).toNat * 1]? = some (.int .u8 b.toNat) := by simpa using bys_get hb
    have hbl := b.toNat_lt
    repeat (first | refine r_seq ?_ | refine r_nil ?_ | refine r_region ?_ | refine r_skip ?_ | refine r_block ?_ | refine r_inBlock ?_ | refine x_ ?_ | refine w_ v_p ?_ | refine w_ v_cv ?_ | refine w_ v_and ?_ | refine w_ v_or ?_ | refine w_ v_f ?_ | refine w_ v_b ?_ | refine w_ v_r ?_ | refine w_ v_i ?_ | refine w_ v_a ?_ | refine w_ v_l ?_ | refine w_ v_la ?_ | refine w_ v_ls ?_ | refine w_ v_lr ?_ | refine w_ v_ln ?_ | refine w_ v_bd ?_ | refine w_ v_mf ?_ | refine e_ (f_st ?_) | refine e_ (f_al fun _ => ?_) | refine e_ (f_bx fun _ => ?_))
    refine e_ (f_c (fun w _ => get_does b w) fun v L' h => ?_)
    obtain ⟨rfl, rfl⟩ := h
    repeat (first | refine r_seq ?_ | refine r_nil ?_ | refine r_region ?_ | refine r_skip ?_ | refine r_block ?_ | refine r_inBlock ?_ | refine x_ ?_ | refine w_ v_p ?_ | refine w_ v_cv ?_ | refine w_ v_and ?_ | refine w_ v_or ?_ | refine w_ v_f ?_ | refine w_ v_b ?_ | refine w_ v_r ?_ | refine w_ v_i ?_ | refine w_ v_a ?_ | refine w_ v_l ?_ | refine w_ v_la ?_ | refine w_ v_ls ?_ | refine w_ v_lr ?_ | refine w_ v_ln ?_ | refine w_ v_bd ?_ | refine w_ v_mf ?_ | refine e_ (f_st ?_) | refine e_ (f_al fun _ => ?_) | refine e_ (f_bx fun _ => ?_))
    refine c_ (fun h1 => ?_) (fun h1 => ?_)
    · have hn : hamGet b = none := by simpa using h1
      repeat (first | refine r_seq ?_ | refine r_nil ?_ | refine r_region ?_ | refine r_skip ?_ | refine r_block ?_ | refine r_inBlock ?_ | refine x_ ?_ | refine w_ v_p ?_ | refine w_ v_cv ?_ | refine w_ v_and ?_ | refine w_ v_or ?_ | refine w_ v_f ?_ | refine w_ v_b ?_ | refine w_ v_r ?_ | refine w_ v_i ?_ | refine w_ v_a ?_ | refine w_ v_l ?_ | refine w_ v_la ?_ | refine w_ v_ls ?_ | refine w_ v_lr ?_ | refine w_ v_ln ?_ | refine w_ v_bd ?_ | refine w_ v_mf ?_ | refine e_ (f_st ?_) | refine e_ (f_al fun _ => ?_) | refine e_ (f_bx fun _ => ?_))
      refine t_ rfl (.tmp rfl (.tmp rfl .nil)) (List.nil_sublist _) ?_
      have : hamOpen l = none := by
        rw [← List.take_append_drop (i + 1) l, take_snoc hb, hamOpen_append, hamOpen_snoc ho, hn]; rfl
      simp only [OpenR, this]; exact ⟨rfl, trivial⟩
    · obtain ⟨m, hm⟩ : ∃ m, hamGet b = some m := by
        cases hg : hamGet b with
        | none => simp [hg] at h1
        | some m => exact ⟨m, rfl⟩
      rw [hm]
      repeat (first | refine r_seq ?_ | refine r_nil ?_ | refine r_region ?_ | refine r_skip ?_ | refine r_block ?_ | refine r_inBlock ?_ | refine x_ ?_ | refine w_ v_p ?_ | refine w_ v_cv ?_ | refine w_ v_and ?_ | refine w_ v_or ?_ | refine w_ v_f ?_ | refine w_ v_b ?_ | refine w_ v_r ?_ | refine w_ v_i ?_ | refine w_ v_a ?_ | refine w_ v_l ?_ | refine w_ v_la ?_ | refine w_ v_ls ?_ | refine w_ v_lr ?_ | refine w_ v_ln ?_ | refine w_ v_bd ?_ | refine w_ v_mf ?_ | refine e_ (f_st ?_) | refine e_ (f_al fun _ => ?_) | refine e_ (f_bx fun _ => ?_))
      refine e_ (f_bs (l := nums [m]) fun _ => ?_)
      refine e_ (f_a (fun w hw => sl_of_cells hw (.head _) rfl) (nums_plain _) fun q' c' => ?_)
      repeat (first | refine r_seq ?_ | refine r_nil ?_ | refine r_region ?_ | refine r_skip ?_ | refine r_block ?_ | refine r_inBlock ?_ | refine x_ ?_ | refine w_ v_p ?_ | refine w_ v_cv ?_ | refine w_ v_and ?_ | refine w_ v_or ?_ | refine w_ v_f ?_ | refine w_ v_b ?_ | refine w_ v_r ?_ | refine w_ v_i ?_ | refine w_ v_a ?_ | refine w_ v_l ?_ | refine w_ v_la ?_ | refine w_ v_ls ?_ | refine w_ v_lr ?_ | refine w_ v_ln ?_ | refine w_ v_bd ?_ | refine w_ v_mf ?_ | refine e_ (f_st ?_) | refine e_ (f_al fun _ => ?_) | refine e_ (f_bx fun _ => ?_))
      refine r_again (i + 1, ns ++ [m], q', c') ⟨by dsimp only; omega, by dsimp only; rw [take_snoc hb, hamOpen_snoc ho, hm]; rfl⟩ (by dsimp only; omega) ⟨rfl, rfl, ?_, rfl, trivial⟩ ?_
      · rfl
      · simp only [nums_append]; exact .cons _ (List.Sublist.refl _)
  · simp only [decide_eq_false_iff_not] at h
    have hi2 : i = l.length := by omega
    subst hi2
    repeat (first | refine r_seq ?_ | refine r_nil ?_ | refine r_region ?_ | refine r_skip ?_ | refine r_block ?_ | refine r_inBlock ?_ | refine x_ ?_ | refine w_ v_p ?_ | refine w_ v_cv ?_ | refine w_ v_and ?_ | refine w_ v_or ?_ | refine w_ v_f ?_ | refine w_ v_b ?_ | refine w_ v_r ?_ | refine w_ v_i ?_ | refine w_ v_a ?_ | refine w_ v_l ?_ | refine w_ v_la ?_ | refine w_ v_ls ?_ | refine w_ v_lr ?_ | refine w_ v_ln ?_ | refine w_ v_bd ?_ | refine w_ v_mf ?_ | refine e_ (f_st ?_) | refine e_ (f_al fun _ => ?_) | refine e_ (f_bx fun _ => ?_))
    rw [List.take_length] at ho
    refine t_ rfl (.tmp rfl (.tmp rfl .nil)) (List.Sublist.refl _) ?_
    simp only [OpenR, ho]
    exact ⟨q, c, rfl, rfl⟩
end Go.Proofs

namespace Go.Proofs
open Go.Cf
set_option maxRecDepth 10000

theorem kind_does (row : Nat) (w : World) (hr : row < 2 ^ 32) : Does Tryz.prog 117 [.int .i64 row] w [] (fun v L => v = .int .i64 (kindOf row) ∧ L = []) := by
  refine does_of Tryz.func117 rfl rfl ?_
  repeat (first | refine r_seq ?_ | refine r_nil ?_ | refine r_region ?_ | refine r_skip ?_ | refine r_block ?_ | refine r_inBlock ?_ | refine x_ ?_ | refine w_ v_p ?_ | refine w_ v_cv ?_ | refine w_ v_and ?_ | refine w_ v_or ?_ | refine w_ v_f ?_ | refine w_ v_b ?_ | refine w_ v_r ?_ | refine w_ v_i ?_ | refine w_ v_a ?_ | refine w_ v_l ?_ | refine w_ v_la ?_ | refine w_ v_ls ?_ | refine w_ v_lr ?_ | refine w_ v_ln ?_ | refine w_ v_bd ?_ | refine w_ v_mf ?_ | refine e_ (f_st ?_) | refine e_ (f_al fun _ => ?_) | refine e_ (f_bx fun _ => ?_))
  refine c_ (fun h => ?_) (fun h => ?_)
  · repeat (first | refine r_seq ?_ | refine r_nil ?_ | refine r_region ?_ | refine r_skip ?_ | refine r_block ?_ | refine r_inBlock ?_ | refine x_ ?_ | refine w_ v_p ?_ | refine w_ v_cv ?_ | refine w_ v_and ?_ | refine w_ v_or ?_ | refine w_ v_f ?_ | refine w_ v_b ?_ | refine w_ v_r ?_ | refine w_ v_i ?_ | refine w_ v_a ?_ | refine w_ v_l ?_ | refine w_ v_la ?_ | refine w_ v_ls ?_ | refine w_ v_lr ?_ | refine w_ v_ln ?_ | refine w_ v_bd ?_ | refine w_ v_mf ?_ | refine e_ (f_st ?_) | refine e_ (f_al fun _ => ?_) | refine e_ (f_bx fun _ => ?_))
    simp only [beq_iff_eq] at h
    refine t_ rfl (.tmp rfl .nil) (List.nil_sublist _) ⟨?_, rfl⟩
    simp only [kindOf, show row = 0 from by omega, if_true]; rfl
  · simp only [beq_eq_false_iff_ne, ne_eq] at h
    repeat (first | refine r_seq ?_ | refine r_nil ?_ | refine r_region ?_ | refine r_skip ?_ | refine r_block ?_ | refine r_inBlock ?_ | refine x_ ?_ | refine w_ v_p ?_ | refine w_ v_cv ?_ | refine w_ v_and ?_ | refine w_ v_or ?_ | refine w_ v_f ?_ | refine w_ v_b ?_ | refine w_ v_r ?_ | refine w_ v_i ?_ | refine w_ v_a ?_ | refine w_ v_l ?_ | refine w_ v_la ?_ | refine w_ v_ls ?_ | refine w_ v_lr ?_ | refine w_ v_ln ?_ | refine w_ v_bd ?_ | refine w_ v_mf ?_ | refine e_ (f_st ?_) | refine e_ (f_al fun _ => ?_) | refine e_ (f_bx fun _ => ?_))
    refine c_ (fun h1 => ?_) (fun h1 => ?_)
    · repeat (first | refine r_seq ?_ | refine r_nil ?_ | refine r_region ?_ | refine r_skip ?_ | refine r_block ?_ | refine r_inBlock ?_ | refine x_ ?_ | refine w_ v_p ?_ | refine w_ v_cv ?_ | refine w_ v_and ?_ | refine w_ v_or ?_ | refine w_ v_f ?_ | refine w_ v_b ?_ | refine w_ v_r ?_ | refine w_ v_i ?_ | refine w_ v_a ?_ | refine w_ v_l ?_ | refine w_ v_la ?_ | refine w_ v_ls ?_ | refine w_ v_lr ?_ | refine w_ v_ln ?_ | refine w_ v_bd ?_ | refine w_ v_mf ?_ | refine e_ (f_st ?_) | refine e_ (f_al fun _ => ?_) | refine e_ (f_bx fun _ => ?_))
      simp only [Bool.and_eq_true, decide_eq_true_eq] at h1
      refine t_ rfl (.tmp rfl .nil) (List.nil_sublist _) ⟨?_, rfl⟩
      simp only [kindOf, show ¬ row = 0 from by omega, show row ≤ 24 from by omega, if_true, if_false]; rfl
    · simp only [Bool.and_eq_false_iff, decide_eq_false_iff_not] at h1
      repeat (first | refine r_seq ?_ | refine r_nil ?_ | refine r_region ?_ | refine r_skip ?_ | refine r_block ?_ | refine r_inBlock ?_ | refine x_ ?_ | refine w_ v_p ?_ | refine w_ v_cv ?_ | refine w_ v_and ?_ | refine w_ v_or ?_ | refine w_ v_f ?_ | refine w_ v_b ?_ | refine w_ v_r ?_ | refine w_ v_i ?_ | refine w_ v_a ?_ | refine w_ v_l ?_ | refine w_ v_la ?_ | refine w_ v_ls ?_ | refine w_ v_lr ?_ | refine w_ v_ln ?_ | refine w_ v_bd ?_ | refine w_ v_mf ?_ | refine e_ (f_st ?_) | refine e_ (f_al fun _ => ?_) | refine e_ (f_bx fun _ => ?_))
      refine c_ (fun h2 => ?_) (fun h2 => ?_)
      · simp only [Bool.and_eq_true, decide_eq_true_eq] at h2
        have h5 : (row : Int) = 26 ∨ (row : Int) = 27 ∨ (row : Int) = 28 ∨ (row : Int) = 29 ∨ (row : Int) = 30 := by omega
        have hv : ([Value.int .i64 3, .int .i64 4, .int .i64 5, .int .i64 6, .int .i64 7] : List Value)[((row : Int) - 26).toNat * 1]? = some (.int .i64 ((row : Int) - 23)) := by
          rcases h5 with h | h | h | h | h <;> rw [h] <;> rfl
        repeat (first | refine r_seq ?_ | refine r_nil ?_ | refine r_region ?_ | refine r_skip ?_ | refine r_block ?_ | refine r_inBlock ?_ | refine x_ ?_ | refine w_ v_p ?_ | refine w_ v_cv ?_ | refine w_ v_and ?_ | refine w_ v_or ?_ | refine w_ v_f ?_ | refine w_ v_b ?_ | refine w_ v_r ?_ | refine w_ v_i ?_ | refine w_ v_a ?_ | refine w_ v_l ?_ | refine w_ v_la ?_ | refine w_ v_ls ?_ | refine w_ v_lr ?_ | refine w_ v_ln ?_ | refine w_ v_bd ?_ | refine w_ v_mf ?_ | refine e_ (f_st ?_) | refine e_ (f_al fun _ => ?_) | refine e_ (f_bx fun _ => ?_))
        refine e_ (f_bs (l := [.int .i64 3, .int .i64 4, .int .i64 5, .int .i64 6, .int .i64 7]) fun _ => ?_)
        repeat (first | refine w_ (v_l (hv := by simpa [pb, po] using hv)) ?_ | refine r_seq ?_ | refine r_nil ?_ | refine r_region ?_ | refine r_skip ?_ | refine r_block ?_ | refine r_inBlock ?_ | refine x_ ?_ | refine w_ v_p ?_ | refine w_ v_cv ?_ | refine w_ v_and ?_ | refine w_ v_or ?_ | refine w_ v_f ?_ | refine w_ v_b ?_ | refine w_ v_r ?_ | refine w_ v_i ?_ | refine w_ v_a ?_ | refine w_ v_l ?_ | refine w_ v_la ?_ | refine w_ v_ls ?_ | refine w_ v_lr ?_ | refine w_ v_ln ?_ | refine w_ v_bd ?_ | refine w_ v_mf ?_ | refine e_ (f_st ?_) | refine e_ (f_al fun _ => ?_) | refine e_ (f_bx fun _ => ?_))
        refine t_ rfl (.tmp rfl .nil) (List.nil_sublist _) ⟨?_, rfl⟩
        simp only [kindOf, show ¬ row = 0 from by omega, show ¬ row ≤ 24 from by omega, show ¬ row < 26 from by omega, show row ≤ 30 from by omega, if_true, if_false]
        show Value.int .i64 _ = Value.int .i64 _
        congr 1; omega
      · simp only [Bool.and_eq_false_iff, decide_eq_false_iff_not] at h2
        repeat (first | refine r_seq ?_ | refine r_nil ?_ | refine r_region ?_ | refine r_skip ?_ | refine r_block ?_ | refine r_inBlock ?_ | refine x_ ?_ | refine w_ v_p ?_ | refine w_ v_cv ?_ | refine w_ v_and ?_ | refine w_ v_or ?_ | refine w_ v_f ?_ | refine w_ v_b ?_ | refine w_ v_r ?_ | refine w_ v_i ?_ | refine w_ v_a ?_ | refine w_ v_l ?_ | refine w_ v_la ?_ | refine w_ v_ls ?_ | refine w_ v_lr ?_ | refine w_ v_ln ?_ | refine w_ v_bd ?_ | refine w_ v_mf ?_ | refine e_ (f_st ?_) | refine e_ (f_al fun _ => ?_) | refine e_ (f_bx fun _ => ?_))
        refine t_ rfl (.tmp rfl .nil) (List.nil_sublist _) ⟨?_, rfl⟩
        have h3 : kindOf row = 0 := by
          simp only [kindOf, show ¬ row = 0 from by omega, show ¬ row ≤ 24 from by omega, if_false]
          split
          · rfl
          · rw [if_neg (by omega)]
        rw [h3]; rfl

theorem clone_does (l : List UInt8) (p : Option Addr) (cap : Nat) (w : World) (hl : l.length ≤ 1000) (h0 : 0 < l.length) (hs : Sl w [] p l.length 1 (bys l)) :
    Does Tryz.prog 118 [.slice p l.length cap] w [] (fun v L => ∃ q c, v = .slice q l.length c ∧ L = [.row q l.length c (bys l) 5 1]) := by
  refine does_of Tryz.func118 rfl rfl ?_
  have hp : nilOf 2 (.slice p l.length cap) = some false := by rw [hs.ptr h0]; rfl
  repeat (first | refine w_ (v_nl (hv := hp)) ?_ | refine r_seq ?_ | refine r_nil ?_ | refine r_region ?_ | refine r_skip ?_ | refine r_block ?_ | refine r_inBlock ?_ | refine x_ ?_ | refine w_ v_p ?_ | refine w_ v_cv ?_ | refine w_ v_and ?_ | refine w_ v_or ?_ | refine w_ v_f ?_ | refine w_ v_b ?_ | refine w_ v_r ?_ | refine w_ v_i ?_ | refine w_ v_a ?_ | refine w_ v_l ?_ | refine w_ v_la ?_ | refine w_ v_ls ?_ | refine w_ v_lr ?_ | refine w_ v_ln ?_ | refine w_ v_bd ?_ | refine w_ v_mf ?_ | refine e_ (f_st ?_) | refine e_ (f_al fun _ => ?_) | refine e_ (f_bx fun _ => ?_))
  refine c_ (t := false) (fun h => by cases h) (fun _ => ?_)
  repeat (first | refine r_seq ?_ | refine r_nil ?_ | refine r_region ?_ | refine r_skip ?_ | refine r_block ?_ | refine r_inBlock ?_ | refine x_ ?_ | refine w_ v_p ?_ | refine w_ v_cv ?_ | refine w_ v_and ?_ | refine w_ v_or ?_ | refine w_ v_f ?_ | refine w_ v_b ?_ | refine w_ v_r ?_ | refine w_ v_i ?_ | refine w_ v_a ?_ | refine w_ v_l ?_ | refine w_ v_la ?_ | refine w_ v_ls ?_ | refine w_ v_lr ?_ | refine w_ v_ln ?_ | refine w_ v_bd ?_ | refine w_ v_mf ?_ | refine e_ (f_st ?_) | refine e_ (f_al fun _ => ?_) | refine e_ (f_bx fun _ => ?_))
  refine e_ (f_bs (l := []) fun _ => ?_)
  refine r_cr 0 1 ?_
  repeat (first | refine r_seq ?_ | refine r_nil ?_ | refine r_region ?_ | refine r_skip ?_ | refine r_block ?_ | refine r_inBlock ?_ | refine x_ ?_ | refine w_ v_p ?_ | refine w_ v_cv ?_ | refine w_ v_and ?_ | refine w_ v_or ?_ | refine w_ v_f ?_ | refine w_ v_b ?_ | refine w_ v_r ?_ | refine w_ v_i ?_ | refine w_ v_a ?_ | refine w_ v_l ?_ | refine w_ v_la ?_ | refine w_ v_ls ?_ | refine w_ v_lr ?_ | refine w_ v_ln ?_ | refine w_ v_bd ?_ | refine w_ v_mf ?_ | refine e_ (f_st ?_) | refine e_ (f_al fun _ => ?_) | refine e_ (f_bx fun _ => ?_))
  refine e_ (f_a (fun w hw => hs.now hw) (bys_plain l) fun q c => ?_)
  repeat (first | refine r_seq ?_ | refine r_nil ?_ | refine r_region ?_ | refine r_skip ?_ | refine r_block ?_ | refine r_inBlock ?_ | refine x_ ?_ | refine w_ v_p ?_ | refine w_ v_cv ?_ | refine w_ v_and ?_ | refine w_ v_or ?_ | refine w_ v_f ?_ | refine w_ v_b ?_ | refine w_ v_r ?_ | refine w_ v_i ?_ | refine w_ v_a ?_ | refine w_ v_l ?_ | refine w_ v_la ?_ | refine w_ v_ls ?_ | refine w_ v_lr ?_ | refine w_ v_ln ?_ | refine w_ v_bd ?_ | refine w_ v_mf ?_ | refine e_ (f_st ?_) | refine e_ (f_al fun _ => ?_) | refine e_ (f_bx fun _ => ?_))
  refine t_ rfl (.tmp rfl .nil) (List.Sublist.refl _) ⟨q, c, ?_, ?_⟩
  · show Value.slice q (0 + l.length) c = _
    rw [Nat.zero_add]
  · show [En.row q (0 + l.length) c ([] ++ bys l) 5 1] = _
    rw [Nat.zero_add, List.nil_append]
end Go.Proofs

namespace Go.Proofs
open Go.Cf
set_option maxRecDepth 10000

abbrev pkC (mag row kind code : Nat) (d : Value) : List Value := [.int .i64 mag, .int .i64 row, .int .i64 kind, .int .i64 code, d]

/-- What 'packet.Read' hands back. -/
def ReadR (E : Nat → Value) (l : List UInt8) (v : Value) (L : Hp) : Prop := match readP l with
  | .error e => v = .tuple #[.agg (pkC 0 0 0 0 (.slice none 0 0)).toArray, E e] ∧ L = []
  | .ok k => ∃ p c, v = .tuple #[.agg (pkC k.mag k.row k.kind k.code (.slice p k.data.length c)).toArray, .nilIface] ∧ L = [.row p k.data.length c (bys k.data) 5 1]

theorem open_does' {l : List UInt8} {p : Option Addr} {cap m : Nat} (hm : l.length = m) (w : World) (hl : l.length ≤ 1000) (hs : Sl w [] p m 1 (bys l)) :
    Does Tryz.prog 116 [.slice p m cap] w [] (OpenR l) := by subst hm; exact open_does l p cap w hl hs
theorem clone_does' {l : List UInt8} {p : Option Addr} {cap m : Nat} (hm : l.length = m) (w : World) (hl : l.length ≤ 1000) (h0 : 0 < m) (hs : Sl w [] p m 1 (bys l)) :
    Does Tryz.prog 118 [.slice p m cap] w [] (fun v L => ∃ q c, v = .slice q m c ∧ L = [.row q m c (bys l) 5 1]) := by subst hm; exact clone_does l p cap w hl h0 hs

theorem read_does (E : Nat → Value) (l : List UInt8) (p : Option Addr) (cap : Nat) (w : World) (hG : Glob w [] E) (_hl : l.length ≤ 1000) (hcap : l.length ≤ cap) (hs : Sl w [] p l.length 1 (bys l)) :
    Does Tryz.prog 58 [.slice p l.length cap] w [] (ReadR E l) := by
  refine does_of Tryz.func58 rfl rfl ?_
  repeat (first | refine e_ (f_al fun b0 => ?_) | refine r_seq ?_ | refine r_nil ?_ | refine r_region ?_ | refine r_skip ?_ | refine r_block ?_ | refine r_inBlock ?_ | refine x_ ?_ | refine w_ v_p ?_ | refine w_ v_cv ?_ | refine w_ v_and ?_ | refine w_ v_or ?_ | refine w_ v_f ?_ | refine w_ v_b ?_ | refine w_ v_r ?_ | refine w_ v_i ?_ | refine w_ v_a ?_ | refine w_ v_l ?_ | refine w_ v_la ?_ | refine w_ v_ls ?_ | refine w_ v_lr ?_ | refine w_ v_ln ?_ | refine w_ v_bd ?_ | refine w_ v_mf ?_ | refine e_ (f_st ?_) | refine e_ (f_al fun _ => ?_) | refine e_ (f_bx fun _ => ?_))
  refine c_ (fun h => ?_) (fun h => ?_)
  · simp only [bne_iff_ne, ne_eq] at h
    refine r_seq ?_
    refine d_in [] [] ?_
    first | (refine dp 0 ?_; first | refine tp (fun _ => v_bd) ?_)
    first | (refine dw 1 ?_; first | refine tw (v_l) ?_ | refine tw (v_la) ?_ | refine tw (v_ls) ?_ | refine tw (v_lr) ?_ | refine tw ((v_ge hG)) ?_)
    refine d_e 2 ?_
    first | refine f_st ⟨?_, ?_⟩
    · first | exact st_n | exact st_l rfl | exact st_s (by repeat (first | exact List.Sublist.refl _ | exact List.nil_sublist _ | exact List.sublist_append_right _ _ | apply List.Sublist.cons_cons | apply List.Sublist.cons))
    first | (refine dp 3 ?_; first | refine tp (fun _ => v_p) ?_)
    refine d_z ?_
    refine t2 (List.nil_sublist _) ?_
    have : readP l = .error 1 := by
      simp only [readP, show l.length ≠ 42 from by omega, ne_eq, not_false_eq_true, if_true]
    simp only [ReadR, this]
    exact ⟨rfl, trivial⟩
  · simp only [bne_eq_false_iff_eq] at h
    have h42 : l.length = 42 := by omega
    repeat (first | refine w_ v_sh ?_ | refine r_seq ?_ | refine r_nil ?_ | refine r_region ?_ | refine r_skip ?_ | refine r_block ?_ | refine r_inBlock ?_ | refine x_ ?_ | refine w_ v_p ?_ | refine w_ v_cv ?_ | refine w_ v_and ?_ | refine w_ v_or ?_ | refine w_ v_f ?_ | refine w_ v_b ?_ | refine w_ v_r ?_ | refine w_ v_i ?_ | refine w_ v_a ?_ | refine w_ v_l ?_ | refine w_ v_la ?_ | refine w_ v_ls ?_ | refine w_ v_lr ?_ | refine w_ v_ln ?_ | refine w_ v_bd ?_ | refine w_ v_mf ?_ | refine e_ (f_st ?_) | refine e_ (f_al fun _ => ?_) | refine e_ (f_bx fun _ => ?_))
    have hs2 : Sl w [] (slp p cap 0 1) (2 - 0) 1 (bys (l.take 2)) := by
      have := hs.part cap (l := 0) (g := 2) (by omega) (by omega) hcap
      simpa [bys_take] using this
    have hl2 : (l.take 2).length = 2 := by rw [List.length_take]; omega
    refine e_ (f_c (fun w hw => open_does' (l := l.take 2) hl2 w (by omega) (hs2.now hw)) fun v L' h => ?_)
    simp only [OpenR, hl2] at h
    cases ho : hamOpen (l.take 2) with
    | none =>
      have hrd : readP l = .error 2 := by simp [readP, h42, ho]
      rw [ho] at h
      obtain ⟨rfl, rfl⟩ := h
      repeat (first | refine r_seq ?_ | refine r_nil ?_ | refine r_region ?_ | refine r_skip ?_ | refine r_block ?_ | refine r_inBlock ?_ | refine x_ ?_ | refine w_ v_p ?_ | refine w_ v_cv ?_ | refine w_ v_and ?_ | refine w_ v_or ?_ | refine w_ v_f ?_ | refine w_ v_b ?_ | refine w_ v_r ?_ | refine w_ v_i ?_ | refine w_ v_a ?_ | refine w_ v_l ?_ | refine w_ v_la ?_ | refine w_ v_ls ?_ | refine w_ v_lr ?_ | refine w_ v_ln ?_ | refine w_ v_bd ?_ | refine w_ v_mf ?_ | refine e_ (f_st ?_) | refine e_ (f_al fun _ => ?_) | refine e_ (f_bx fun _ => ?_))
      refine c_ (t := true) (fun _ => ?_) (fun h => by cases h)
      refine r_seq ?_
      refine d_in [] [] ?_
      first | (refine dp 0 ?_; first | refine tp (fun _ => v_bd) ?_)
      first | (refine dw 1 ?_; first | refine tw (v_l) ?_ | refine tw (v_la) ?_ | refine tw (v_ls) ?_ | refine tw (v_lr) ?_ | refine tw ((v_ge hG)) ?_)
      refine d_e 2 ?_
      first | refine f_st ⟨?_, ?_⟩
      · first | exact st_n | exact st_l rfl | exact st_s (by repeat (first | exact List.Sublist.refl _ | exact List.nil_sublist _ | exact List.sublist_append_right _ _ | apply List.Sublist.cons_cons | apply List.Sublist.cons))
      first | (refine dp 3 ?_; first | refine tp (fun _ => v_p) ?_)
      refine d_z ?_
      refine t2 (List.nil_sublist _) ?_
      simp only [ReadR, hrd]
      exact ⟨rfl, trivial⟩
    | some ns =>
      rw [ho] at h
      obtain ⟨q, c, rfl, rfl⟩ := h
      have hln := hamOpen_length ho
      have hlt := hamOpen_lt ho
      rw [hl2] at hln
      match ns, hln with
      | [x, y], _ =>
        have hx : x < 16 := hlt x (by simp)
        have hy : y < 16 := hlt y (by simp)
        repeat (first | refine r_seq ?_ | refine r_nil ?_ | refine r_region ?_ | refine r_skip ?_ | refine r_block ?_ | refine r_inBlock ?_ | refine x_ ?_ | refine w_ v_p ?_ | refine w_ v_cv ?_ | refine w_ v_and ?_ | refine w_ v_or ?_ | refine w_ v_f ?_ | refine w_ v_b ?_ | refine w_ v_r ?_ | refine w_ v_i ?_ | refine w_ v_a ?_ | refine w_ v_l ?_ | refine w_ v_la ?_ | refine w_ v_ls ?_ | refine w_ v_lr ?_ | refine w_ v_ln ?_ | refine w_ v_bd ?_ | refine w_ v_mf ?_ | refine e_ (f_st ?_) | refine e_ (f_al fun _ => ?_) | refine e_ (f_bx fun _ => ?_))
        refine c_ (t := false) (fun h => by cases h) (fun _ => ?_)
        repeat (first | refine r_seq ?_ | refine r_nil ?_ | refine r_region ?_ | refine r_skip ?_ | refine r_block ?_ | refine r_inBlock ?_ | refine x_ ?_ | refine w_ v_p ?_ | refine w_ v_cv ?_ | refine w_ v_and ?_ | refine w_ v_or ?_ | refine w_ v_f ?_ | refine w_ v_b ?_ | refine w_ v_r ?_ | refine w_ v_i ?_ | refine w_ v_a ?_ | refine w_ v_l ?_ | refine w_ v_la ?_ | refine w_ v_ls ?_ | refine w_ v_lr ?_ | refine w_ v_ln ?_ | refine w_ v_bd ?_ | refine w_ v_mf ?_ | refine e_ (f_st ?_) | refine e_ (f_al fun _ => ?_) | refine e_ (f_bx fun _ => ?_))
        have hx8 : ((x : Int) % 8 == 0) = decide (x % 8 = 0) := by rw [Bool.eq_iff_iff]; simp only [beq_iff_eq, decide_eq_true_eq]; omega
        refine r_mt (τ := Unit) (fun _ => True) (fun _ => [(6, .v (.int .i64 (if x % 8 = 0 then 8 else x % 8 : Nat))), (0, .v (.slice p l.length cap)), (2, .v (.pointer (some ⟨b0, 0, none⟩))), (4, .v (.slice q 2 c))]) ?_ ?_
        · refine c_ (fun h => ?_) (fun h => ?_)
          · rw [hx8] at h
            simp only [decide_eq_true_eq] at h
            repeat (first | refine r_seq ?_ | refine r_nil ?_ | refine r_region ?_ | refine r_skip ?_ | refine r_block ?_ | refine r_inBlock ?_ | refine x_ ?_ | refine w_ v_p ?_ | refine w_ v_cv ?_ | refine w_ v_and ?_ | refine w_ v_or ?_ | refine w_ v_f ?_ | refine w_ v_b ?_ | refine w_ v_r ?_ | refine w_ v_i ?_ | refine w_ v_a ?_ | refine w_ v_l ?_ | refine w_ v_la ?_ | refine w_ v_ls ?_ | refine w_ v_lr ?_ | refine w_ v_ln ?_ | refine w_ v_bd ?_ | refine w_ v_mf ?_ | refine e_ (f_st ?_) | refine e_ (f_al fun _ => ?_) | refine e_ (f_bx fun _ => ?_))
            exact r_met () trivial ⟨by rw [if_pos h]; rfl, rfl, rfl, rfl, trivial⟩ (List.Sublist.refl _)
          · rw [hx8] at h
            simp only [decide_eq_false_iff_not] at h
            repeat (first | refine r_seq ?_ | refine r_nil ?_ | refine r_region ?_ | refine r_skip ?_ | refine r_block ?_ | refine r_inBlock ?_ | refine x_ ?_ | refine w_ v_p ?_ | refine w_ v_cv ?_ | refine w_ v_and ?_ | refine w_ v_or ?_ | refine w_ v_f ?_ | refine w_ v_b ?_ | refine w_ v_r ?_ | refine w_ v_i ?_ | refine w_ v_a ?_ | refine w_ v_l ?_ | refine w_ v_la ?_ | refine w_ v_ls ?_ | refine w_ v_lr ?_ | refine w_ v_ln ?_ | refine w_ v_bd ?_ | refine w_ v_mf ?_ | refine e_ (f_st ?_) | refine e_ (f_al fun _ => ?_) | refine e_ (f_bx fun _ => ?_))
            exact r_met () trivial ⟨by rw [if_neg h]; rfl, rfl, rfl, rfl, trivial⟩ (List.Sublist.refl _)
        rintro - - f
        have hmag : (if x % 8 = 0 then 8 else x % 8) < 16 := by split <;> omega
        generalize hmg : (if x % 8 = 0 then 8 else x % 8) = mag at hmag
        refine r_seq ?_
        refine d_all [] ?_
        first | (refine dp 0 ?_; first | refine tp (fun _ => v_p) ?_)
        first | (refine dp 1 ?_; first | refine tp (fun _ => v_a) ?_ | refine tp (fun _ => v_i) ?_) | (refine dw 1 ?_; first | refine tw (v_b) ?_ | refine tw (v_r) ?_)
        first | (refine dw 2 ?_; first | refine tw (v_l) ?_ | refine tw (v_la) ?_ | refine tw (v_ls) ?_ | refine tw (v_lr) ?_ | refine tw ((v_ge hG)) ?_)
        first | (refine dp 3 ?_; first | refine tp (fun _ => v_p) ?_ | refine tp (fun _ => v_ne) ?_) | (refine dw 3 ?_; first | refine tw (v_ge) ?_)
        first | (refine dp 4 ?_; first | refine tp (fun _ => v_p) ?_)
        first | (refine dp 5 ?_; first | refine tp (fun _ => v_a) ?_ | refine tp (fun _ => v_i) ?_) | (refine dw 5 ?_; first | refine tw (v_b) ?_ | refine tw (v_r) ?_)
        first | (refine dw 6 ?_; first | refine tw (v_l) ?_ | refine tw (v_la) ?_ | refine tw (v_ls) ?_ | refine tw (v_lr) ?_ | refine tw ((v_ge hG)) ?_)
        first | (refine dp 7 ?_; first | refine tp (fun _ => v_p) ?_ | refine tp (fun _ => v_ne) ?_) | (refine dw 7 ?_; first | refine tw (v_ge) ?_)
        first | (refine dp 8 ?_; first | refine tp (fun _ => v_p) ?_ | refine tp (fun _ => v_ne) ?_) | (refine dw 8 ?_; first | refine tw (v_ge) ?_)
        first | (refine dp 9 ?_; first | refine tp (fun _ => v_p) ?_)
        refine d_z ?_
        refine r_as 7 (v' := .int .i64 (2 * y + x / 8 : Nat)) ?_ ?_
        · have h1 := shl_nat y 1 (by omega) (by omega)
          have h2 := bw_or (y * 2) (x / 8) (by omega) (by omega)
          rw [or_row x hx y hy] at h2
          rw [← h2]
          exact congrArg (fun z => Value.int .i64 (bw .or .i64 z ((x / 8 : Nat) : Int))) h1
        have hs3 : Sl w [] (slp p cap 2 1) (l.length - 2) 1 (bys (l.drop 2)) := by
          have := hs.part cap (l := 2) (g := l.length) (by omega) (by omega) hcap
          simp only [bys_drop, Nat.mul_one] at this
          rwa [List.take_of_length_le (by simp [bys_length])] at this
        have hl3 : (l.drop 2).length = l.length - 2 := by simp
        refine r_seq ?_
        refine r_meet (τ := Nat × Option Addr × Nat) (fun _ => True) (fun t => [(8, .v (.pointer (some ⟨t.1, 0, none⟩))), (7, .v (.int .i64 (2 * y + x / 8 : Nat))), (0, .v (.slice p l.length cap)), (2, .v (.pointer (some ⟨b0, 0, none⟩))), (6, .v (.int .i64 mag))])
          (fun t => [.cells t.1 (pkC mag (2 * y + x / 8) (kindOf (2 * y + x / 8)) 0 (.slice t.2.1 (l.length - 2) t.2.2)) 130, .row t.2.1 (l.length - 2) t.2.2 (bys (l.drop 2)) 5 1, .cells b0 (pkC 0 0 0 0 (.slice none 0 0)) 130]) ?_ ?_
        · refine d_in [] [] ?_
          first | (refine dp 0 ?_; first | refine tp (fun _ => v_p) ?_)
          first | (refine dp 1 ?_; first | refine tp (fun _ => v_p) ?_)
          first | (refine dp 2 ?_; first | refine tp (fun _ => v_p) ?_)
          first | (refine dp 4 ?_; first | refine tp (fun _ => v_p) ?_)
          first | (refine dp 5 ?_; first | refine tp (fun _ => v_sl) ?_)
          refine d_e2 3 8 ?_ ?_
          · refine f_c (fun w _ => kind_does (2 * y + x / 8) w (by omega)) fun v L' h => ?_
            obtain ⟨rfl, rfl⟩ := h
            refine ⟨?_, ?_⟩
            · first | exact st_n | exact st_l rfl | exact st_s (by repeat (first | exact List.Sublist.refl _ | exact List.nil_sublist _ | exact List.sublist_append_right _ _ | apply List.Sublist.cons_cons | apply List.Sublist.cons))
            
            refine d_e2 6 8 ?_ ?_
            · refine f_c (fun w hw => clone_does' (l := l.drop 2) hl3 w (by omega) (by omega) (hs3.now hw)) fun v L' h => ?_
              obtain ⟨q1, c1, rfl, rfl⟩ := h
              refine ⟨?_, ?_⟩
              · first | exact st_n | exact st_l rfl | exact st_s (by repeat (first | exact List.Sublist.refl _ | exact List.nil_sublist _ | exact List.sublist_append_right _ _ | apply List.Sublist.cons_cons | apply List.Sublist.cons))
              first | (refine dp 7 ?_; first | refine tp (fun _ => v_bd) ?_)
              refine d_e 8 ?_
              refine f_al fun b1 => ?_
              refine ⟨?_, ?_⟩
              · first | exact st_n | exact st_l rfl | exact st_s (by repeat (first | exact List.Sublist.refl _ | exact List.nil_sublist _ | exact List.sublist_append_right _ _ | apply List.Sublist.cons_cons | apply List.Sublist.cons))
              refine d_e 9 ?_
              first | refine f_st ⟨?_, ?_⟩
              · first | exact st_n | exact st_l rfl | exact st_s (by repeat (first | exact List.Sublist.refl _ | exact List.nil_sublist _ | exact List.sublist_append_right _ _ | apply List.Sublist.cons_cons | apply List.Sublist.cons))
              refine d_z ?_
              exact r_ord (r_met (b1, q1, c1) trivial ⟨rfl, rfl, rfl, rfl, rfl, trivial⟩ (List.Sublist.refl _))
            · refine f_al fun b1 => ?_
              refine ⟨?_, ?_⟩
              · first | exact st_n | exact st_l rfl | exact st_s (by repeat (first | exact List.Sublist.refl _ | exact List.nil_sublist _ | exact List.sublist_append_right _ _ | apply List.Sublist.cons_cons | apply List.Sublist.cons))
              
              refine d_e 6 ?_
              refine f_c (fun w hw => clone_does' (l := l.drop 2) hl3 w (by omega) (by omega) (hs3.now hw)) fun v L' h => ?_
              obtain ⟨q1, c1, rfl, rfl⟩ := h
              refine ⟨?_, ?_⟩
              · first | exact st_n | exact st_l rfl | exact st_s (by repeat (first | exact List.Sublist.refl _ | exact List.nil_sublist _ | exact List.sublist_append_right _ _ | apply List.Sublist.cons_cons | apply List.Sublist.cons))
              first | (refine dp 7 ?_; first | refine tp (fun _ => v_bd) ?_)
              refine d_e 9 ?_
              first | refine f_st ⟨?_, ?_⟩
              · first | exact st_n | exact st_l rfl | exact st_s (by repeat (first | exact List.Sublist.refl _ | exact List.nil_sublist _ | exact List.sublist_append_right _ _ | apply List.Sublist.cons_cons | apply List.Sublist.cons))
              refine d_z ?_
              exact r_ord (r_met (b1, q1, c1) trivial ⟨rfl, rfl, rfl, rfl, rfl, trivial⟩ (List.Sublist.refl _))
          · refine f_al fun b1 => ?_
            refine ⟨?_, ?_⟩
            · first | exact st_n | exact st_l rfl | exact st_s (by repeat (first | exact List.Sublist.refl _ | exact List.nil_sublist _ | exact List.sublist_append_right _ _ | apply List.Sublist.cons_cons | apply List.Sublist.cons))
            
            refine d_e 3 ?_
            refine f_c (fun w _ => kind_does (2 * y + x / 8) w (by omega)) fun v L' h => ?_
            obtain ⟨rfl, rfl⟩ := h
            refine ⟨?_, ?_⟩
            · first | exact st_n | exact st_l rfl | exact st_s (by repeat (first | exact List.Sublist.refl _ | exact List.nil_sublist _ | exact List.sublist_append_right _ _ | apply List.Sublist.cons_cons | apply List.Sublist.cons))
            
            refine d_e 6 ?_
            refine f_c (fun w hw => clone_does' (l := l.drop 2) hl3 w (by omega) (by omega) (hs3.now hw)) fun v L' h => ?_
            obtain ⟨q1, c1, rfl, rfl⟩ := h
            refine ⟨?_, ?_⟩
            · first | exact st_n | exact st_l rfl | exact st_s (by repeat (first | exact List.Sublist.refl _ | exact List.nil_sublist _ | exact List.sublist_append_right _ _ | apply List.Sublist.cons_cons | apply List.Sublist.cons))
            first | (refine dp 7 ?_; first | refine tp (fun _ => v_bd) ?_)
            refine d_e 9 ?_
            first | refine f_st ⟨?_, ?_⟩
            · first | exact st_n | exact st_l rfl | exact st_s (by repeat (first | exact List.Sublist.refl _ | exact List.nil_sublist _ | exact List.sublist_append_right _ _ | apply List.Sublist.cons_cons | apply List.Sublist.cons))
            refine d_z ?_
            exact r_ord (r_met (b1, q1, c1) trivial ⟨rfl, rfl, rfl, rfl, rfl, trivial⟩ (List.Sublist.refl _))
        rintro ⟨b1, q1, c1⟩ - f
        dsimp only
        repeat (first | refine r_seq ?_ | refine r_nil ?_ | refine r_region ?_ | refine r_skip ?_ | refine r_block ?_ | refine r_inBlock ?_ | refine x_ ?_ | refine w_ v_p ?_ | refine w_ v_cv ?_ | refine w_ v_and ?_ | refine w_ v_or ?_ | refine w_ v_f ?_ | refine w_ v_b ?_ | refine w_ v_r ?_ | refine w_ v_i ?_ | refine w_ v_a ?_ | refine w_ v_l ?_ | refine w_ v_la ?_ | refine w_ v_ls ?_ | refine w_ v_lr ?_ | refine w_ v_ln ?_ | refine w_ v_bd ?_ | refine w_ v_mf ?_ | refine e_ (f_st ?_) | refine e_ (f_al fun _ => ?_) | refine e_ (f_bx fun _ => ?_))
        refine c_ (fun h1 => ?_) (fun h1 => ?_)
        · have h1' : kindOf (2 * y + x / 8) = 0 := by simp only [beq_iff_eq] at h1; omega
          refine r_seq ?_
          refine d_in [] [] ?_
          first | (refine dp 0 ?_; first | refine tp (fun _ => v_bd) ?_)
          first | (refine dw 1 ?_; first | refine tw (v_l) ?_ | refine tw (v_la) ?_ | refine tw (v_ls) ?_ | refine tw (v_lr) ?_ | refine tw ((v_ge hG)) ?_)
          refine d_e 2 ?_
          first | refine f_st ⟨?_, ?_⟩
          · first | exact st_n | exact st_l rfl | exact st_s (by repeat (first | exact List.Sublist.refl _ | exact List.nil_sublist _ | exact List.sublist_append_right _ _ | apply List.Sublist.cons_cons | apply List.Sublist.cons))
          first | (refine dp 3 ?_; first | refine tp (fun _ => v_p) ?_)
          refine d_z ?_
          refine t2 (List.nil_sublist _) ?_
          have : readP l = .error 3 := by simp [readP, h42, ho, h1']
          simp only [ReadR, this]
          exact ⟨rfl, trivial⟩
        · have h1' : ¬ kindOf (2 * y + x / 8) = 0 := by
            simp only [beq_eq_false_iff_ne, ne_eq] at h1; omega
          repeat (first | refine r_seq ?_ | refine r_nil ?_ | refine r_region ?_ | refine r_skip ?_ | refine r_block ?_ | refine r_inBlock ?_ | refine x_ ?_ | refine w_ v_p ?_ | refine w_ v_cv ?_ | refine w_ v_and ?_ | refine w_ v_or ?_ | refine w_ v_f ?_ | refine w_ v_b ?_ | refine w_ v_r ?_ | refine w_ v_i ?_ | refine w_ v_a ?_ | refine w_ v_l ?_ | refine w_ v_la ?_ | refine w_ v_ls ?_ | refine w_ v_lr ?_ | refine w_ v_ln ?_ | refine w_ v_bd ?_ | refine w_ v_mf ?_ | refine e_ (f_st ?_) | refine e_ (f_al fun _ => ?_) | refine e_ (f_bx fun _ => ?_))
          refine c_ (fun h2 => ?_) (fun h2 => ?_)
          · simp only [decide_eq_true_eq] at h2
            have hb2 : l[2]? = some l[2] := List.getElem?_eq_getElem (by omega)
            have hgd : l.getD 2 0 = l[2] := by rw [List.getD_eq_getElem?_getD, hb2]; rfl
            generalize l[2] = b at hb2 hgd
            have hload : (bys (l.drop 2))[(0 : Int).toNat * 1]? = some (.int .u8 b.toNat) := by
              apply bys_get; rw [List.getElem?_drop]; exact hb2
            repeat (first | refine w_ (v_lr (hv := hload)) ?_ | refine r_seq ?_ | refine r_nil ?_ | refine r_region ?_ | refine r_skip ?_ | refine r_block ?_ | refine r_inBlock ?_ | refine x_ ?_ | refine w_ v_p ?_ | refine w_ v_cv ?_ | refine w_ v_and ?_ | refine w_ v_or ?_ | refine w_ v_f ?_ | refine w_ v_b ?_ | refine w_ v_r ?_ | refine w_ v_i ?_ | refine w_ v_a ?_ | refine w_ v_l ?_ | refine w_ v_la ?_ | refine w_ v_ls ?_ | refine w_ v_lr ?_ | refine w_ v_ln ?_ | refine w_ v_bd ?_ | refine w_ v_mf ?_ | refine e_ (f_st ?_) | refine e_ (f_al fun _ => ?_) | refine e_ (f_bx fun _ => ?_))
            refine e_ (f_c (fun w _ => get_does b w) fun v L' h => ?_)
            obtain ⟨rfl, rfl⟩ := h
            cases hg : hamGet b with
            | none =>
              repeat (first | refine r_seq ?_ | refine r_nil ?_ | refine r_region ?_ | refine r_skip ?_ | refine r_block ?_ | refine r_inBlock ?_ | refine x_ ?_ | refine w_ v_p ?_ | refine w_ v_cv ?_ | refine w_ v_and ?_ | refine w_ v_or ?_ | refine w_ v_f ?_ | refine w_ v_b ?_ | refine w_ v_r ?_ | refine w_ v_i ?_ | refine w_ v_a ?_ | refine w_ v_l ?_ | refine w_ v_la ?_ | refine w_ v_ls ?_ | refine w_ v_lr ?_ | refine w_ v_ln ?_ | refine w_ v_bd ?_ | refine w_ v_mf ?_ | refine e_ (f_st ?_) | refine e_ (f_al fun _ => ?_) | refine e_ (f_bx fun _ => ?_))
              refine c_ (t := true) (fun _ => ?_) (fun h => by cases h)
              refine r_seq ?_
              refine d_in [] [] ?_
              first | (refine dp 0 ?_; first | refine tp (fun _ => v_bd) ?_)
              first | (refine dw 1 ?_; first | refine tw (v_l) ?_ | refine tw (v_la) ?_ | refine tw (v_ls) ?_ | refine tw (v_lr) ?_ | refine tw ((v_ge hG)) ?_)
              refine d_e 2 ?_
              first | refine f_st ⟨?_, ?_⟩
              · first | exact st_n | exact st_l rfl | exact st_s (by repeat (first | exact List.Sublist.refl _ | exact List.nil_sublist _ | exact List.sublist_append_right _ _ | apply List.Sublist.cons_cons | apply List.Sublist.cons))
              first | (refine dp 3 ?_; first | refine tp (fun _ => v_p) ?_)
              refine d_z ?_
              refine t2 (List.nil_sublist _) ?_
              have : readP l = .error 2 := by
                simp only [readP, h42, ne_eq, not_true, if_false, ho, h1', show ¬ 2 * y + x / 8 < 26 from by omega, hgd, hg]
              simp only [ReadR, this]
              exact ⟨rfl, trivial⟩
            | some cd =>
              repeat (first | refine r_seq ?_ | refine r_nil ?_ | refine r_region ?_ | refine r_skip ?_ | refine r_block ?_ | refine r_inBlock ?_ | refine x_ ?_ | refine w_ v_p ?_ | refine w_ v_cv ?_ | refine w_ v_and ?_ | refine w_ v_or ?_ | refine w_ v_f ?_ | refine w_ v_b ?_ | refine w_ v_r ?_ | refine w_ v_i ?_ | refine w_ v_a ?_ | refine w_ v_l ?_ | refine w_ v_la ?_ | refine w_ v_ls ?_ | refine w_ v_lr ?_ | refine w_ v_ln ?_ | refine w_ v_bd ?_ | refine w_ v_mf ?_ | refine e_ (f_st ?_) | refine e_ (f_al fun _ => ?_) | refine e_ (f_bx fun _ => ?_))
              refine c_ (t := false) (fun h => by cases h) (fun _ => ?_)
              repeat (first | refine w_ v_sl ?_ | refine r_seq ?_ | refine r_nil ?_ | refine r_region ?_ | refine r_skip ?_ | refine r_block ?_ | refine r_inBlock ?_ | refine x_ ?_ | refine w_ v_p ?_ | refine w_ v_cv ?_ | refine w_ v_and ?_ | refine w_ v_or ?_ | refine w_ v_f ?_ | refine w_ v_b ?_ | refine w_ v_r ?_ | refine w_ v_i ?_ | refine w_ v_a ?_ | refine w_ v_l ?_ | refine w_ v_la ?_ | refine w_ v_ls ?_ | refine w_ v_lr ?_ | refine w_ v_ln ?_ | refine w_ v_bd ?_ | refine w_ v_mf ?_ | refine e_ (f_st ?_) | refine e_ (f_al fun _ => ?_) | refine e_ (f_bx fun _ => ?_))
              have hl4 : (l.drop 3).length = l.length - 2 - 1 := by simp; omega
              refine e_ (f_c (fun w hw => clone_does' (l := l.drop 3) hl4 w (by omega) (by omega) (by
                have := sl_row_part hw (p := q1) (m := l.length - 2) (cap := c1) (sz := 1) (xs := bys (l.drop 2)) (T := 5) (by repeat (first | exact List.Mem.head _ | apply List.Mem.tail)) 1 (l.length - 2) (by omega) (Nat.le_refl _)
                simp only [bys_drop, Nat.mul_one, List.drop_drop] at this
                rwa [List.take_of_length_le (by simp [bys_length] <;> omega)] at this)) fun v L' h => ?_)
              obtain ⟨q2, c2, rfl, rfl⟩ := h
              repeat (first | refine r_seq ?_ | refine r_nil ?_ | refine r_region ?_ | refine r_skip ?_ | refine r_block ?_ | refine r_inBlock ?_ | refine x_ ?_ | refine w_ v_p ?_ | refine w_ v_cv ?_ | refine w_ v_and ?_ | refine w_ v_or ?_ | refine w_ v_f ?_ | refine w_ v_b ?_ | refine w_ v_r ?_ | refine w_ v_i ?_ | refine w_ v_a ?_ | refine w_ v_l ?_ | refine w_ v_la ?_ | refine w_ v_ls ?_ | refine w_ v_lr ?_ | refine w_ v_ln ?_ | refine w_ v_bd ?_ | refine w_ v_mf ?_ | refine e_ (f_st ?_) | refine e_ (f_al fun _ => ?_) | refine e_ (f_bx fun _ => ?_))
              refine t2 (.cons_cons _ (List.nil_sublist _)) ?_
              have : readP l = .ok ⟨mag, 2 * y + x / 8, kindOf (2 * y + x / 8), cd, l.drop 3⟩ := by
                simp only [readP, h42, ne_eq, not_true, if_false, ho, h1', show ¬ 2 * y + x / 8 < 26 from by omega, hgd, hg, hmg]
              simp only [ReadR, this]
              rw [hl4]
              exact ⟨q2, c2, rfl, rfl⟩
          · simp only [decide_eq_false_iff_not] at h2
            repeat (first | refine r_seq ?_ | refine r_nil ?_ | refine r_region ?_ | refine r_skip ?_ | refine r_block ?_ | refine r_inBlock ?_ | refine x_ ?_ | refine w_ v_p ?_ | refine w_ v_cv ?_ | refine w_ v_and ?_ | refine w_ v_or ?_ | refine w_ v_f ?_ | refine w_ v_b ?_ | refine w_ v_r ?_ | refine w_ v_i ?_ | refine w_ v_a ?_ | refine w_ v_l ?_ | refine w_ v_la ?_ | refine w_ v_ls ?_ | refine w_ v_lr ?_ | refine w_ v_ln ?_ | refine w_ v_bd ?_ | refine w_ v_mf ?_ | refine e_ (f_st ?_) | refine e_ (f_al fun _ => ?_) | refine e_ (f_bx fun _ => ?_))
            refine t2 (.cons _ (.cons_cons _ (List.nil_sublist _))) ?_
            have : readP l = .ok ⟨mag, 2 * y + x / 8, kindOf (2 * y + x / 8), 0, l.drop 2⟩ := by
              simp only [readP, h42, ne_eq, not_true, if_false, ho, h1', show 2 * y + x / 8 < 26 from by omega, if_true, hmg]
            simp only [ReadR, this]
            rw [hl3]
            exact ⟨q1, c1, rfl, rfl⟩
end Go.Proofs

namespace Go.Cf
section
variable {P : Program} {n : Nat} {Q : Exit → Act → World → Prop} {k : List It} {f : Nat → Value} {σ : Bd} {w0 : World} {F : List Nat} {L : Hp} {dst : Option Tmp} {ty : TypeId} {pos : String} {after : Array Edge} {guard : Option (Nat × Bool)} {K : Bd → St → Prop}

theorem zeros_length (z : List Value) (n : Nat) : (zeros z n).length = n := by simp [zeros]
theorem zeros_one (z0 : Value) (n : Nat) : zeros [z0] n = List.replicate n z0 := by
  apply List.ext_getElem
  · simp [zeros]
  · intro i h1 h2
    simp [zeros, Nat.mod_one]

/-- 'make' of a slice. -/
theorem f_mk {T e : TypeId} [TySlice P T e] {x y : Operand} {kl kc : IntKind} (m : Nat) {l c : Int} {agg : Bool} {sz by_ : Nat} {z : List Value} [ha : TyA P e agg sz] [hb : TyB P e by_] [hz : TyZ P e z] {d : Nat}
    (h : ∀ b, K ((d, .v (.slice (some ⟨b, 0, none⟩) m m)) :: σ) ⟨w0, F, .row (some ⟨b, 0, none⟩) m m (zeros z (m * sz)) e sz :: L⟩)
    (hx : evo f σ x = some (.int kl l) := by exact rfl) (hy : evo f σ y = some (.int kc c) := by exact rfl) (hl : l = m := by first | rfl | omega) (hc : c = m := by first | rfl | omega) (hbd : by_ ≤ 4096 ∧ m ≤ 4294967296 := by first | omega | exact ⟨by decide, by omega⟩) (hcx : (sv f σ x).cnd = true := by exact rfl) (hcy : (sv f σ y).cnd = true := by exact rfl)
    (hd : dst = some d := by exact rfl) (hn : Nat.ble (d + 1) n = true := by exact rfl) (hg : guard = none := by exact rfl) :
    Ef P n f σ ⟨w0, F, L⟩ ⟨dst, .makeSlice T x y, ty, pos, after, guard⟩ K := by
  subst hl hc
  refine .of hd hn hg (fun a w hrep hs => ?_)
  obtain ⟨i, zv, hi, hzv, hsz, hby, hzc⟩ := info_of (P := P) (T := e) (z := z) (agg := agg) (sz := sz) (by_ := by_)
  have hby2 : (i.bytes : Int) * (m : Int) ≤ 281474976710656 := by
    rw [hby]
    have h1 : by_ * m ≤ 4096 * 4294967296 := Nat.mul_le_mul hbd.1 hbd.2
    have h2 : ((by_ * m : Nat) : Int) ≤ 281474976710656 := by omega
    rwa [Int.natCast_mul] at h2
  have hr := run_make (P := P) w T e i zv (‹TySlice P T e›).under hi hzv kl kc m m (by omega) (by omega) hby2 (by omega)
  simp only [Int.toNat_natCast] at hr
  refine ⟨_, _, ⟨w0, F, .row (some ⟨w.heap.size, 0, none⟩) m m (zeros z (m * sz)) e sz :: L⟩, ?_, hs.cons (w' := w.alloc (.cells (zeros z (m * sz)).toArray e)) (e' := .row (some ⟨w.heap.size, 0, none⟩) m m (zeros z (m * sz)) e sz) rfl rfl rfl (by simp) (fun k' hk => aold w _ k' hk) ?_ (fun b hb => by simp only [En.blk, Option.map_some, Option.some.injEq] at hb; omega), h w.heap.size⟩
  · have hcells : madeCells zv.cells (m * i.size) = (zeros z (m * sz)).toArray := by
      apply Array.ext'
      rw [hsz]
      simp only [madeCells, zeros, Array.toList_map, Array.toList_range, ← hzc, Array.length_toList]
      apply List.map_congr_left
      intro j _
      rw [getElem!_def, getElem!_def, Array.getElem?_toList]
    rw [hcells] at hr
    simp only [execOp, hrep.eval, ev_of_evo hx hcx, ev_of_evo hy hcy, Sem.run_bind, hr]
    rfl
  · exact ⟨zeros_length _ _, .inr ⟨w.heap.size, _, rfl, heap_alloc_new w _, Nat.le_refl _, by simp only [maxLen]; omega, by simp [zeros_length], by rw [List.take_of_length_le (by simp [zeros_length])]⟩⟩

/-- 'make' of an empty slice with room. -/
theorem f_m0 {T e : TypeId} [TySlice P T e] {x y : Operand} {kl kc : IntKind} (m : Nat) {l c : Int} {agg : Bool} {sz by_ : Nat} {z : List Value} [ha : TyA P e agg sz] [hb : TyB P e by_] [hz : TyZ P e z] {d : Nat}
    (h : ∀ b, K ((d, .v (.slice (some ⟨b, 0, none⟩) 0 m)) :: σ) ⟨w0, F, .row (some ⟨b, 0, none⟩) 0 m [] e sz :: L⟩)
    (hx : evo f σ x = some (.int kl l) := by exact rfl) (hy : evo f σ y = some (.int kc c) := by exact rfl) (hl : l = 0 := by first | rfl | omega) (hc : c = m := by first | rfl | omega) (hbd : by_ ≤ 4096 ∧ m ≤ 4294967296 := by first | omega | exact ⟨by decide, by omega⟩) (hcx : (sv f σ x).cnd = true := by exact rfl) (hcy : (sv f σ y).cnd = true := by exact rfl)
    (hd : dst = some d := by exact rfl) (hn : Nat.ble (d + 1) n = true := by exact rfl) (hg : guard = none := by exact rfl) :
    Ef P n f σ ⟨w0, F, L⟩ ⟨dst, .makeSlice T x y, ty, pos, after, guard⟩ K := by
  subst hl hc
  refine .of hd hn hg (fun a w hrep hs => ?_)
  obtain ⟨i, zv, hi, hzv, hsz, hby, hzc⟩ := info_of (P := P) (T := e) (z := z) (agg := agg) (sz := sz) (by_ := by_)
  have hby2 : (i.bytes : Int) * (m : Int) ≤ 281474976710656 := by
    rw [hby]
    have h1 : by_ * m ≤ 4096 * 4294967296 := Nat.mul_le_mul hbd.1 hbd.2
    have h2 : ((by_ * m : Nat) : Int) ≤ 281474976710656 := by omega
    rwa [Int.natCast_mul] at h2
  have hr := run_make (P := P) w T e i zv (‹TySlice P T e›).under hi hzv kl kc 0 m (by omega) (by omega) hby2 (by omega)
  simp only [Int.toNat_natCast, Int.toNat_zero] at hr
  refine ⟨_, _, ⟨w0, F, .row (some ⟨w.heap.size, 0, none⟩) 0 m [] e sz :: L⟩, ?_, hs.cons (w' := w.alloc (.cells (zeros z (m * sz)).toArray e)) (e' := .row (some ⟨w.heap.size, 0, none⟩) 0 m [] e sz) rfl rfl rfl (by simp) (fun k' hk => aold w _ k' hk) ?_ (fun b hb => by simp only [En.blk, Option.map_some, Option.some.injEq] at hb; omega), h w.heap.size⟩
  · have hcells : madeCells zv.cells (m * i.size) = (zeros z (m * sz)).toArray := by
      apply Array.ext'
      rw [hsz]
      simp only [madeCells, zeros, Array.toList_map, Array.toList_range, ← hzc, Array.length_toList]
      apply List.map_congr_left
      intro j _
      rw [getElem!_def, getElem!_def, Array.getElem?_toList]
    rw [hcells] at hr
    simp only [execOp, hrep.eval, ev_of_evo hx hcx, ev_of_evo hy hcy, Sem.run_bind, hr]
    rfl
  · exact ⟨by simp, .inr ⟨w.heap.size, _, rfl, heap_alloc_new w _, Nat.zero_le _, by simp only [maxLen]; omega, by simp [zeros_length], by simp⟩⟩
end

theorem splice_mid (A R : List Value) (x y : Value) : splice (A ++ x :: R) A.length [y] = A ++ y :: R := by
  induction A with
  | nil => simp [splice]
  | cons a A ih => exact sp2 ih

theorem splice_bys (a r : List UInt8) (x y : UInt8) {off : Nat} (h : off = a.length) : splice (bys (a ++ x :: r)) off [.int .u8 y.toNat] = bys (a ++ y :: r) := by
  have h1 := splice_mid (bys a) (bys r) (.int .u8 x.toNat) (.int .u8 y.toNat)
  rw [bys_length, ← h] at h1
  simpa [bys] using h1

/-! ### Packets' parts -/

def partOf (d : List UInt8) (a m : Nat) : List UInt8 := (List.range m).map fun i => d.getD (a + i) 0
theorem partOf_length (d : List UInt8) (a m : Nat) : (partOf d a m).length = m := by simp [partOf]
theorem partOf_take {d : List UInt8} {a m i : Nat} (h : i < m) : (partOf d a m).take (i + 1) = (partOf d a m).take i ++ [d.getD (a + i) 0] := by
  apply take_snoc
  simp [partOf, h]
end Go.Cf

namespace Go.Proofs
open Go.Cf
set_option maxRecDepth 10000

theorem at_does (mag row kind code : Nat) (d : List UInt8) (p : Option Addr) (c i m : Nat) (w : World) (hm : d.length = m) (hi : i ≤ 1000) (hs : Sl w [] p m 1 (bys d)) :
    Does Tryz.prog 129 [.agg (pkC mag row kind code (.slice p m c)).toArray, .int .i64 i] w [] (fun v L => v = .int .u8 (d.getD i 0).toNat ∧ L = []) := by
  refine does_of Tryz.func129 rfl rfl ?_
  repeat (first | refine r_seq ?_ | refine r_nil ?_ | refine r_region ?_ | refine r_skip ?_ | refine r_block ?_ | refine r_inBlock ?_ | refine x_ ?_ | refine w_ v_p ?_ | refine w_ v_cv ?_ | refine w_ v_and ?_ | refine w_ v_or ?_ | refine w_ v_f ?_ | refine w_ v_b ?_ | refine w_ v_r ?_ | refine w_ v_i ?_ | refine w_ v_a ?_ | refine w_ v_l ?_ | refine w_ v_la ?_ | refine w_ v_ls ?_ | refine w_ v_lr ?_ | refine w_ v_ln ?_ | refine w_ v_bd ?_ | refine w_ v_mf ?_ | refine e_ (f_st ?_) | refine e_ (f_al fun _ => ?_) | refine e_ (f_bx fun _ => ?_))
  refine c_ (fun h => ?_) (fun h => ?_)
  · simp only [Bool.or_eq_true, decide_eq_true_eq] at h
    repeat (first | refine r_seq ?_ | refine r_nil ?_ | refine r_region ?_ | refine r_skip ?_ | refine r_block ?_ | refine r_inBlock ?_ | refine x_ ?_ | refine w_ v_p ?_ | refine w_ v_cv ?_ | refine w_ v_and ?_ | refine w_ v_or ?_ | refine w_ v_f ?_ | refine w_ v_b ?_ | refine w_ v_r ?_ | refine w_ v_i ?_ | refine w_ v_a ?_ | refine w_ v_l ?_ | refine w_ v_la ?_ | refine w_ v_ls ?_ | refine w_ v_lr ?_ | refine w_ v_ln ?_ | refine w_ v_bd ?_ | refine w_ v_mf ?_ | refine e_ (f_st ?_) | refine e_ (f_al fun _ => ?_) | refine e_ (f_bx fun _ => ?_))
    refine t_ rfl (.tmp rfl .nil) (List.nil_sublist _) ⟨?_, rfl⟩
    rw [List.getD_eq_getElem?_getD, List.getElem?_eq_none (by omega)]
    rfl
  · simp only [Bool.or_eq_false_iff, decide_eq_false_iff_not] at h
    have hlt : i < d.length := by omega
    have hb : d[i]? = some d[i] := List.getElem?_eq_getElem hlt
    have hgd : d.getD i 0 = d[i] := by rw [List.getD_eq_getElem?_getD, hb]; rfl
    generalize d[i] = b at hb hgd
    have hload : (bys d)[((i : Nat) : Int).toNat * 1]? = some (.int .u8 b.toNat) := by simpa using bys_get hb
    repeat (first | refine w_ (v_ls (hv := hload)) ?_ | refine r_seq ?_ | refine r_nil ?_ | refine r_region ?_ | refine r_skip ?_ | refine r_block ?_ | refine r_inBlock ?_ | refine x_ ?_ | refine w_ v_p ?_ | refine w_ v_cv ?_ | refine w_ v_and ?_ | refine w_ v_or ?_ | refine w_ v_f ?_ | refine w_ v_b ?_ | refine w_ v_r ?_ | refine w_ v_i ?_ | refine w_ v_a ?_ | refine w_ v_l ?_ | refine w_ v_la ?_ | refine w_ v_ls ?_ | refine w_ v_lr ?_ | refine w_ v_ln ?_ | refine w_ v_bd ?_ | refine w_ v_mf ?_ | refine e_ (f_st ?_) | refine e_ (f_al fun _ => ?_) | refine e_ (f_bx fun _ => ?_))
    refine t_ rfl (.tmp rfl .nil) (List.nil_sublist _) ⟨?_, rfl⟩
    rw [hgd]; rfl

theorem part_does (mag row kind code : Nat) (d : List UInt8) (p : Option Addr) (c a m n : Nat) (w : World) (hn : d.length = n) (ha : a ≤ 100) (hm : m ≤ 100) (hs : Sl w [] p n 1 (bys d)) :
    Does Tryz.prog 125 [.agg (pkC mag row kind code (.slice p n c)).toArray, .int .i64 a, .int .i64 m] w [] (fun v L => ∃ q, v = .slice q m m ∧ L = [.row q m m (bys (partOf d a m)) 5 1]) := by
  refine does_of Tryz.func125 rfl rfl ?_
  repeat (first | refine e_ (f_bx fun b0 => ?_) | refine r_seq ?_ | refine r_nil ?_ | refine r_region ?_ | refine r_skip ?_ | refine r_block ?_ | refine r_inBlock ?_ | refine x_ ?_ | refine w_ v_p ?_ | refine w_ v_cv ?_ | refine w_ v_and ?_ | refine w_ v_or ?_ | refine w_ v_f ?_ | refine w_ v_b ?_ | refine w_ v_r ?_ | refine w_ v_i ?_ | refine w_ v_a ?_ | refine w_ v_l ?_ | refine w_ v_la ?_ | refine w_ v_ls ?_ | refine w_ v_lr ?_ | refine w_ v_ln ?_ | refine w_ v_bd ?_ | refine w_ v_mf ?_ | refine e_ (f_st ?_) | refine e_ (f_al fun _ => ?_) | refine e_ (f_bx fun _ => ?_))
  refine e_ (f_mk m fun b => ?_)
  rw [zeros_one, Nat.mul_one]
  repeat (first | refine r_seq ?_ | refine r_nil ?_ | refine r_region ?_ | refine r_skip ?_ | refine r_block ?_ | refine r_inBlock ?_ | refine x_ ?_ | refine w_ v_p ?_ | refine w_ v_cv ?_ | refine w_ v_and ?_ | refine w_ v_or ?_ | refine w_ v_f ?_ | refine w_ v_b ?_ | refine w_ v_r ?_ | refine w_ v_i ?_ | refine w_ v_a ?_ | refine w_ v_l ?_ | refine w_ v_la ?_ | refine w_ v_ls ?_ | refine w_ v_lr ?_ | refine w_ v_ln ?_ | refine w_ v_bd ?_ | refine w_ v_mf ?_ | refine e_ (f_st ?_) | refine e_ (f_al fun _ => ?_) | refine e_ (f_bx fun _ => ?_))
  refine r_loop (τ := Nat) (fun i => i ≤ m) (fun i => m - i) (fun i => [(1, .v (.int .i64 a)), (3, .v (.pointer (some ⟨b0, 0, none⟩))), (7, .v (.slice (some ⟨b, 0, none⟩) m m)), (12, .v (.int .i64 m)), (13, .v (.int .i64 i))])
    (fun i => [.row (some ⟨b, 0, none⟩) m m (bys ((partOf d a m).take i ++ List.replicate (m - i) 0)) 5 1, .cells b0 (pkC mag row kind code (.slice p n c)) 130]) 0 (by omega) ⟨rfl, rfl, rfl, rfl, rfl, trivial⟩ (by
      simp only [List.take_zero, List.nil_append, Nat.sub_zero, bys, List.map_replicate]; exact List.Sublist.refl _) ?_
  rintro i hi f
  repeat (first | refine r_seq ?_ | refine r_nil ?_ | refine r_region ?_ | refine r_skip ?_ | refine r_block ?_ | refine r_inBlock ?_ | refine x_ ?_ | refine w_ v_p ?_ | refine w_ v_cv ?_ | refine w_ v_and ?_ | refine w_ v_or ?_ | refine w_ v_f ?_ | refine w_ v_b ?_ | refine w_ v_r ?_ | refine w_ v_i ?_ | refine w_ v_a ?_ | refine w_ v_l ?_ | refine w_ v_la ?_ | refine w_ v_ls ?_ | refine w_ v_lr ?_ | refine w_ v_ln ?_ | refine w_ v_bd ?_ | refine w_ v_mf ?_ | refine e_ (f_st ?_) | refine e_ (f_al fun _ => ?_) | refine e_ (f_bx fun _ => ?_))
  refine c_ (fun h => ?_) (fun h => ?_)
  · simp only [decide_eq_true_eq] at h
    repeat (first | refine r_seq ?_ | refine r_nil ?_ | refine r_region ?_ | refine r_skip ?_ | refine r_block ?_ | refine r_inBlock ?_ | refine x_ ?_ | refine w_ v_p ?_ | refine w_ v_cv ?_ | refine w_ v_and ?_ | refine w_ v_or ?_ | refine w_ v_f ?_ | refine w_ v_b ?_ | refine w_ v_r ?_ | refine w_ v_i ?_ | refine w_ v_a ?_ | refine w_ v_l ?_ | refine w_ v_la ?_ | refine w_ v_ls ?_ | refine w_ v_lr ?_ | refine w_ v_ln ?_ | refine w_ v_bd ?_ | refine w_ v_mf ?_ | refine e_ (f_st ?_) | refine e_ (f_al fun _ => ?_) | refine e_ (f_bx fun _ => ?_))
    refine e_ (f_c (fun w hw => at_does mag row kind code d p c (a + i) n w hn (by omega) (hs.now hw)) fun v L' h => ?_)
    obtain ⟨rfl, rfl⟩ := h
    repeat (first | refine r_seq ?_ | refine r_nil ?_ | refine r_region ?_ | refine r_skip ?_ | refine r_block ?_ | refine r_inBlock ?_ | refine x_ ?_ | refine w_ v_p ?_ | refine w_ v_cv ?_ | refine w_ v_and ?_ | refine w_ v_or ?_ | refine w_ v_f ?_ | refine w_ v_b ?_ | refine w_ v_r ?_ | refine w_ v_i ?_ | refine w_ v_a ?_ | refine w_ v_l ?_ | refine w_ v_la ?_ | refine w_ v_ls ?_ | refine w_ v_lr ?_ | refine w_ v_ln ?_ | refine w_ v_bd ?_ | refine w_ v_mf ?_ | refine e_ (f_st ?_) | refine e_ (f_al fun _ => ?_) | refine e_ (f_bx fun _ => ?_))
    have hrep : List.replicate (m - i) (0 : UInt8) = 0 :: List.replicate (m - (i + 1)) 0 := by
      rw [show m - i = (m - (i + 1)) + 1 from by omega, List.replicate_succ]
    have hlen : ((partOf d a m).take i).length = i := by rw [List.length_take, partOf_length]; omega
    have hx : splice (bys ((partOf d a m).take i ++ List.replicate (m - i) 0)) (((i : Nat) : Int).toNat * 1) [.int .u8 (d.getD (a + i) 0).toNat] = bys ((partOf d a m).take (i + 1) ++ List.replicate (m - (i + 1)) 0) := by
      rw [hrep, splice_bys _ _ _ _ (by simp [hlen]), partOf_take (by omega)]
      simp
    refine e_ (f_sr (off := ((i : Nat) : Int).toNat * 1) (hl := hx) ?_ (by rw [bys_length, List.length_append, hlen, List.length_replicate]; simp; omega))
    repeat (first | refine r_seq ?_ | refine r_nil ?_ | refine r_region ?_ | refine r_skip ?_ | refine r_block ?_ | refine r_inBlock ?_ | refine x_ ?_ | refine w_ v_p ?_ | refine w_ v_cv ?_ | refine w_ v_and ?_ | refine w_ v_or ?_ | refine w_ v_f ?_ | refine w_ v_b ?_ | refine w_ v_r ?_ | refine w_ v_i ?_ | refine w_ v_a ?_ | refine w_ v_l ?_ | refine w_ v_la ?_ | refine w_ v_ls ?_ | refine w_ v_lr ?_ | refine w_ v_ln ?_ | refine w_ v_bd ?_ | refine w_ v_mf ?_ | refine e_ (f_st ?_) | refine e_ (f_al fun _ => ?_) | refine e_ (f_bx fun _ => ?_))
    exact r_again (i + 1) (by omega) (by omega) ⟨rfl, rfl, rfl, rfl, rfl, trivial⟩ (List.Sublist.refl _)
  · simp only [decide_eq_false_iff_not] at h
    have hi2 : i = m := by omega
    subst hi2
    repeat (first | refine r_seq ?_ | refine r_nil ?_ | refine r_region ?_ | refine r_skip ?_ | refine r_block ?_ | refine r_inBlock ?_ | refine x_ ?_ | refine w_ v_p ?_ | refine w_ v_cv ?_ | refine w_ v_and ?_ | refine w_ v_or ?_ | refine w_ v_f ?_ | refine w_ v_b ?_ | refine w_ v_r ?_ | refine w_ v_i ?_ | refine w_ v_a ?_ | refine w_ v_l ?_ | refine w_ v_la ?_ | refine w_ v_ls ?_ | refine w_ v_lr ?_ | refine w_ v_ln ?_ | refine w_ v_bd ?_ | refine w_ v_mf ?_ | refine e_ (f_st ?_) | refine e_ (f_al fun _ => ?_) | refine e_ (f_bx fun _ => ?_))
    refine t_ rfl (.tmp rfl .nil) (.cons_cons _ (List.nil_sublist _)) ⟨_, rfl, ?_⟩
    rw [Nat.sub_self, List.replicate_zero, List.append_nil, List.take_of_length_le (by rw [partOf_length]; exact Nat.le_refl _)]
end Go.Proofs

