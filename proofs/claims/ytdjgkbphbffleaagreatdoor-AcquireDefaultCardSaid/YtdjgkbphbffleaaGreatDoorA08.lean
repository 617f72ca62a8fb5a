/-
  Contracts: triplets, regions, links read.
-/
import Derived.Test.YtdjgkbphbffleaaGreatDoorA07
import Derived.Laws.BytesString
namespace Go.Cf
def num24 (d : List UInt8) (k : Nat) : Option Nat := get24M (w24 (d.getD (3 * k) 0) (d.getD (3 * k + 1) 0) (d.getD (3 * k + 2) 0))
/-- The numbers of thirteen triplets. -/
def numsN (d : List UInt8) (n : Nat) : List Nat := (List.range n).map fun k => (num24 d k).getD 0
def numsB (d : List UInt8) (n : Nat) : List Bool := (List.range n).map fun k => (num24 d k).isSome
def bools (l : List Bool) : List Value := l.map fun b => .bool b
theorem numsN_length (d : List UInt8) (n : Nat) : (numsN d n).length = n := by simp [numsN]
theorem numsB_length (d : List UInt8) (n : Nat) : (numsB d n).length = n := by simp [numsB]
theorem numsN_succ (d : List UInt8) (n : Nat) : numsN d (n + 1) = numsN d n ++ [(num24 d n).getD 0] := by simp [numsN, List.range_succ]
theorem numsB_succ (d : List UInt8) (n : Nat) : numsB d (n + 1) = numsB d n ++ [(num24 d n).isSome] := by simp [numsB, List.range_succ]
theorem bools_length (l : List Bool) : (bools l).length = l.length := by simp [bools]
theorem bools_append (a b : List Bool) : bools (a ++ b) = bools a ++ bools b := by simp [bools]
theorem bools_plain (l : List Bool) : ∀ u ∈ bools l, plain u = true := by
  intro u hu
  simp only [bools, List.mem_map] at hu
  obtain ⟨b, _, rfl⟩ := hu
  rfl
theorem partOf3 (d : List UInt8) (k : Nat) : partOf d (3 * k) 3 = [d.getD (3 * k) 0, d.getD (3 * k + 1) 0, d.getD (3 * k + 2) 0] := rfl
end Go.Cf
namespace Go.Proofs
open Go.Cf
set_option maxRecDepth 10000

/-- What 'numbers' hands back. -/
def NumR (d : List UInt8) (v : Value) (L : Hp) : Prop := ∃ p c q e, v = .tuple #[.slice p 13 c, .slice q 13 e] ∧ L = [.row p 13 c (nums (numsN d 13)) 3 1, .row q 13 e (bools (numsB d 13)) 4 1]

theorem numbers_does (kd : Pk) (p : Option Addr) (c m : Nat) (w : World) (hm : kd.data.length = m) (hs : Sl w [] p m 1 (bys kd.data)) :
    Does Tryz.prog 124 [.agg (pkC kd.mag kd.row kd.kind kd.code (.slice p m c)).toArray] w [] (NumR kd.data) := by
  refine does_of Tryz.func124 rfl rfl ?_
  repeat (first | refine e_ (f_bx fun b1 => ?_) | refine r_seq ?_ | refine r_nil ?_ | refine r_region ?_ | refine r_skip ?_ | refine r_block ?_ | refine r_inBlock ?_ | refine x_ ?_ | refine w_ v_p ?_ | refine w_ v_cv ?_ | refine w_ v_and ?_ | refine w_ v_or ?_ | refine w_ v_f ?_ | refine w_ v_b ?_ | refine w_ v_r ?_ | refine w_ v_i ?_ | refine w_ v_a ?_ | refine w_ v_l ?_ | refine w_ v_la ?_ | refine w_ v_ls ?_ | refine w_ v_lr ?_ | refine w_ v_ln ?_ | refine w_ v_bd ?_ | refine w_ v_ba ?_ | refine w_ v_mf ?_ | refine w_ v_sap ?_ | refine w_ v_pkf ?_ | refine w_ v_pkt ?_ | refine w_ v_nl ?_ | refine w_ v_nn ?_ | refine e_ (f_st ?_) | refine e_ (f_al fun _ => ?_) | refine e_ (f_bx fun _ => ?_))
  refine r_row (T := 3) (sz := 1) ?_
  refine r_row (T := 4) (sz := 1) ?_
  refine r_loop (τ := Nat × Option Addr × Nat × Option Addr × Nat) (fun t => t.1 ≤ 13) (fun t => 13 - t.1)
    (fun t => [(1, .v (.pointer (some ⟨b1, 0, none⟩))), (4, .v (.slice t.2.1 t.1 t.2.2.1)), (5, .v (.slice t.2.2.2.1 t.1 t.2.2.2.2)), (9, .v (.int .i64 t.1))])
    (fun t => [.row t.2.2.2.1 t.1 t.2.2.2.2 (bools (numsB kd.data t.1)) 4 1, .row t.2.1 t.1 t.2.2.1 (nums (numsN kd.data t.1)) 3 1, .cells b1 (pkC kd.mag kd.row kd.kind kd.code (.slice p m c)) 130])
    (0, none, 0, none, 0) (by omega) ⟨rfl, rfl, rfl, rfl, trivial⟩ (List.Sublist.refl _) ?_
  rintro ⟨k, p1, c1, p2, c2⟩ hk f
  dsimp only at hk ⊢
  repeat (first | refine r_seq ?_ | refine r_nil ?_ | refine r_region ?_ | refine r_skip ?_ | refine r_block ?_ | refine r_inBlock ?_ | refine x_ ?_ | refine w_ v_p ?_ | refine w_ v_cv ?_ | refine w_ v_and ?_ | refine w_ v_or ?_ | refine w_ v_f ?_ | refine w_ v_b ?_ | refine w_ v_r ?_ | refine w_ v_i ?_ | refine w_ v_a ?_ | refine w_ v_l ?_ | refine w_ v_la ?_ | refine w_ v_ls ?_ | refine w_ v_lr ?_ | refine w_ v_ln ?_ | refine w_ v_bd ?_ | refine w_ v_ba ?_ | refine w_ v_mf ?_ | refine w_ v_sap ?_ | refine w_ v_pkf ?_ | refine w_ v_pkt ?_ | refine w_ v_nl ?_ | refine w_ v_nn ?_ | refine e_ (f_st ?_) | refine e_ (f_al fun _ => ?_) | refine e_ (f_bx fun _ => ?_))
  refine c_ (fun h => ?_) (fun h => ?_)
  · simp only [decide_eq_true_eq] at h
    have hlt : k < 13 := by omega
    repeat (first | refine r_seq ?_ | refine r_nil ?_ | refine r_region ?_ | refine r_skip ?_ | refine r_block ?_ | refine r_inBlock ?_ | refine x_ ?_ | refine w_ v_p ?_ | refine w_ v_cv ?_ | refine w_ v_and ?_ | refine w_ v_or ?_ | refine w_ v_f ?_ | refine w_ v_b ?_ | refine w_ v_r ?_ | refine w_ v_i ?_ | refine w_ v_a ?_ | refine w_ v_l ?_ | refine w_ v_la ?_ | refine w_ v_ls ?_ | refine w_ v_lr ?_ | refine w_ v_ln ?_ | refine w_ v_bd ?_ | refine w_ v_ba ?_ | refine w_ v_mf ?_ | refine w_ v_sap ?_ | refine w_ v_pkf ?_ | refine w_ v_pkt ?_ | refine w_ v_nl ?_ | refine w_ v_nn ?_ | refine e_ (f_st ?_) | refine e_ (f_al fun _ => ?_) | refine e_ (f_bx fun _ => ?_))
    refine e_ (f_c (fun w hw => part_does kd.mag kd.row kd.kind kd.code kd.data p c (3 * k) 3 m w hm (by omega) (by omega) (hs.now hw)) fun v L' h => ?_)
    obtain ⟨q, rfl, rfl⟩ := h
    refine r_own (.head _) (by omega) fun b hp _ _ _ => ?_
    subst hp
    repeat (first | refine w_ (v_lra (hv := sub_all (l := bys (partOf kd.data (3 * k) 3)) rfl)) ?_ | refine r_seq ?_ | refine r_nil ?_ | refine r_region ?_ | refine r_skip ?_ | refine r_block ?_ | refine r_inBlock ?_ | refine x_ ?_ | refine w_ v_p ?_ | refine w_ v_cv ?_ | refine w_ v_and ?_ | refine w_ v_or ?_ | refine w_ v_f ?_ | refine w_ v_b ?_ | refine w_ v_r ?_ | refine w_ v_i ?_ | refine w_ v_a ?_ | refine w_ v_l ?_ | refine w_ v_la ?_ | refine w_ v_ls ?_ | refine w_ v_lr ?_ | refine w_ v_ln ?_ | refine w_ v_bd ?_ | refine w_ v_ba ?_ | refine w_ v_mf ?_ | refine w_ v_sap ?_ | refine w_ v_pkf ?_ | refine w_ v_pkt ?_ | refine w_ v_nl ?_ | refine w_ v_nn ?_ | refine e_ (f_st ?_) | refine e_ (f_al fun _ => ?_) | refine e_ (f_bx fun _ => ?_))
    refine e_ (f_c (fun w hw => get24_does (kd.data.getD (3 * k) 0) (kd.data.getD (3 * k + 1) 0) (kd.data.getD (3 * k + 2) 0) w) fun v L' h => ?_)
    obtain ⟨rfl, rfl⟩ := h
    repeat (first | refine r_seq ?_ | refine r_nil ?_ | refine r_region ?_ | refine r_skip ?_ | refine r_block ?_ | refine r_inBlock ?_ | refine x_ ?_ | refine w_ v_p ?_ | refine w_ v_cv ?_ | refine w_ v_and ?_ | refine w_ v_or ?_ | refine w_ v_f ?_ | refine w_ v_b ?_ | refine w_ v_r ?_ | refine w_ v_i ?_ | refine w_ v_a ?_ | refine w_ v_l ?_ | refine w_ v_la ?_ | refine w_ v_ls ?_ | refine w_ v_lr ?_ | refine w_ v_ln ?_ | refine w_ v_bd ?_ | refine w_ v_ba ?_ | refine w_ v_mf ?_ | refine w_ v_sap ?_ | refine w_ v_pkf ?_ | refine w_ v_pkt ?_ | refine w_ v_nl ?_ | refine w_ v_nn ?_ | refine e_ (f_st ?_) | refine e_ (f_al fun _ => ?_) | refine e_ (f_bx fun _ => ?_))
    refine e_ (f_bs (l := nums [(num24 kd.data k).getD 0]) fun b24 => ?_)
    refine e_ (f_a (m := k) (m2 := 1) (fun w hw => sl_of_cells hw (.head _) rfl) (nums_plain _) fun q3 c3 => ?_)
    repeat (first | refine r_seq ?_ | refine r_nil ?_ | refine r_region ?_ | refine r_skip ?_ | refine r_block ?_ | refine r_inBlock ?_ | refine x_ ?_ | refine w_ v_p ?_ | refine w_ v_cv ?_ | refine w_ v_and ?_ | refine w_ v_or ?_ | refine w_ v_f ?_ | refine w_ v_b ?_ | refine w_ v_r ?_ | refine w_ v_i ?_ | refine w_ v_a ?_ | refine w_ v_l ?_ | refine w_ v_la ?_ | refine w_ v_ls ?_ | refine w_ v_lr ?_ | refine w_ v_ln ?_ | refine w_ v_bd ?_ | refine w_ v_ba ?_ | refine w_ v_mf ?_ | refine w_ v_sap ?_ | refine w_ v_pkf ?_ | refine w_ v_pkt ?_ | refine w_ v_nl ?_ | refine w_ v_nn ?_ | refine e_ (f_st ?_) | refine e_ (f_al fun _ => ?_) | refine e_ (f_bx fun _ => ?_))
    refine e_ (f_bs (l := bools [(num24 kd.data k).isSome]) fun b28 => ?_)
    refine e_ (f_a (m := k) (m2 := 1) (fun w hw => sl_of_cells hw (.head _) rfl) (bools_plain _) fun q4 c4 => ?_)
    rw [← nums_append, ← bools_append, ← numsN_succ, ← numsB_succ]
    repeat (first | refine r_seq ?_ | refine r_nil ?_ | refine r_region ?_ | refine r_skip ?_ | refine r_block ?_ | refine r_inBlock ?_ | refine x_ ?_ | refine w_ v_p ?_ | refine w_ v_cv ?_ | refine w_ v_and ?_ | refine w_ v_or ?_ | refine w_ v_f ?_ | refine w_ v_b ?_ | refine w_ v_r ?_ | refine w_ v_i ?_ | refine w_ v_a ?_ | refine w_ v_l ?_ | refine w_ v_la ?_ | refine w_ v_ls ?_ | refine w_ v_lr ?_ | refine w_ v_ln ?_ | refine w_ v_bd ?_ | refine w_ v_ba ?_ | refine w_ v_mf ?_ | refine w_ v_sap ?_ | refine w_ v_pkf ?_ | refine w_ v_pkt ?_ | refine w_ v_nl ?_ | refine w_ v_nn ?_ | refine e_ (f_st ?_) | refine e_ (f_al fun _ => ?_) | refine e_ (f_bx fun _ => ?_))
    exact r_ord (r_again (k + 1, q3, c3, q4, c4) (by dsimp only; omega) (by dsimp only; omega) ⟨rfl, rfl, rfl, rfl, trivial⟩ (List.Sublist.refl _))
  · simp only [decide_eq_false_iff_not] at h
    have hk2 : k = 13 := by omega
    subst hk2
    repeat (first | refine r_seq ?_ | refine r_nil ?_ | refine r_region ?_ | refine r_skip ?_ | refine r_block ?_ | refine r_inBlock ?_ | refine x_ ?_ | refine w_ v_p ?_ | refine w_ v_cv ?_ | refine w_ v_and ?_ | refine w_ v_or ?_ | refine w_ v_f ?_ | refine w_ v_b ?_ | refine w_ v_r ?_ | refine w_ v_i ?_ | refine w_ v_a ?_ | refine w_ v_l ?_ | refine w_ v_la ?_ | refine w_ v_ls ?_ | refine w_ v_lr ?_ | refine w_ v_ln ?_ | refine w_ v_bd ?_ | refine w_ v_ba ?_ | refine w_ v_mf ?_ | refine w_ v_sap ?_ | refine w_ v_pkf ?_ | refine w_ v_pkt ?_ | refine w_ v_nl ?_ | refine w_ v_nn ?_ | refine e_ (f_st ?_) | refine e_ (f_al fun _ => ?_) | refine e_ (f_bx fun _ => ?_))
    exact r_ord (M := [.row p1 13 c1 (nums (numsN kd.data 13)) 3 1, .row p2 13 c2 (bools (numsB kd.data 13)) 4 1]) (t2 (List.Sublist.refl _) ⟨p1, c1, p2, c2, rfl, rfl⟩)
end Go.Proofs

namespace Go.Cf
def regionM (k : Pk) : Option Nat :=
  if (k.kind ≠ 5 ∧ k.kind ≠ 6) ∨ (k.code ≠ 0 ∧ k.code ≠ 4) then none else match num24 k.data 0 with | none => none | some n => if n % 16 ≠ 0 then none else some (n / 1024 % 16)
def hasT (kind : Nat) : Bool := kind == 3 || kind == 5 || kind == 6
/-- A packet's triplets. -/
def tripsOf (d : List UInt8) : List Tr := (numsN d 13).map fun n : Nat => trOf (n : Int)
theorem num24_lt {d : List UInt8} {k n : Nat} (h : num24 d k = some n) : n < 2 ^ 18 := get24_lt h
theorem num24_lt' (d : List UInt8) (k : Nat) : (num24 d k).getD 0 < 2 ^ 18 := by
  cases h : num24 d k with
  | none => decide
  | some n => exact num24_lt h
theorem tripsOf_length (d : List UInt8) : (tripsOf d).length = 13 := by simp [tripsOf, numsN_length]
theorem numsN_get (d : List UInt8) {n i : Nat} (h : i < n) : (numsN d n)[i]? = some ((num24 d i).getD 0) := by simp [numsN, h]
theorem numsB_get (d : List UInt8) {n i : Nat} (h : i < n) : (numsB d n)[i]? = some (num24 d i).isSome := by simp [numsB, h]
theorem bools_get {l : List Bool} {i : Nat} {b : Bool} (h : l[i]? = some b) : (bools l)[i]? = some (.bool b) := by simp [bools, h]
end Go.Cf
namespace Go.Proofs
open Go.Cf
set_option maxRecDepth 10000

theorem region_does (kd : Pk) (p : Option Addr) (c m : Nat) (w : World) (hm : kd.data.length = m) (hs : Sl w [] p m 1 (bys kd.data)) :
    Does Tryz.prog 60 [.agg (pkC kd.mag kd.row kd.kind kd.code (.slice p m c)).toArray] w [] (fun v L => v = .tuple #[.int .i64 ((regionM kd).getD 0), .bool (regionM kd).isSome] ∧ L = []) := by
  refine does_of Tryz.func60 rfl rfl ?_
  repeat (first | refine e_ (f_bx fun b1 => ?_) | refine r_seq ?_ | refine r_nil ?_ | refine r_region ?_ | refine r_skip ?_ | refine r_block ?_ | refine r_inBlock ?_ | refine x_ ?_ | refine w_ v_p ?_ | refine w_ v_cv ?_ | refine w_ v_and ?_ | refine w_ v_or ?_ | refine w_ v_f ?_ | refine w_ v_b ?_ | refine w_ v_r ?_ | refine w_ v_i ?_ | refine w_ v_a ?_ | refine w_ v_l ?_ | refine w_ v_la ?_ | refine w_ v_ls ?_ | refine w_ v_lr ?_ | refine w_ v_ln ?_ | refine w_ v_bd ?_ | refine w_ v_ba ?_ | refine w_ v_mf ?_ | refine w_ v_sap ?_ | refine w_ v_pkf ?_ | refine w_ v_pkt ?_ | refine w_ v_nl ?_ | refine w_ v_nn ?_ | refine e_ (f_st ?_) | refine e_ (f_al fun _ => ?_) | refine e_ (f_bx fun _ => ?_))
  refine c_ (fun h => ?_) (fun h => ?_)
  · simp only [Bool.or_eq_true, Bool.and_eq_true, bne_iff_ne, ne_eq] at h
    have hr : regionM kd = none := by rw [regionM, if_pos (by omega)]
    repeat (first | refine r_seq ?_ | refine r_nil ?_ | refine r_region ?_ | refine r_skip ?_ | refine r_block ?_ | refine r_inBlock ?_ | refine x_ ?_ | refine w_ v_p ?_ | refine w_ v_cv ?_ | refine w_ v_and ?_ | refine w_ v_or ?_ | refine w_ v_f ?_ | refine w_ v_b ?_ | refine w_ v_r ?_ | refine w_ v_i ?_ | refine w_ v_a ?_ | refine w_ v_l ?_ | refine w_ v_la ?_ | refine w_ v_ls ?_ | refine w_ v_lr ?_ | refine w_ v_ln ?_ | refine w_ v_bd ?_ | refine w_ v_ba ?_ | refine w_ v_mf ?_ | refine w_ v_sap ?_ | refine w_ v_pkf ?_ | refine w_ v_pkt ?_ | refine w_ v_nl ?_ | refine w_ v_nn ?_ | refine e_ (f_st ?_) | refine e_ (f_al fun _ => ?_) | refine e_ (f_bx fun _ => ?_))
    refine t_ rfl (.tmp rfl (.tmp rfl .nil)) (List.nil_sublist _) ⟨by rw [hr]; rfl, rfl⟩
  · simp only [Bool.or_eq_false_iff, Bool.and_eq_false_iff, bne_eq_false_iff_eq] at h
    have h' : ¬ ((kd.kind ≠ 5 ∧ kd.kind ≠ 6) ∨ (kd.code ≠ 0 ∧ kd.code ≠ 4)) := by omega
    repeat (first | refine r_seq ?_ | refine r_nil ?_ | refine r_region ?_ | refine r_skip ?_ | refine r_block ?_ | refine r_inBlock ?_ | refine x_ ?_ | refine w_ v_p ?_ | refine w_ v_cv ?_ | refine w_ v_and ?_ | refine w_ v_or ?_ | refine w_ v_f ?_ | refine w_ v_b ?_ | refine w_ v_r ?_ | refine w_ v_i ?_ | refine w_ v_a ?_ | refine w_ v_l ?_ | refine w_ v_la ?_ | refine w_ v_ls ?_ | refine w_ v_lr ?_ | refine w_ v_ln ?_ | refine w_ v_bd ?_ | refine w_ v_ba ?_ | refine w_ v_mf ?_ | refine w_ v_sap ?_ | refine w_ v_pkf ?_ | refine w_ v_pkt ?_ | refine w_ v_nl ?_ | refine w_ v_nn ?_ | refine e_ (f_st ?_) | refine e_ (f_al fun _ => ?_) | refine e_ (f_bx fun _ => ?_))
    refine e_ (f_c (fun w hw => numbers_does kd p c m w hm (hs.now hw)) fun v L' h => ?_)
    obtain ⟨p1, c1, p2, c2, rfl, rfl⟩ := h
    have hl1 : (bools (numsB kd.data 13))[(0 : Int).toNat * 1]? = some (.bool (num24 kd.data 0).isSome) := bools_get (numsB_get _ (by decide))
    have hl2 : (nums (numsN kd.data 13))[(0 : Int).toNat * 1]? = some (.int .i64 ((num24 kd.data 0).getD 0 : Nat)) := nums_get (numsN_get _ (by decide))
    have hlt := num24_lt' kd.data 0
    have e1 : bw .and .i64 (((num24 kd.data 0).getD 0 : Nat) : Int) 15 = (((num24 kd.data 0).getD 0 % 16 : Nat) : Int) := an _ 4 (by omega) (by omega)
    have s1 : (((num24 kd.data 0).getD 0 : Nat) : Int) / 2 ^ Int.toNat 10 = (((num24 kd.data 0).getD 0 / 1024 : Nat) : Int) := shr_nat _ 10
    have e2 : bw .and .i64 (((num24 kd.data 0).getD 0 / 1024 : Nat) : Int) 15 = (((num24 kd.data 0).getD 0 / 1024 % 16 : Nat) : Int) := an _ 4 (by omega) (by omega)
    rw [← s1] at e2
    repeat (first | refine w_ (v_lr (hv := hl1)) ?_ | refine w_ (v_lr (hv := hl2)) ?_ | refine r_seq ?_ | refine r_nil ?_ | refine r_region ?_ | refine r_skip ?_ | refine r_block ?_ | refine r_inBlock ?_ | refine x_ ?_ | refine w_ v_p ?_ | refine w_ v_cv ?_ | refine w_ v_and ?_ | refine w_ v_or ?_ | refine w_ v_f ?_ | refine w_ v_b ?_ | refine w_ v_r ?_ | refine w_ v_i ?_ | refine w_ v_a ?_ | refine w_ v_l ?_ | refine w_ v_la ?_ | refine w_ v_ls ?_ | refine w_ v_lr ?_ | refine w_ v_ln ?_ | refine w_ v_bd ?_ | refine w_ v_ba ?_ | refine w_ v_mf ?_ | refine w_ v_sap ?_ | refine w_ v_pkf ?_ | refine w_ v_pkt ?_ | refine w_ v_nl ?_ | refine w_ v_nn ?_ | refine e_ (f_st ?_) | refine e_ (f_al fun _ => ?_) | refine e_ (f_bx fun _ => ?_))
    have hb : (bw .and .i64 (((num24 kd.data 0).getD 0 : Nat) : Int) 15 != 0) = decide ((num24 kd.data 0).getD 0 % 16 ≠ 0) := by
      rw [e1, Bool.eq_iff_iff]; simp only [bne_iff_ne, ne_eq, decide_eq_true_eq]; omega
    refine r_as 39 (v' := .bool (!(num24 kd.data 0).isSome || decide ((num24 kd.data 0).getD 0 % 16 ≠ 0))) (congrArg (fun x => Value.bool (!(num24 kd.data 0).isSome || x)) hb) ?_
    refine c_ (fun h => ?_) (fun h => ?_)
    · have hr : regionM kd = none := by
        rw [regionM, if_neg h']
        cases hn : num24 kd.data 0 with
        | none => rfl
        | some n =>
          rw [hn] at h
          simp only [Option.isSome_some, Bool.not_true, Bool.false_or, Option.getD_some, decide_eq_true_eq] at h
          simp only [if_pos h]
      repeat (first | refine r_seq ?_ | refine r_nil ?_ | refine r_region ?_ | refine r_skip ?_ | refine r_block ?_ | refine r_inBlock ?_ | refine x_ ?_ | refine w_ v_p ?_ | refine w_ v_cv ?_ | refine w_ v_and ?_ | refine w_ v_or ?_ | refine w_ v_f ?_ | refine w_ v_b ?_ | refine w_ v_r ?_ | refine w_ v_i ?_ | refine w_ v_a ?_ | refine w_ v_l ?_ | refine w_ v_la ?_ | refine w_ v_ls ?_ | refine w_ v_lr ?_ | refine w_ v_ln ?_ | refine w_ v_bd ?_ | refine w_ v_ba ?_ | refine w_ v_mf ?_ | refine w_ v_sap ?_ | refine w_ v_pkf ?_ | refine w_ v_pkt ?_ | refine w_ v_nl ?_ | refine w_ v_nn ?_ | refine e_ (f_st ?_) | refine e_ (f_al fun _ => ?_) | refine e_ (f_bx fun _ => ?_))
      refine t_ rfl (.tmp rfl (.tmp rfl .nil)) (List.nil_sublist _) ⟨by rw [hr]; rfl, rfl⟩
    · have hr : regionM kd = some ((num24 kd.data 0).getD 0 / 1024 % 16) := by
        rw [regionM, if_neg h']
        cases hn : num24 kd.data 0 with
        | none => rw [hn] at h; simp at h
        | some n =>
          rw [hn] at h
          simp only [Option.isSome_some, Bool.not_true, Bool.false_or, Option.getD_some, decide_eq_false_iff_not] at h
          simp only [if_neg h, Option.getD_some]
      repeat (first | refine w_ (v_lr (hv := hl2)) ?_ | refine r_seq ?_ | refine r_nil ?_ | refine r_region ?_ | refine r_skip ?_ | refine r_block ?_ | refine r_inBlock ?_ | refine x_ ?_ | refine w_ v_p ?_ | refine w_ v_cv ?_ | refine w_ v_and ?_ | refine w_ v_or ?_ | refine w_ v_f ?_ | refine w_ v_b ?_ | refine w_ v_r ?_ | refine w_ v_i ?_ | refine w_ v_a ?_ | refine w_ v_l ?_ | refine w_ v_la ?_ | refine w_ v_ls ?_ | refine w_ v_lr ?_ | refine w_ v_ln ?_ | refine w_ v_bd ?_ | refine w_ v_ba ?_ | refine w_ v_mf ?_ | refine w_ v_sap ?_ | refine w_ v_pkf ?_ | refine w_ v_pkt ?_ | refine w_ v_nl ?_ | refine w_ v_nn ?_ | refine e_ (f_st ?_) | refine e_ (f_al fun _ => ?_) | refine e_ (f_bx fun _ => ?_))
      refine t_ rfl (.tmp rfl (.tmp rfl .nil)) (List.nil_sublist _) ⟨?_, rfl⟩
      rw [hr]
      exact congrArg (fun z => Value.tuple #[.int .i64 z, .bool true]) e2

theorem has_does (k : Nat) (w : World) : Does Tryz.prog 231 [.int .i64 k] w [] (fun v L => v = .bool (hasT k) ∧ L = []) := by
  refine does_of Tryz.func231 rfl rfl ?_
  repeat (first | refine r_seq ?_ | refine r_nil ?_ | refine r_region ?_ | refine r_skip ?_ | refine r_block ?_ | refine r_inBlock ?_ | refine x_ ?_ | refine w_ v_p ?_ | refine w_ v_cv ?_ | refine w_ v_and ?_ | refine w_ v_or ?_ | refine w_ v_f ?_ | refine w_ v_b ?_ | refine w_ v_r ?_ | refine w_ v_i ?_ | refine w_ v_a ?_ | refine w_ v_l ?_ | refine w_ v_la ?_ | refine w_ v_ls ?_ | refine w_ v_lr ?_ | refine w_ v_ln ?_ | refine w_ v_bd ?_ | refine w_ v_ba ?_ | refine w_ v_mf ?_ | refine w_ v_sap ?_ | refine w_ v_pkf ?_ | refine w_ v_pkt ?_ | refine w_ v_nl ?_ | refine w_ v_nn ?_ | refine e_ (f_st ?_) | refine e_ (f_al fun _ => ?_) | refine e_ (f_bx fun _ => ?_))
  refine t_ rfl (.tmp rfl .nil) (List.nil_sublist _) ⟨?_, rfl⟩
  show Value.bool ((((k : Int) == 3) || ((k : Int) == 5)) || ((k : Int) == 6)) = _
  rw [hasT]; congr 1
  rw [Bool.eq_iff_iff]; simp only [Bool.or_eq_true, beq_iff_eq]; omega

theorem trOf2_does (z : Int) (w : World) : Does Tryz.prog 232 [.int .i64 z] w [] (fun v L => v = .agg (trC (trOf z)).toArray ∧ L = []) := by
  refine does_of Tryz.func232 rfl rfl ?_
  have e0 : bw .and .i64 z 63 = ((z % 64).toNat : Int) := by
    have := anz z 6 (by omega)
    rw [Int.toNat_of_nonneg (by omega)]; exact this
  have e1 : bw .and .i64 (z / 2 ^ Int.toNat 6) 31 = ((z / 64 % 32).toNat : Int) := by
    have := anz (z / 64) 5 (by omega)
    rw [Int.toNat_of_nonneg (by omega)]; exact this
  have e2 : bw .and .i64 (z / 2 ^ Int.toNat 11) 127 = ((z / 2048 % 128).toNat : Int) := by
    have := anz (z / 2048) 7 (by omega)
    rw [Int.toNat_of_nonneg (by omega)]; exact this
  repeat (first | refine r_seq ?_ | refine r_nil ?_ | refine r_region ?_ | refine r_skip ?_ | refine r_block ?_ | refine r_inBlock ?_ | refine x_ ?_ | refine w_ v_p ?_ | refine w_ v_cv ?_ | refine w_ v_and ?_ | refine w_ v_or ?_ | refine w_ v_f ?_ | refine w_ v_b ?_ | refine w_ v_r ?_ | refine w_ v_i ?_ | refine w_ v_a ?_ | refine w_ v_l ?_ | refine w_ v_la ?_ | refine w_ v_ls ?_ | refine w_ v_lr ?_ | refine w_ v_ln ?_ | refine w_ v_bd ?_ | refine w_ v_ba ?_ | refine w_ v_mf ?_ | refine w_ v_sap ?_ | refine w_ v_pkf ?_ | refine w_ v_pkt ?_ | refine w_ v_nl ?_ | refine w_ v_nn ?_ | refine e_ (f_st ?_) | refine e_ (f_al fun _ => ?_) | refine e_ (f_bx fun _ => ?_))
  refine t2 (List.nil_sublist _) ⟨?_, rfl⟩
  show Value.agg #[.int .i64 _, .int .i64 _, .int .i64 _] = _
  rw [trOf, trC, ← e0, ← e1, ← e2]

/-- What 'triplet.Read' hands back. -/
def TripR (E : Nat → Value) (k : Pk) (v : Value) (L : Hp) : Prop :=
  if hasT k.kind then ∃ p c q e, v = .tuple #[.slice p 13 c, .slice q 13 e, .nilIface] ∧ L = [.row p 13 c (trsC (tripsOf k.data)) 143 3, .row q 13 e (bools (numsB k.data 13)) 4 1]
  else v = .tuple #[.slice none 0 0, .slice none 0 0, E 3] ∧ L = []

theorem tripRead_does (E : Nat → Value) (kd : Pk) (p : Option Addr) (c m : Nat) (w : World) (hG : Glob w [] E) (hm : kd.data.length = m) (hs : Sl w [] p m 1 (bys kd.data)) :
    Does Tryz.prog 194 [.agg (pkC kd.mag kd.row kd.kind kd.code (.slice p m c)).toArray] w [] (TripR E kd) := by
  refine does_of Tryz.func194 rfl rfl ?_
  repeat (first | refine e_ (f_bx fun b1 => ?_) | refine r_seq ?_ | refine r_nil ?_ | refine r_region ?_ | refine r_skip ?_ | refine r_block ?_ | refine r_inBlock ?_ | refine x_ ?_ | refine w_ v_p ?_ | refine w_ v_cv ?_ | refine w_ v_and ?_ | refine w_ v_or ?_ | refine w_ v_f ?_ | refine w_ v_b ?_ | refine w_ v_r ?_ | refine w_ v_i ?_ | refine w_ v_a ?_ | refine w_ v_l ?_ | refine w_ v_la ?_ | refine w_ v_ls ?_ | refine w_ v_lr ?_ | refine w_ v_ln ?_ | refine w_ v_bd ?_ | refine w_ v_ba ?_ | refine w_ v_mf ?_ | refine w_ v_sap ?_ | refine w_ v_pkf ?_ | refine w_ v_pkt ?_ | refine w_ v_nl ?_ | refine w_ v_nn ?_ | refine e_ (f_st ?_) | refine e_ (f_al fun _ => ?_) | refine e_ (f_bx fun _ => ?_))
  refine e_ (f_c (fun w hw => has_does kd.kind w) fun v L' h => ?_)
  obtain ⟨rfl, rfl⟩ := h
  repeat (first | refine r_seq ?_ | refine r_nil ?_ | refine r_region ?_ | refine r_skip ?_ | refine r_block ?_ | refine r_inBlock ?_ | refine x_ ?_ | refine w_ v_p ?_ | refine w_ v_cv ?_ | refine w_ v_and ?_ | refine w_ v_or ?_ | refine w_ v_f ?_ | refine w_ v_b ?_ | refine w_ v_r ?_ | refine w_ v_i ?_ | refine w_ v_a ?_ | refine w_ v_l ?_ | refine w_ v_la ?_ | refine w_ v_ls ?_ | refine w_ v_lr ?_ | refine w_ v_ln ?_ | refine w_ v_bd ?_ | refine w_ v_ba ?_ | refine w_ v_mf ?_ | refine w_ v_sap ?_ | refine w_ v_pkf ?_ | refine w_ v_pkt ?_ | refine w_ v_nl ?_ | refine w_ v_nn ?_ | refine e_ (f_st ?_) | refine e_ (f_al fun _ => ?_) | refine e_ (f_bx fun _ => ?_))
  refine c_ (fun hT => ?_) (fun hT => ?_)
  · refine r_seq ?_
    refine d_in [] [] ?_
    first | (refine dw 0 ?_; first | refine tw (v_l) ?_ | refine tw (v_la) ?_ | refine tw (v_ls) ?_ | refine tw (v_lr) ?_ | refine tw ((v_ge hG)) ?_)
    first | (refine dp 1 ?_; first | refine tp (fun _ => v_p) ?_)
    first | (refine dp 2 ?_; first | refine tp (fun _ => v_p) ?_)
    first | (refine dp 3 ?_; first | refine tp (fun _ => v_p) ?_)
    refine d_z ?_
    refine t2 (List.nil_sublist _) ?_
    rw [TripR, if_neg (by simpa using hT)]
    exact ⟨rfl, rfl⟩
  · repeat (first | refine r_seq ?_ | refine r_nil ?_ | refine r_region ?_ | refine r_skip ?_ | refine r_block ?_ | refine r_inBlock ?_ | refine x_ ?_ | refine w_ v_p ?_ | refine w_ v_cv ?_ | refine w_ v_and ?_ | refine w_ v_or ?_ | refine w_ v_f ?_ | refine w_ v_b ?_ | refine w_ v_r ?_ | refine w_ v_i ?_ | refine w_ v_a ?_ | refine w_ v_l ?_ | refine w_ v_la ?_ | refine w_ v_ls ?_ | refine w_ v_lr ?_ | refine w_ v_ln ?_ | refine w_ v_bd ?_ | refine w_ v_ba ?_ | refine w_ v_mf ?_ | refine w_ v_sap ?_ | refine w_ v_pkf ?_ | refine w_ v_pkt ?_ | refine w_ v_nl ?_ | refine w_ v_nn ?_ | refine e_ (f_st ?_) | refine e_ (f_al fun _ => ?_) | refine e_ (f_bx fun _ => ?_))
    refine e_ (f_c (fun w hw => numbers_does kd p c m w hm (hs.now hw)) fun v L' h => ?_)
    obtain ⟨p1, c1, p2, c2, rfl, rfl⟩ := h
    repeat (first | refine r_seq ?_ | refine r_nil ?_ | refine r_region ?_ | refine r_skip ?_ | refine r_block ?_ | refine r_inBlock ?_ | refine x_ ?_ | refine w_ v_p ?_ | refine w_ v_cv ?_ | refine w_ v_and ?_ | refine w_ v_or ?_ | refine w_ v_f ?_ | refine w_ v_b ?_ | refine w_ v_r ?_ | refine w_ v_i ?_ | refine w_ v_a ?_ | refine w_ v_l ?_ | refine w_ v_la ?_ | refine w_ v_ls ?_ | refine w_ v_lr ?_ | refine w_ v_ln ?_ | refine w_ v_bd ?_ | refine w_ v_ba ?_ | refine w_ v_mf ?_ | refine w_ v_sap ?_ | refine w_ v_pkf ?_ | refine w_ v_pkt ?_ | refine w_ v_nl ?_ | refine w_ v_nn ?_ | refine e_ (f_st ?_) | refine e_ (f_al fun _ => ?_) | refine e_ (f_bx fun _ => ?_))
    refine r_row (T := 143) (sz := 3) ?_
    have htl : ∀ k, k < 13 → (tripsOf kd.data).take (k + 1) = (tripsOf kd.data).take k ++ [trOf (((num24 kd.data k).getD 0 : Nat) : Int)] := fun k hk => take_snoc (by
      rw [tripsOf, List.getElem?_map, numsN_get _ hk]; rfl)
    refine r_loop (τ := Nat × Option Addr × Nat) (fun t => t.1 ≤ 13) (fun t => 13 - t.1)
      (fun t => [(7, .v (.slice t.2.1 t.1 t.2.2)), (22, .v (.int .i64 t.1)), (21, .v (.int .i64 13)), (20, .v (.slice p1 13 c1)), (6, .v (.slice p2 13 c2))])
      (fun t => [.row t.2.1 t.1 t.2.2 (trsC ((tripsOf kd.data).take t.1)) 143 3, .row p1 13 c1 (nums (numsN kd.data 13)) 3 1, .row p2 13 c2 (bools (numsB kd.data 13)) 4 1])
      (0, none, 0) (by omega) ⟨rfl, rfl, rfl, rfl, rfl, trivial⟩ (.cons_cons _ (.cons_cons _ (.cons_cons _ (List.nil_sublist _)))) ?_
    rintro ⟨k, p3, c3⟩ hk f
    dsimp only at hk ⊢
    repeat (first | refine r_seq ?_ | refine r_nil ?_ | refine r_region ?_ | refine r_skip ?_ | refine r_block ?_ | refine r_inBlock ?_ | refine x_ ?_ | refine w_ v_p ?_ | refine w_ v_cv ?_ | refine w_ v_and ?_ | refine w_ v_or ?_ | refine w_ v_f ?_ | refine w_ v_b ?_ | refine w_ v_r ?_ | refine w_ v_i ?_ | refine w_ v_a ?_ | refine w_ v_l ?_ | refine w_ v_la ?_ | refine w_ v_ls ?_ | refine w_ v_lr ?_ | refine w_ v_ln ?_ | refine w_ v_bd ?_ | refine w_ v_ba ?_ | refine w_ v_mf ?_ | refine w_ v_sap ?_ | refine w_ v_pkf ?_ | refine w_ v_pkt ?_ | refine w_ v_nl ?_ | refine w_ v_nn ?_ | refine e_ (f_st ?_) | refine e_ (f_al fun _ => ?_) | refine e_ (f_bx fun _ => ?_))
    refine c_ (fun h => ?_) (fun h => ?_)
    · simp only [decide_eq_true_eq] at h
      have hlt : k < 13 := by omega
      have hl2 : (nums (numsN kd.data 13))[((k : Nat) : Int).toNat * 1]? = some (.int .i64 ((num24 kd.data k).getD 0 : Nat)) := by simpa using nums_get (numsN_get _ hlt)
      repeat (first | refine w_ (v_lr (hv := hl2)) ?_ | refine r_seq ?_ | refine r_nil ?_ | refine r_region ?_ | refine r_skip ?_ | refine r_block ?_ | refine r_inBlock ?_ | refine x_ ?_ | refine w_ v_p ?_ | refine w_ v_cv ?_ | refine w_ v_and ?_ | refine w_ v_or ?_ | refine w_ v_f ?_ | refine w_ v_b ?_ | refine w_ v_r ?_ | refine w_ v_i ?_ | refine w_ v_a ?_ | refine w_ v_l ?_ | refine w_ v_la ?_ | refine w_ v_ls ?_ | refine w_ v_lr ?_ | refine w_ v_ln ?_ | refine w_ v_bd ?_ | refine w_ v_ba ?_ | refine w_ v_mf ?_ | refine w_ v_sap ?_ | refine w_ v_pkf ?_ | refine w_ v_pkt ?_ | refine w_ v_nl ?_ | refine w_ v_nn ?_ | refine e_ (f_st ?_) | refine e_ (f_al fun _ => ?_) | refine e_ (f_bx fun _ => ?_))
      refine e_ (f_c (fun w hw => trOf2_does (((num24 kd.data k).getD 0 : Nat) : Int) w) fun v L' h => ?_)
      obtain ⟨rfl, rfl⟩ := h
      refine e_ (f_bs (l := trsC [trOf (((num24 kd.data k).getD 0 : Nat) : Int)]) fun b29 => ?_)
      refine e_ (f_a (m := k) (m2 := 1) (fun w hw => sl_of_cells hw (.head _) rfl) (trsC_plain _) fun q3 c3 => ?_)
      rw [← trsC_append, ← htl k hlt]
      repeat (first | refine r_seq ?_ | refine r_nil ?_ | refine r_region ?_ | refine r_skip ?_ | refine r_block ?_ | refine r_inBlock ?_ | refine x_ ?_ | refine w_ v_p ?_ | refine w_ v_cv ?_ | refine w_ v_and ?_ | refine w_ v_or ?_ | refine w_ v_f ?_ | refine w_ v_b ?_ | refine w_ v_r ?_ | refine w_ v_i ?_ | refine w_ v_a ?_ | refine w_ v_l ?_ | refine w_ v_la ?_ | refine w_ v_ls ?_ | refine w_ v_lr ?_ | refine w_ v_ln ?_ | refine w_ v_bd ?_ | refine w_ v_ba ?_ | refine w_ v_mf ?_ | refine w_ v_sap ?_ | refine w_ v_pkf ?_ | refine w_ v_pkt ?_ | refine w_ v_nl ?_ | refine w_ v_nn ?_ | refine e_ (f_st ?_) | refine e_ (f_al fun _ => ?_) | refine e_ (f_bx fun _ => ?_))
      exact r_ord (r_again (k + 1, q3, c3) (by dsimp only; omega) (by dsimp only; omega) ⟨rfl, rfl, rfl, rfl, rfl, trivial⟩ (List.Sublist.refl _))
    · simp only [decide_eq_false_iff_not] at h
      have hk2 : k = 13 := by omega
      subst hk2
      repeat (first | refine r_seq ?_ | refine r_nil ?_ | refine r_region ?_ | refine r_skip ?_ | refine r_block ?_ | refine r_inBlock ?_ | refine x_ ?_ | refine w_ v_p ?_ | refine w_ v_cv ?_ | refine w_ v_and ?_ | refine w_ v_or ?_ | refine w_ v_f ?_ | refine w_ v_b ?_ | refine w_ v_r ?_ | refine w_ v_i ?_ | refine w_ v_a ?_ | refine w_ v_l ?_ | refine w_ v_la ?_ | refine w_ v_ls ?_ | refine w_ v_lr ?_ | refine w_ v_ln ?_ | refine w_ v_bd ?_ | refine w_ v_ba ?_ | refine w_ v_mf ?_ | refine w_ v_sap ?_ | refine w_ v_pkf ?_ | refine w_ v_pkt ?_ | refine w_ v_nl ?_ | refine w_ v_nn ?_ | refine e_ (f_st ?_) | refine e_ (f_al fun _ => ?_) | refine e_ (f_bx fun _ => ?_))
      refine r_ord (M := [.row p3 13 c3 (trsC ((tripsOf kd.data).take 13)) 143 3, .row p2 13 c2 (bools (numsB kd.data 13)) 4 1]) ?_
      rw [List.take_of_length_le (by rw [tripsOf_length]; omega)]
      refine t2 (List.Sublist.refl _) ?_
      rw [TripR, if_pos (by simpa using hT)]
      exact ⟨p3, c3, p2, c2, rfl, rfl⟩
end Go.Proofs

namespace Go.Cf
def magM (n : Nat) : Nat := if n % 8 = 0 then 8 else n % 8
def pl0 : Pl := ⟨0, 0, 0⟩
/-- A link of a packet. -/
def linkM (k : Pk) (i : Nat) : Pl := match hamOpen (partOf k.data (6 * i) 6) with
  | some [n0, n1, n2, n3, n4, n5] => ⟨magM (k.mag % 8 ^^^ (n3 / 8 + n5 / 4 * 2 ^ 1)), nibPage n0 n1, nibSub n2 n3 n4 n5⟩
  | _ => pl0
def lowL {α : Type} (z : α) (f : Nat → α) (i : Nat) : Nat → α := fun k => if k < i then f k else z
theorem lowL_succ {α : Type} (z : α) (f : Nat → α) (i : Nat) : updF (lowL z f i) i (f i) = lowL z f (i + 1) := by
  funext k
  simp only [updF, lowL]
  by_cases h : k = i
  · subst h; simp
  · by_cases h2 : k < i
    · simp [h, h2, show k < i + 1 from by omega]
    · simp [h, h2, show ¬ k < i + 1 from by omega]
theorem lowL_skip {α : Type} (z : α) (f : Nat → α) (i : Nat) (h : f i = z) : lowL z f (i + 1) = lowL z f i := by
  rw [← lowL_succ]
  funext k
  simp only [updF, lowL]
  by_cases h1 : k = i
  · subst h1; simp [h]
  · simp [h1]
theorem links_set (l : Nat → Pl) (p : Pl) {i off : Nat} (h : i < 6) (ho : off = i * 3) : splice (linksC l) off (plC p) = linksC (updF l i p) := by
  subst ho
  match i, h with
  | 0, _ => rfl
  | 1, _ => rfl
  | 2, _ => rfl
  | 3, _ => rfl
  | 4, _ => rfl
  | 5, _ => rfl
theorem links_get (l : Nat → Pl) {i off : Nat} (h : i < 6) (ho : off = i * 3) : sub (linksC l) off 3 = some (plC (l i)) := by
  subst ho
  match i, h with
  | 0, _ => rfl
  | 1, _ => rfl
  | 2, _ => rfl
  | 3, _ => rfl
  | 4, _ => rfl
  | 5, _ => rfl
theorem lowL_all {α : Type} (z : α) (f : Nat → α) {i k : Nat} (h : k < i) : lowL z f i k = f k := by simp [lowL, h]
theorem links_low (f : Nat → Pl) : linksC (lowL pl0 f 6) = linksC f := rfl
/-- The links of a packet, or the error's number. -/
def linksM (k : Pk) : Option (Nat → Pl) := if k.kind ≠ 4 ∨ k.code ≠ 0 then none else some (linkM k)
end Go.Cf
namespace Go.Proofs
open Go.Cf
set_option maxRecDepth 10000

theorem mag_does (n : Nat) (w : World) : Does Tryz.prog 127 [.int .i64 n] w [] (fun v L => v = .int .i64 (magM n) ∧ L = []) := by
  refine does_of Tryz.func127 rfl rfl ?_
  repeat (first | refine r_seq ?_ | refine r_nil ?_ | refine r_region ?_ | refine r_skip ?_ | refine r_block ?_ | refine r_inBlock ?_ | refine x_ ?_ | refine w_ v_p ?_ | refine w_ v_cv ?_ | refine w_ v_and ?_ | refine w_ v_or ?_ | refine w_ v_f ?_ | refine w_ v_b ?_ | refine w_ v_r ?_ | refine w_ v_i ?_ | refine w_ v_a ?_ | refine w_ v_l ?_ | refine w_ v_la ?_ | refine w_ v_ls ?_ | refine w_ v_lr ?_ | refine w_ v_ln ?_ | refine w_ v_bd ?_ | refine w_ v_ba ?_ | refine w_ v_mf ?_ | refine w_ v_sap ?_ | refine w_ v_pkf ?_ | refine w_ v_pkt ?_ | refine w_ v_nl ?_ | refine w_ v_nn ?_ | refine e_ (f_st ?_) | refine e_ (f_al fun _ => ?_) | refine e_ (f_bx fun _ => ?_))
  refine c_ (fun h => ?_) (fun h => ?_)
  · simp only [bne_iff_ne, ne_eq] at h
    repeat (first | refine r_seq ?_ | refine r_nil ?_ | refine r_region ?_ | refine r_skip ?_ | refine r_block ?_ | refine r_inBlock ?_ | refine x_ ?_ | refine w_ v_p ?_ | refine w_ v_cv ?_ | refine w_ v_and ?_ | refine w_ v_or ?_ | refine w_ v_f ?_ | refine w_ v_b ?_ | refine w_ v_r ?_ | refine w_ v_i ?_ | refine w_ v_a ?_ | refine w_ v_l ?_ | refine w_ v_la ?_ | refine w_ v_ls ?_ | refine w_ v_lr ?_ | refine w_ v_ln ?_ | refine w_ v_bd ?_ | refine w_ v_ba ?_ | refine w_ v_mf ?_ | refine w_ v_sap ?_ | refine w_ v_pkf ?_ | refine w_ v_pkt ?_ | refine w_ v_nl ?_ | refine w_ v_nn ?_ | refine e_ (f_st ?_) | refine e_ (f_al fun _ => ?_) | refine e_ (f_bx fun _ => ?_))
    refine t_ rfl (.tmp rfl .nil) (List.nil_sublist _) ⟨?_, rfl⟩
    rw [magM, if_neg (by omega)]; rfl
  · simp only [bne_eq_false_iff_eq] at h
    repeat (first | refine r_seq ?_ | refine r_nil ?_ | refine r_region ?_ | refine r_skip ?_ | refine r_block ?_ | refine r_inBlock ?_ | refine x_ ?_ | refine w_ v_p ?_ | refine w_ v_cv ?_ | refine w_ v_and ?_ | refine w_ v_or ?_ | refine w_ v_f ?_ | refine w_ v_b ?_ | refine w_ v_r ?_ | refine w_ v_i ?_ | refine w_ v_a ?_ | refine w_ v_l ?_ | refine w_ v_la ?_ | refine w_ v_ls ?_ | refine w_ v_lr ?_ | refine w_ v_ln ?_ | refine w_ v_bd ?_ | refine w_ v_ba ?_ | refine w_ v_mf ?_ | refine w_ v_sap ?_ | refine w_ v_pkf ?_ | refine w_ v_pkt ?_ | refine w_ v_nl ?_ | refine w_ v_nn ?_ | refine e_ (f_st ?_) | refine e_ (f_al fun _ => ?_) | refine e_ (f_bx fun _ => ?_))
    refine t_ rfl (.tmp rfl .nil) (List.nil_sublist _) ⟨?_, rfl⟩
    rw [magM, if_pos (by omega)]; rfl

/-- What 'links.Read' hands back. -/
def LinkR (E : Nat → Value) (k : Pk) (v : Value) (L : Hp) : Prop := match linksM k with
  | none => v = .tuple #[.agg (linksC fun _ => pl0).toArray, E 3] ∧ L = []
  | some l => v = .tuple #[.agg (linksC l).toArray, .nilIface] ∧ L = []

theorem linksRead_does (E : Nat → Value) (kd : Pk) (p : Option Addr) (c m : Nat) (w : World) (hG : Glob w [] E) (hmg : kd.mag < 2 ^ 32) (hm : kd.data.length = m) (hs : Sl w [] p m 1 (bys kd.data)) :
    Does Tryz.prog 196 [.agg (pkC kd.mag kd.row kd.kind kd.code (.slice p m c)).toArray] w [] (LinkR E kd) := by
  refine does_of Tryz.func196 rfl rfl ?_
  repeat (first | refine e_ (f_bx fun b1 => ?_) | refine e_ (f_al fun b2 => ?_) | refine r_seq ?_ | refine r_nil ?_ | refine r_region ?_ | refine r_skip ?_ | refine r_block ?_ | refine r_inBlock ?_ | refine x_ ?_ | refine w_ v_p ?_ | refine w_ v_cv ?_ | refine w_ v_and ?_ | refine w_ v_or ?_ | refine w_ v_f ?_ | refine w_ v_b ?_ | refine w_ v_r ?_ | refine w_ v_i ?_ | refine w_ v_a ?_ | refine w_ v_l ?_ | refine w_ v_la ?_ | refine w_ v_ls ?_ | refine w_ v_lr ?_ | refine w_ v_ln ?_ | refine w_ v_bd ?_ | refine w_ v_ba ?_ | refine w_ v_mf ?_ | refine w_ v_sap ?_ | refine w_ v_pkf ?_ | refine w_ v_pkt ?_ | refine w_ v_nl ?_ | refine w_ v_nn ?_ | refine e_ (f_st ?_) | refine e_ (f_al fun _ => ?_) | refine e_ (f_bx fun _ => ?_))
  rename_i b2'
  refine c_ (fun h => ?_) (fun h => ?_)
  · simp only [Bool.or_eq_true, bne_iff_ne, ne_eq] at h
    have hl : linksM kd = none := by rw [linksM, if_pos (by omega)]
    refine r_seq ?_
    refine d_in ([.cells b2 (linksC fun _ => pl0) 53]) [] ?_
    first | (refine dw 0 ?_; first | refine tw (v_l) ?_ | refine tw (v_la) ?_ | refine tw (v_ls) ?_ | refine tw (v_lr) ?_ | refine tw ((v_ge hG)) ?_)
    first | (refine dw 1 ?_; first | refine tw (v_l) ?_ | refine tw (v_la) ?_ | refine tw (v_ls) ?_ | refine tw (v_lr) ?_ | refine tw ((v_ge hG)) ?_)
    refine d_e 2 ?_
    first | refine f_st ⟨?_, ?_⟩
    · first | exact st_n | exact st_l rfl | exact st_s (by repeat (first | exact List.Sublist.refl _ | exact List.nil_sublist _ | exact List.sublist_append_right _ _ | apply List.Sublist.cons_cons | apply List.Sublist.cons))
    first | (refine dp 3 ?_; first | refine tp (fun _ => v_p) ?_)
    refine d_z ?_
    refine t2 (List.nil_sublist _) ?_
    simp only [LinkR, hl]
    exact ⟨rfl, trivial⟩
  · simp only [Bool.or_eq_false_iff, bne_eq_false_iff_eq] at h
    have hl : linksM kd = some (linkM kd) := by rw [linksM, if_neg (by omega)]
    repeat (first | refine r_seq ?_ | refine r_nil ?_ | refine r_region ?_ | refine r_skip ?_ | refine r_block ?_ | refine r_inBlock ?_ | refine x_ ?_ | refine w_ v_p ?_ | refine w_ v_cv ?_ | refine w_ v_and ?_ | refine w_ v_or ?_ | refine w_ v_f ?_ | refine w_ v_b ?_ | refine w_ v_r ?_ | refine w_ v_i ?_ | refine w_ v_a ?_ | refine w_ v_l ?_ | refine w_ v_la ?_ | refine w_ v_ls ?_ | refine w_ v_lr ?_ | refine w_ v_ln ?_ | refine w_ v_bd ?_ | refine w_ v_ba ?_ | refine w_ v_mf ?_ | refine w_ v_sap ?_ | refine w_ v_pkf ?_ | refine w_ v_pkt ?_ | refine w_ v_nl ?_ | refine w_ v_nn ?_ | refine e_ (f_st ?_) | refine e_ (f_al fun _ => ?_) | refine e_ (f_bx fun _ => ?_))
    refine r_loop (τ := Nat) (fun i => i ≤ 6) (fun i => 6 - i) (fun i => [(1, .v (.pointer (some ⟨b1, 0, none⟩))), (2, .v (.pointer (some ⟨b2', 0, none⟩))), (4, .v (.pointer (some ⟨b2, 0, none⟩))), (21, .v (.int .i64 i))])
      (fun i => [.cells b2 (linksC (lowL pl0 (linkM kd) i)) 53, .cells b2' (linksC fun _ => pl0) 53, .cells b1 (pkC kd.mag kd.row kd.kind kd.code (.slice p m c)) 130]) 0 (by omega) ⟨rfl, rfl, rfl, rfl, trivial⟩ (List.Sublist.refl _) ?_
    rintro i hi f
    repeat (first | refine r_seq ?_ | refine r_nil ?_ | refine r_region ?_ | refine r_skip ?_ | refine r_block ?_ | refine r_inBlock ?_ | refine x_ ?_ | refine w_ v_p ?_ | refine w_ v_cv ?_ | refine w_ v_and ?_ | refine w_ v_or ?_ | refine w_ v_f ?_ | refine w_ v_b ?_ | refine w_ v_r ?_ | refine w_ v_i ?_ | refine w_ v_a ?_ | refine w_ v_l ?_ | refine w_ v_la ?_ | refine w_ v_ls ?_ | refine w_ v_lr ?_ | refine w_ v_ln ?_ | refine w_ v_bd ?_ | refine w_ v_ba ?_ | refine w_ v_mf ?_ | refine w_ v_sap ?_ | refine w_ v_pkf ?_ | refine w_ v_pkt ?_ | refine w_ v_nl ?_ | refine w_ v_nn ?_ | refine e_ (f_st ?_) | refine e_ (f_al fun _ => ?_) | refine e_ (f_bx fun _ => ?_))
    refine c_ (fun h => ?_) (fun h => ?_)
    · simp only [decide_eq_true_eq] at h
      have hlt : i < 6 := by omega
      repeat (first | refine r_seq ?_ | refine r_nil ?_ | refine r_region ?_ | refine r_skip ?_ | refine r_block ?_ | refine r_inBlock ?_ | refine x_ ?_ | refine w_ v_p ?_ | refine w_ v_cv ?_ | refine w_ v_and ?_ | refine w_ v_or ?_ | refine w_ v_f ?_ | refine w_ v_b ?_ | refine w_ v_r ?_ | refine w_ v_i ?_ | refine w_ v_a ?_ | refine w_ v_l ?_ | refine w_ v_la ?_ | refine w_ v_ls ?_ | refine w_ v_lr ?_ | refine w_ v_ln ?_ | refine w_ v_bd ?_ | refine w_ v_ba ?_ | refine w_ v_mf ?_ | refine w_ v_sap ?_ | refine w_ v_pkf ?_ | refine w_ v_pkt ?_ | refine w_ v_nl ?_ | refine w_ v_nn ?_ | refine e_ (f_st ?_) | refine e_ (f_al fun _ => ?_) | refine e_ (f_bx fun _ => ?_))
      refine e_ (f_c (fun w hw => part_does kd.mag kd.row kd.kind kd.code kd.data p c (6 * i) 6 m w hm (by omega) (by omega) (hs.now hw)) fun v L' h => ?_)
      obtain ⟨q, rfl, rfl⟩ := h
      refine e_ (f_c (fun w hw => open_does' (l := partOf kd.data (6 * i) 6) (partOf_length _ _ _) w (by rw [partOf_length]; omega) (sl_of_row hw (.head _))) fun v L' h => ?_)
      simp only [OpenR, partOf_length] at h
      cases ho : hamOpen (partOf kd.data (6 * i) 6) with
      | none =>
        rw [ho] at h
        obtain ⟨rfl, rfl⟩ := h
        have hk : linkM kd i = pl0 := by rw [linkM, ho]
        repeat (first | refine r_seq ?_ | refine r_nil ?_ | refine r_region ?_ | refine r_skip ?_ | refine r_block ?_ | refine r_inBlock ?_ | refine x_ ?_ | refine w_ v_p ?_ | refine w_ v_cv ?_ | refine w_ v_and ?_ | refine w_ v_or ?_ | refine w_ v_f ?_ | refine w_ v_b ?_ | refine w_ v_r ?_ | refine w_ v_i ?_ | refine w_ v_a ?_ | refine w_ v_l ?_ | refine w_ v_la ?_ | refine w_ v_ls ?_ | refine w_ v_lr ?_ | refine w_ v_ln ?_ | refine w_ v_bd ?_ | refine w_ v_ba ?_ | refine w_ v_mf ?_ | refine w_ v_sap ?_ | refine w_ v_pkf ?_ | refine w_ v_pkt ?_ | refine w_ v_nl ?_ | refine w_ v_nn ?_ | refine e_ (f_st ?_) | refine e_ (f_al fun _ => ?_) | refine e_ (f_bx fun _ => ?_))
        refine c_ (t := true) (fun _ => ?_) (fun h => by cases h)
        repeat (first | refine r_seq ?_ | refine r_nil ?_ | refine r_region ?_ | refine r_skip ?_ | refine r_block ?_ | refine r_inBlock ?_ | refine x_ ?_ | refine w_ v_p ?_ | refine w_ v_cv ?_ | refine w_ v_and ?_ | refine w_ v_or ?_ | refine w_ v_f ?_ | refine w_ v_b ?_ | refine w_ v_r ?_ | refine w_ v_i ?_ | refine w_ v_a ?_ | refine w_ v_l ?_ | refine w_ v_la ?_ | refine w_ v_ls ?_ | refine w_ v_lr ?_ | refine w_ v_ln ?_ | refine w_ v_bd ?_ | refine w_ v_ba ?_ | refine w_ v_mf ?_ | refine w_ v_sap ?_ | refine w_ v_pkf ?_ | refine w_ v_pkt ?_ | refine w_ v_nl ?_ | refine w_ v_nn ?_ | refine e_ (f_st ?_) | refine e_ (f_al fun _ => ?_) | refine e_ (f_bx fun _ => ?_))
        refine r_ord (M := [.cells b2 (linksC (lowL pl0 (linkM kd) i)) 53, .cells b2' (linksC fun _ => pl0) 53, .cells b1 (pkC kd.mag kd.row kd.kind kd.code (.slice p m c)) 130]) ?_
        rw [← lowL_skip pl0 (linkM kd) i hk]
        exact r_again (i + 1) (by omega) (by omega) ⟨rfl, rfl, rfl, rfl, trivial⟩ (List.Sublist.refl _)
      | some ns =>
        rw [ho] at h
        obtain ⟨q1, c1, rfl, rfl⟩ := h
        have hln := hamOpen_length ho
        have hlt6 := hamOpen_lt ho
        rw [partOf_length] at hln
        match ns, hln with
        | [n0, n1, n2, n3, n4, n5], _ =>
          have h0 : n0 < 16 := hlt6 _ (by simp)
          have h1' : n1 < 16 := hlt6 _ (by simp)
          have h2 : n2 < 16 := hlt6 _ (by simp)
          have h3 : n3 < 16 := hlt6 _ (by simp)
          have h4 : n4 < 16 := hlt6 _ (by simp)
          have h5 : n5 < 16 := hlt6 _ (by simp)
          have hk : linkM kd i = ⟨magM (kd.mag % 8 ^^^ (n3 / 8 + n5 / 4 * 2 ^ 1)), nibPage n0 n1, nibSub n2 n3 n4 n5⟩ := by rw [linkM, ho]
          have a1 : bw .and .i64 (kd.mag : Int) 7 = ((kd.mag % 8 : Nat) : Int) := an kd.mag 3 (by omega) (by omega)
          have o1 : bw .or .i64 ((n3 / 8 : Nat) : Int) (shl .i64 ((n5 / 4 : Nat) : Int) 1) = ((n3 / 8 + n5 / 4 * 2 ^ 1 : Nat) : Int) := os _ _ 1 (by omega) (by omega) (by omega)
          have x1 : bw .xor .i64 ((kd.mag % 8 : Nat) : Int) ((n3 / 8 + n5 / 4 * 2 ^ 1 : Nat) : Int) = ((kd.mag % 8 ^^^ (n3 / 8 + n5 / 4 * 2 ^ 1) : Nat) : Int) := bw_xor _ _ (by omega) (by omega)
          rw [← o1, ← a1] at x1
          repeat (first | refine r_seq ?_ | refine r_nil ?_ | refine r_region ?_ | refine r_skip ?_ | refine r_block ?_ | refine r_inBlock ?_ | refine x_ ?_ | refine w_ v_p ?_ | refine w_ v_cv ?_ | refine w_ v_and ?_ | refine w_ v_or ?_ | refine w_ v_f ?_ | refine w_ v_b ?_ | refine w_ v_r ?_ | refine w_ v_i ?_ | refine w_ v_a ?_ | refine w_ v_l ?_ | refine w_ v_la ?_ | refine w_ v_ls ?_ | refine w_ v_lr ?_ | refine w_ v_ln ?_ | refine w_ v_bd ?_ | refine w_ v_ba ?_ | refine w_ v_mf ?_ | refine w_ v_sap ?_ | refine w_ v_pkf ?_ | refine w_ v_pkt ?_ | refine w_ v_nl ?_ | refine w_ v_nn ?_ | refine e_ (f_st ?_) | refine e_ (f_al fun _ => ?_) | refine e_ (f_bx fun _ => ?_))
          refine c_ (t := false) (fun h => by cases h) (fun _ => ?_)
          repeat (first | refine r_seq ?_ | refine r_nil ?_ | refine r_region ?_ | refine r_skip ?_ | refine r_block ?_ | refine r_inBlock ?_ | refine x_ ?_ | refine w_ v_p ?_ | refine w_ v_cv ?_ | refine w_ v_and ?_ | refine w_ v_or ?_ | refine w_ v_f ?_ | refine w_ v_b ?_ | refine w_ v_r ?_ | refine w_ v_i ?_ | refine w_ v_a ?_ | refine w_ v_l ?_ | refine w_ v_la ?_ | refine w_ v_ls ?_ | refine w_ v_lr ?_ | refine w_ v_ln ?_ | refine w_ v_bd ?_ | refine w_ v_ba ?_ | refine w_ v_mf ?_ | refine w_ v_sap ?_ | refine w_ v_pkf ?_ | refine w_ v_pkt ?_ | refine w_ v_nl ?_ | refine w_ v_nn ?_ | refine e_ (f_st ?_) | refine e_ (f_al fun _ => ?_) | refine e_ (f_bx fun _ => ?_))
          refine e_ (f_c (fun w hw => of_does n0 n1 n2 n3 n4 n5 [] q1 c1 6 w rfl h0 h1' h2 h3 h4 h5 (sl_of_row hw (by repeat (first | exact List.Mem.head _ | apply List.Mem.tail)))) fun v L' h => ?_)
          obtain ⟨rfl, rfl⟩ := h
          repeat (first | refine e_ (f_al fun b8 => ?_) | refine r_seq ?_ | refine r_nil ?_ | refine r_region ?_ | refine r_skip ?_ | refine r_block ?_ | refine r_inBlock ?_ | refine x_ ?_ | refine w_ v_p ?_ | refine w_ v_cv ?_ | refine w_ v_and ?_ | refine w_ v_or ?_ | refine w_ v_f ?_ | refine w_ v_b ?_ | refine w_ v_r ?_ | refine w_ v_i ?_ | refine w_ v_a ?_ | refine w_ v_l ?_ | refine w_ v_la ?_ | refine w_ v_ls ?_ | refine w_ v_lr ?_ | refine w_ v_ln ?_ | refine w_ v_bd ?_ | refine w_ v_ba ?_ | refine w_ v_mf ?_ | refine w_ v_sap ?_ | refine w_ v_pkf ?_ | refine w_ v_pkt ?_ | refine w_ v_nl ?_ | refine w_ v_nn ?_ | refine e_ (f_st ?_) | refine e_ (f_al fun _ => ?_) | refine e_ (f_bx fun _ => ?_))
          refine r_as 47 (congrArg (Value.int .i64) x1) ?_
          refine e_ (f_c (fun w hw => mag_does _ w) fun v L' h => ?_)
          obtain ⟨rfl, rfl⟩ := h
          repeat (first | refine r_seq ?_ | refine r_nil ?_ | refine r_region ?_ | refine r_skip ?_ | refine r_block ?_ | refine r_inBlock ?_ | refine x_ ?_ | refine w_ v_p ?_ | refine w_ v_cv ?_ | refine w_ v_and ?_ | refine w_ v_or ?_ | refine w_ v_f ?_ | refine w_ v_b ?_ | refine w_ v_r ?_ | refine w_ v_i ?_ | refine w_ v_a ?_ | refine w_ v_l ?_ | refine w_ v_la ?_ | refine w_ v_ls ?_ | refine w_ v_lr ?_ | refine w_ v_ln ?_ | refine w_ v_bd ?_ | refine w_ v_ba ?_ | refine w_ v_mf ?_ | refine w_ v_sap ?_ | refine w_ v_pkf ?_ | refine w_ v_pkt ?_ | refine w_ v_nl ?_ | refine w_ v_nn ?_ | refine e_ (f_st ?_) | refine e_ (f_al fun _ => ?_) | refine e_ (f_bx fun _ => ?_))
          refine r_as 51 (v' := .agg (plC (linkM kd i)).toArray) (by rw [hk]; rfl) ?_
          refine e_ (f_st (hl := (links_set (lowL pl0 (linkM kd) i) (linkM kd i) hlt (by simp)).trans (by rw [lowL_succ])) (hr := Nat.ble_eq_true_of_le (by rw [linksC_length]; simp; omega)) ?_)
          repeat (first | refine r_seq ?_ | refine r_nil ?_ | refine r_region ?_ | refine r_skip ?_ | refine r_block ?_ | refine r_inBlock ?_ | refine x_ ?_ | refine w_ v_p ?_ | refine w_ v_cv ?_ | refine w_ v_and ?_ | refine w_ v_or ?_ | refine w_ v_f ?_ | refine w_ v_b ?_ | refine w_ v_r ?_ | refine w_ v_i ?_ | refine w_ v_a ?_ | refine w_ v_l ?_ | refine w_ v_la ?_ | refine w_ v_ls ?_ | refine w_ v_lr ?_ | refine w_ v_ln ?_ | refine w_ v_bd ?_ | refine w_ v_ba ?_ | refine w_ v_mf ?_ | refine w_ v_sap ?_ | refine w_ v_pkf ?_ | refine w_ v_pkt ?_ | refine w_ v_nl ?_ | refine w_ v_nn ?_ | refine e_ (f_st ?_) | refine e_ (f_al fun _ => ?_) | refine e_ (f_bx fun _ => ?_))
          exact r_ord (r_again (i + 1) (by omega) (by omega) ⟨rfl, rfl, rfl, rfl, trivial⟩ (List.Sublist.refl _))
    · simp only [decide_eq_false_iff_not] at h
      have hi2 : i = 6 := by omega
      subst hi2
      rw [links_low]
      repeat (first | refine w_ (v_la (hv := sub_all (linksC_length _))) ?_ | refine e_ (f_st (hl := splice_all (by rw [linksC_length, linksC_length])) (hc := linksC_length _) (hp := linksC_plain _) (hr := Nat.ble_eq_true_of_le (by rw [linksC_length]; omega)) ?_) | refine r_seq ?_ | refine r_nil ?_ | refine r_region ?_ | refine r_skip ?_ | refine r_block ?_ | refine r_inBlock ?_ | refine x_ ?_ | refine w_ v_p ?_ | refine w_ v_cv ?_ | refine w_ v_and ?_ | refine w_ v_or ?_ | refine w_ v_f ?_ | refine w_ v_b ?_ | refine w_ v_r ?_ | refine w_ v_i ?_ | refine w_ v_a ?_ | refine w_ v_l ?_ | refine w_ v_la ?_ | refine w_ v_ls ?_ | refine w_ v_lr ?_ | refine w_ v_ln ?_ | refine w_ v_bd ?_ | refine w_ v_ba ?_ | refine w_ v_mf ?_ | refine w_ v_sap ?_ | refine w_ v_pkf ?_ | refine w_ v_pkt ?_ | refine w_ v_nl ?_ | refine w_ v_nn ?_ | refine e_ (f_st ?_) | refine e_ (f_al fun _ => ?_) | refine e_ (f_bx fun _ => ?_))
      refine t2 (List.nil_sublist _) ?_ (.cella rfl (.tail _ (.head _)) (sub_all (linksC_length _)) (.tmp rfl .nil))
      simp only [LinkR, hl]
      exact ⟨rfl, trivial⟩
end Go.Proofs

namespace Go.Cf
section
variable {P : Program} {n : Nat} {f : Nat → Value} {σ : Bd} {dst : Option Tmp} {ty : TypeId} {pos : String} {after : Array Edge} {guard : Option (Nat × Bool)}
theorem foldl_push (l : List UInt8) : ∀ (s : ByteArray), (l.map fun b : UInt8 => (b.toNat : Int)).foldl (fun r n => r.push (UInt8.ofNat n.toNat)) s = ⟨s.data ++ l.toArray⟩ := by
  induction l with
  | nil => intro s; cases s; simp
  | cons b r ih =>
    intro s
    simp only [List.map_cons, List.foldl_cons]
    rw [ih]
    cases s with
    | mk d =>
      congr 1
      simp only [ByteArray.push, Int.toNat_natCast, UInt8.ofNat_toNat]
      apply Array.ext'
      simp
def str (l : List UInt8) : Value := .string ⟨l.toArray⟩
/-- Bytes as a string. -/
theorem v_bts {s : St} {all : List Oper} {T T' e : TypeId} [hT : TySlice P T e] [hE : TyInt P e .u8] [hS : TyStr P T'] {x : Operand} {p : Option Addr} {m c : Nat} {l : List UInt8} {gd : Option Bool} {d : Nat}
    (hs : ∀ W, s.holds W → Sl W [] p m 1 (bys l)) (hx : evo f σ x = some (.slice p m c) := by exact rfl) (hd : dst = some d := by exact rfl) (hn : Nat.ble (d + 1) n = true := by exact rfl) (hg : gdOf f σ all guard = some gd := by exact rfl) (hob : gob f σ (gdc gd) (tmpsOf [x]) := by first | exact trivial | exact ⟨id, trivial⟩) :
    Val P n f σ all s ⟨dst, .convert T T' x, ty, pos, after, guard⟩ d gd (str l) :=
  .of hd hn hg (fun W hW => by
    have hsl := hs W hW
    have hlen : l.length = m := by have := hsl.len; rw [bys_length] at this; omega
    have hb : (Conv.bytesToString (.slice p m c)).run P W = .ok (str l) W := by
      cases p with
      | none =>
        have hl0 : l = [] := by
          cases l with
          | nil => rfl
          | cons a r => simp at hlen; have := hsl.ptr (by omega); cases this
        subst hl0
        simp [Conv.bytesToString, str]; rfl
      | some a =>
        have hl : (loadCells a m).run P W = .ok ((l.map fun b : UInt8 => (b.toNat : Int)).map (Value.int .u8)).toArray W := by
          have := run_loadCells_list (P := P) W a (bys l) (fun j v hj => by
            have hm0 : 0 < m := by
              have := (List.getElem?_eq_some_iff.1 hj).1
              rw [bys_length] at this; omega
            rw [Option.some.inj (hsl.ptr hm0), add_none]
            exact (hsl.rd j v hj).2.2)
          rw [bys_length, hlen] at this
          rw [this]
          simp [bys]
        rw [run_bytesToString W a m c _ hl, foldl_push]
        simp [str]
    have key : ∀ ρ : Operand → Value, ρ x = .slice p m c → (execOp ρ ⟨dst, .convert T T' x, ty, pos, after, guard⟩).run P W = .ok (.value (str l)) W := fun ρ hρ => by
      simp [execOp, hρ, convert, underlying, hT.under, hS.under, hE.under, hb]
    exact key _ (ev_evo hx (.head _))) hob
end
end Go.Cf
namespace Go.Proofs
open Go.Cf
set_option maxRecDepth 10000

theorem tabR : ∀ m : Nat, m < 256 → (ByteArray.mk #[0, 128, 64, 192, 32, 160, 96, 224, 16, 144, 80, 208, 48, 176, 112, 240, 8, 136, 72, 200, 40, 168, 104, 232, 24, 152, 88, 216, 56, 184, 120, 248, 4, 132, 68, 196, 36, 164, 100, 228, 20, 148, 84, 212, 52, 180, 116, 244, 12, 140, 76, 204, 44, 172, 108, 236, 28, 156, 92, 220, 60, 188, 124, 252, 2, 130, 66, 194, 34, 162, 98, 226, 18, 146, 82, 210, 50, 178, 114, 242, 10, 138, 74, 202, 42, 170, 106, 234, 26, 154, 90, 218, 58, 186, 122, 250, 6, 134, 70, 198, 38, 166, 102, 230, 22, 150, 86, 214, 54, 182, 118, 246, 14, 142, 78, 206, 46, 174, 110, 238, 30, 158, 94, 222, 62, 190, 126, 254, 1, 129, 65, 193, 33, 161, 97, 225, 17, 145, 81, 209, 49, 177, 113, 241, 9, 137, 73, 201, 41, 169, 105, 233, 25, 153, 89, 217, 57, 185, 121, 249, 5, 133, 69, 197, 37, 165, 101, 229, 21, 149, 85, 213, 53, 181, 117, 245, 13, 141, 77, 205, 45, 173, 109, 237, 29, 157, 93, 221, 61, 189, 125, 253, 3, 131, 67, 195, 35, 163, 99, 227, 19, 147, 83, 211, 51, 179, 115, 243, 11, 139, 75, 203, 43, 171, 107, 235, 27, 155, 91, 219, 59, 187, 123, 251, 7, 135, 71, 199, 39, 167, 103, 231, 23, 151, 87, 215, 55, 183, 119, 247, 15, 143, 79, 207, 47, 175, 111, 239, 31, 159, 95, 223, 63, 191, 127, 255])[m]? = some (UInt8.ofNat (turnN m 8)) := by decide

theorem rev8_does (x : UInt8) (w : World) : Does Tryz.prog 191 [.int .u8 x.toNat] w [] (fun v L => v = .int .u8 (turnB x).toNat ∧ L = []) := by
  refine does_of Tryz.func191 rfl rfl ?_
  have hx := x.toNat_lt
  repeat (first | refine w_ (v_is (i := (x.toNat : Int)) (b := turnB x) ⟨by omega, tabR _ hx⟩) ?_ | refine r_seq ?_ | refine r_nil ?_ | refine r_region ?_ | refine r_skip ?_ | refine r_block ?_ | refine r_inBlock ?_ | refine x_ ?_ | refine w_ v_p ?_ | refine w_ v_cv ?_ | refine w_ v_and ?_ | refine w_ v_or ?_ | refine w_ v_f ?_ | refine w_ v_b ?_ | refine w_ v_r ?_ | refine w_ v_i ?_ | refine w_ v_a ?_ | refine w_ v_l ?_ | refine w_ v_la ?_ | refine w_ v_ls ?_ | refine w_ v_lr ?_ | refine w_ v_ln ?_ | refine w_ v_bd ?_ | refine w_ v_ba ?_ | refine w_ v_mf ?_ | refine w_ v_sap ?_ | refine w_ v_pkf ?_ | refine w_ v_pkt ?_ | refine w_ v_nl ?_ | refine w_ v_nn ?_ | refine e_ (f_st ?_) | refine e_ (f_al fun _ => ?_) | refine e_ (f_bx fun _ => ?_))
  exact t_ rfl (.tmp rfl .nil) (List.Sublist.refl _) ⟨rfl, rfl⟩

theorem turn2_does (x : UInt8) (w : World) : Does Tryz.prog 128 [.int .u8 x.toNat] w [] (fun v L => v = .int .u8 (turnB x).toNat ∧ L = []) := by
  refine does_of Tryz.func128 rfl rfl ?_
  repeat (first | refine r_seq ?_ | refine r_nil ?_ | refine r_region ?_ | refine r_skip ?_ | refine r_block ?_ | refine r_inBlock ?_ | refine x_ ?_ | refine w_ v_p ?_ | refine w_ v_cv ?_ | refine w_ v_and ?_ | refine w_ v_or ?_ | refine w_ v_f ?_ | refine w_ v_b ?_ | refine w_ v_r ?_ | refine w_ v_i ?_ | refine w_ v_a ?_ | refine w_ v_l ?_ | refine w_ v_la ?_ | refine w_ v_ls ?_ | refine w_ v_lr ?_ | refine w_ v_ln ?_ | refine w_ v_bd ?_ | refine w_ v_ba ?_ | refine w_ v_mf ?_ | refine w_ v_sap ?_ | refine w_ v_pkf ?_ | refine w_ v_pkt ?_ | refine w_ v_nl ?_ | refine w_ v_nn ?_ | refine e_ (f_st ?_) | refine e_ (f_al fun _ => ?_) | refine e_ (f_bx fun _ => ?_))
  refine e_ (f_c (fun w _ => rev8_does x w) fun v L' h => ?_)
  obtain ⟨rfl, rfl⟩ := h
  repeat (first | refine r_seq ?_ | refine r_nil ?_ | refine r_region ?_ | refine r_skip ?_ | refine r_block ?_ | refine r_inBlock ?_ | refine x_ ?_ | refine w_ v_p ?_ | refine w_ v_cv ?_ | refine w_ v_and ?_ | refine w_ v_or ?_ | refine w_ v_f ?_ | refine w_ v_b ?_ | refine w_ v_r ?_ | refine w_ v_i ?_ | refine w_ v_a ?_ | refine w_ v_l ?_ | refine w_ v_la ?_ | refine w_ v_ls ?_ | refine w_ v_lr ?_ | refine w_ v_ln ?_ | refine w_ v_bd ?_ | refine w_ v_ba ?_ | refine w_ v_mf ?_ | refine w_ v_sap ?_ | refine w_ v_pkf ?_ | refine w_ v_pkt ?_ | refine w_ v_nl ?_ | refine w_ v_nn ?_ | refine e_ (f_st ?_) | refine e_ (f_al fun _ => ?_) | refine e_ (f_bx fun _ => ?_))
  exact t_ rfl (.tmp rfl .nil) (List.nil_sublist _) ⟨rfl, rfl⟩
end Go.Proofs

