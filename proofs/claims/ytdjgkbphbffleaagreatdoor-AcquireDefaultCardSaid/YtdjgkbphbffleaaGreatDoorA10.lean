/-
  Contracts: the service.
-/
import Derived.Test.YtdjgkbphbffleaaGreatDoorA09
namespace Go.Proofs
open Go.Cf
def inf0 : Inf := ⟨⟨0, 0, 0⟩, 0, 0, 0, 0, 0, 0, []⟩
def offM (b : UInt8) : Int := if b.toNat / 64 % 2 = 1 then -((b.toNat / 2 % 32 : Nat) : Int) else ((b.toNat / 2 % 32 : Nat) : Int)
def infM (k : Pk) (n0 n1 n2 n3 n4 n5 : Nat) : Inf :=
  ⟨⟨magM (n3 / 8 + n5 / 4 * 2 ^ 1), nibPage n0 n1, nibSub n2 n3 n4 n5⟩, (turnB (k.data.getD 6 0)).toNat * 256 + (turnB (k.data.getD 7 0)).toNat, offM (k.data.getD 8 0), 0, 0, 0, 0, []⟩
/-- The service of a packet, or the error's number. -/
def readS (k : Pk) : Except Nat Inf :=
  if k.kind ≠ 7 ∨ k.mag ≠ 8 ∨ (k.code ≠ 0 ∧ k.code ≠ 1) then .error 3 else
  match hamOpen (partOf k.data 0 6) with
  | some [n0, n1, n2, n3, n4, n5] =>
    if clockB (infM k n0 n1 n2 n3 n4 n5) k.data then .ok { clockI (infM k n0 n1 n2 n3 n4 n5) k.data with text := (partOf k.data 19 20).map wordB } else .error 0
  | _ => .error 2
theorem osr (a b k : Nat) (ha : a < 2 ^ k) (hk : k ≤ 60) (hb : b * 2 ^ k < 2 ^ 62) : bw .or .i64 (shl .i64 (b : Int) (k : Int)) (a : Int) = ((b * 2 ^ k + a : Nat) : Int) := by
  have h3 : 2 ^ k ≤ 2 ^ 60 := Nat.pow_le_pow_right (by omega) hk
  rw [shl_nat b k (by omega) (by omega), bw_or (b * 2 ^ k) a (by omega) (by omega), Nat.or_comm, or_add a b k ha, Nat.add_comm]
set_option maxRecDepth 10000

/-- What 'service.Read' hands back. -/
def ServR (E : Nat → Value) (k : Pk) (v : Value) (L : Hp) : Prop := match readS k with
  | .error e => v = .tuple #[.agg (infC inf0).toArray, E e] ∧ L = []
  | .ok i => v = .tuple #[.agg (infC i).toArray, .nilIface] ∧ L = []

theorem servRead_does (E : Nat → Value) (kd : Pk) (p : Option Addr) (c m : Nat) (w : World) (hG : Glob w [] E) (hm : kd.data.length = m) (hs : Sl w [] p m 1 (bys kd.data)) :
    Does Tryz.prog 61 [.agg (pkC kd.mag kd.row kd.kind kd.code (.slice p m c)).toArray] w [] (ServR E kd) := by
  refine does_of Tryz.func61 rfl rfl ?_
  repeat (first | refine e_ (f_bx fun b1 => ?_) | refine e_ (f_al fun b2 => ?_) | refine r_seq ?_ | refine r_nil ?_ | refine r_region ?_ | refine r_skip ?_ | refine r_block ?_ | refine r_inBlock ?_ | refine x_ ?_ | refine w_ v_p ?_ | refine w_ v_cv ?_ | refine w_ v_and ?_ | refine w_ v_or ?_ | refine w_ v_f ?_ | refine w_ v_b ?_ | refine w_ v_r ?_ | refine w_ v_i ?_ | refine w_ v_a ?_ | refine w_ v_l ?_ | refine w_ v_la ?_ | refine w_ v_ls ?_ | refine w_ v_lr ?_ | refine w_ v_ln ?_ | refine w_ v_bd ?_ | refine w_ v_ba ?_ | refine w_ v_mf ?_ | refine w_ v_sap ?_ | refine w_ v_pkf ?_ | refine w_ v_pkt ?_ | refine w_ v_nl ?_ | refine w_ v_nn ?_ | refine e_ (f_st ?_) | refine e_ (f_al fun _ => ?_) | refine e_ (f_bx fun _ => ?_))
  refine c_ (fun h => ?_) (fun h => ?_)
  · simp only [Bool.or_eq_true, Bool.and_eq_true, bne_iff_ne, ne_eq] at h
    have hr : readS kd = .error 3 := by rw [readS, if_pos (by omega)]
    refine r_seq ?_
    refine d_in ([]) [] ?_
    first | (refine dp 0 ?_; first | refine tp (fun _ => v_bd) ?_ | refine tp (fun _ => v_ba) ?_)
    first | (refine dw 1 ?_; first | refine tw (v_l) ?_ | refine tw (v_la) ?_ | refine tw (v_ls) ?_ | refine tw (v_lr) ?_ | refine tw ((v_ge hG)) ?_)
    refine d_e 2 ?_
    first | refine f_st ⟨?_, ?_⟩
    · first | exact st_n | exact st_l rfl | exact st_s (by repeat (first | exact List.Sublist.refl _ | exact List.nil_sublist _ | exact List.sublist_append_right _ _ | apply List.Sublist.cons_cons | apply List.Sublist.cons))
    first | (refine dp 3 ?_; first | refine tp (fun _ => v_p) ?_)
    refine d_z ?_
    refine t2 (List.nil_sublist _) ?_
    simp only [ServR, hr]
    exact ⟨rfl, trivial⟩
  · simp only [Bool.or_eq_false_iff, Bool.and_eq_false_iff, bne_eq_false_iff_eq] at h
    have hnk : ¬ (kd.kind ≠ 7 ∨ kd.mag ≠ 8 ∨ (kd.code ≠ 0 ∧ kd.code ≠ 1)) := by omega
    repeat (first | refine r_seq ?_ | refine r_nil ?_ | refine r_region ?_ | refine r_skip ?_ | refine r_block ?_ | refine r_inBlock ?_ | refine x_ ?_ | refine w_ v_p ?_ | refine w_ v_cv ?_ | refine w_ v_and ?_ | refine w_ v_or ?_ | refine w_ v_f ?_ | refine w_ v_b ?_ | refine w_ v_r ?_ | refine w_ v_i ?_ | refine w_ v_a ?_ | refine w_ v_l ?_ | refine w_ v_la ?_ | refine w_ v_ls ?_ | refine w_ v_lr ?_ | refine w_ v_ln ?_ | refine w_ v_bd ?_ | refine w_ v_ba ?_ | refine w_ v_mf ?_ | refine w_ v_sap ?_ | refine w_ v_pkf ?_ | refine w_ v_pkt ?_ | refine w_ v_nl ?_ | refine w_ v_nn ?_ | refine e_ (f_st ?_) | refine e_ (f_al fun _ => ?_) | refine e_ (f_bx fun _ => ?_))
    refine e_ (f_c (fun w hw => part_does kd.mag kd.row kd.kind kd.code kd.data p c 0 6 m w hm (by omega) (by omega) (hs.now hw)) fun v L' h => ?_)
    obtain ⟨q, rfl, rfl⟩ := h
    refine e_ (f_c (fun w hw => open_does' (l := partOf kd.data 0 6) (partOf_length _ _ _) w (by rw [partOf_length]; omega) (sl_of_row hw (.head _))) fun v L' h => ?_)
    simp only [OpenR, partOf_length] at h
    cases ho : hamOpen (partOf kd.data 0 6) with
    | none =>
      rw [ho] at h
      obtain ⟨rfl, rfl⟩ := h
      have hr : readS kd = .error 2 := by rw [readS, if_neg hnk, ho]
      repeat (first | refine r_seq ?_ | refine r_nil ?_ | refine r_region ?_ | refine r_skip ?_ | refine r_block ?_ | refine r_inBlock ?_ | refine x_ ?_ | refine w_ v_p ?_ | refine w_ v_cv ?_ | refine w_ v_and ?_ | refine w_ v_or ?_ | refine w_ v_f ?_ | refine w_ v_b ?_ | refine w_ v_r ?_ | refine w_ v_i ?_ | refine w_ v_a ?_ | refine w_ v_l ?_ | refine w_ v_la ?_ | refine w_ v_ls ?_ | refine w_ v_lr ?_ | refine w_ v_ln ?_ | refine w_ v_bd ?_ | refine w_ v_ba ?_ | refine w_ v_mf ?_ | refine w_ v_sap ?_ | refine w_ v_pkf ?_ | refine w_ v_pkt ?_ | refine w_ v_nl ?_ | refine w_ v_nn ?_ | refine e_ (f_st ?_) | refine e_ (f_al fun _ => ?_) | refine e_ (f_bx fun _ => ?_))
      refine c_ (t := true) (fun _ => ?_) (fun h => by cases h)
      refine r_seq ?_
      refine d_in ([]) [] ?_
      first | (refine dp 0 ?_; first | refine tp (fun _ => v_bd) ?_ | refine tp (fun _ => v_ba) ?_)
      first | (refine dw 1 ?_; first | refine tw (v_l) ?_ | refine tw (v_la) ?_ | refine tw (v_ls) ?_ | refine tw (v_lr) ?_ | refine tw ((v_ge hG)) ?_)
      refine d_e 2 ?_
      first | refine f_st ⟨?_, ?_⟩
      · first | exact st_n | exact st_l rfl | exact st_s (by repeat (first | exact List.Sublist.refl _ | exact List.nil_sublist _ | exact List.sublist_append_right _ _ | apply List.Sublist.cons_cons | apply List.Sublist.cons))
      first | (refine dp 3 ?_; first | refine tp (fun _ => v_p) ?_)
      refine d_z ?_
      refine t2 (List.nil_sublist _) ?_
      simp only [ServR, hr]
      exact ⟨rfl, trivial⟩
    | some ns =>
      rw [ho] at h
      obtain ⟨q1, c1, rfl, rfl⟩ := h
      have hln := hamOpen_length ho
      have hlt6 := hamOpen_lt ho
      rw [partOf_length] at hln
      match ns, hln with
      | [n0, n1, n2, n3, n4, n5], _ =>
        have h0 : n0 < 16 := hlt6 _ (by simp)
        have h1' : n1 < 16 := hlt6 _ (by simp)
        have h2 : n2 < 16 := hlt6 _ (by simp)
        have h3 : n3 < 16 := hlt6 _ (by simp)
        have h4 : n4 < 16 := hlt6 _ (by simp)
        have h5 : n5 < 16 := hlt6 _ (by simp)
        have hrd : readS kd = if clockB (infM kd n0 n1 n2 n3 n4 n5) kd.data then .ok { clockI (infM kd n0 n1 n2 n3 n4 n5) kd.data with text := (partOf kd.data 19 20).map wordB } else .error 0 := by rw [readS, if_neg hnk, ho]
        have o1 : bw .or .i64 ((n3 / 8 : Nat) : Int) (shl .i64 ((n5 / 4 : Nat) : Int) 1) = ((n3 / 8 + n5 / 4 * 2 ^ 1 : Nat) : Int) := os _ _ 1 (by omega) (by omega) (by omega)
        have t6 := (turnB (kd.data.getD 6 0)).toNat_lt
        have t7 := (turnB (kd.data.getD 7 0)).toNat_lt
        have t8 := (kd.data.getD 8 0).toNat_lt
        repeat (first | refine r_seq ?_ | refine r_nil ?_ | refine r_region ?_ | refine r_skip ?_ | refine r_block ?_ | refine r_inBlock ?_ | refine x_ ?_ | refine w_ v_p ?_ | refine w_ v_cv ?_ | refine w_ v_and ?_ | refine w_ v_or ?_ | refine w_ v_f ?_ | refine w_ v_b ?_ | refine w_ v_r ?_ | refine w_ v_i ?_ | refine w_ v_a ?_ | refine w_ v_l ?_ | refine w_ v_la ?_ | refine w_ v_ls ?_ | refine w_ v_lr ?_ | refine w_ v_ln ?_ | refine w_ v_bd ?_ | refine w_ v_ba ?_ | refine w_ v_mf ?_ | refine w_ v_sap ?_ | refine w_ v_pkf ?_ | refine w_ v_pkt ?_ | refine w_ v_nl ?_ | refine w_ v_nn ?_ | refine e_ (f_st ?_) | refine e_ (f_al fun _ => ?_) | refine e_ (f_bx fun _ => ?_))
        refine c_ (t := false) (fun h => by cases h) (fun _ => ?_)
        repeat (first | refine e_ (f_al fun b6 => ?_) | refine r_seq ?_ | refine r_nil ?_ | refine r_region ?_ | refine r_skip ?_ | refine r_block ?_ | refine r_inBlock ?_ | refine x_ ?_ | refine w_ v_p ?_ | refine w_ v_cv ?_ | refine w_ v_and ?_ | refine w_ v_or ?_ | refine w_ v_f ?_ | refine w_ v_b ?_ | refine w_ v_r ?_ | refine w_ v_i ?_ | refine w_ v_a ?_ | refine w_ v_l ?_ | refine w_ v_la ?_ | refine w_ v_ls ?_ | refine w_ v_lr ?_ | refine w_ v_ln ?_ | refine w_ v_bd ?_ | refine w_ v_ba ?_ | refine w_ v_mf ?_ | refine w_ v_sap ?_ | refine w_ v_pkf ?_ | refine w_ v_pkt ?_ | refine w_ v_nl ?_ | refine w_ v_nn ?_ | refine e_ (f_st ?_) | refine e_ (f_al fun _ => ?_) | refine e_ (f_bx fun _ => ?_))
        refine e_ (f_c (fun w hw => of_does n0 n1 n2 n3 n4 n5 [] q1 c1 6 w rfl h0 h1' h2 h3 h4 h5 (sl_of_row hw (by repeat (first | exact List.Mem.head _ | apply List.Mem.tail)))) fun v L' h => ?_)
        obtain ⟨rfl, rfl⟩ := h
        repeat (first | refine e_ (f_al fun b7 => ?_) | refine r_seq ?_ | refine r_nil ?_ | refine r_region ?_ | refine r_skip ?_ | refine r_block ?_ | refine r_inBlock ?_ | refine x_ ?_ | refine w_ v_p ?_ | refine w_ v_cv ?_ | refine w_ v_and ?_ | refine w_ v_or ?_ | refine w_ v_f ?_ | refine w_ v_b ?_ | refine w_ v_r ?_ | refine w_ v_i ?_ | refine w_ v_a ?_ | refine w_ v_l ?_ | refine w_ v_la ?_ | refine w_ v_ls ?_ | refine w_ v_lr ?_ | refine w_ v_ln ?_ | refine w_ v_bd ?_ | refine w_ v_ba ?_ | refine w_ v_mf ?_ | refine w_ v_sap ?_ | refine w_ v_pkf ?_ | refine w_ v_pkt ?_ | refine w_ v_nl ?_ | refine w_ v_nn ?_ | refine e_ (f_st ?_) | refine e_ (f_al fun _ => ?_) | refine e_ (f_bx fun _ => ?_))
        refine r_as 50 (congrArg (Value.int .i64) o1) ?_
        refine e_ (f_c (fun w hw => mag_does _ w) fun v L' h => ?_)
        obtain ⟨rfl, rfl⟩ := h
        repeat (first | refine r_seq ?_ | refine r_nil ?_ | refine r_region ?_ | refine r_skip ?_ | refine r_block ?_ | refine r_inBlock ?_ | refine x_ ?_ | refine w_ v_p ?_ | refine w_ v_cv ?_ | refine w_ v_and ?_ | refine w_ v_or ?_ | refine w_ v_f ?_ | refine w_ v_b ?_ | refine w_ v_r ?_ | refine w_ v_i ?_ | refine w_ v_a ?_ | refine w_ v_l ?_ | refine w_ v_la ?_ | refine w_ v_ls ?_ | refine w_ v_lr ?_ | refine w_ v_ln ?_ | refine w_ v_bd ?_ | refine w_ v_ba ?_ | refine w_ v_mf ?_ | refine w_ v_sap ?_ | refine w_ v_pkf ?_ | refine w_ v_pkt ?_ | refine w_ v_nl ?_ | refine w_ v_nn ?_ | refine e_ (f_st ?_) | refine e_ (f_al fun _ => ?_) | refine e_ (f_bx fun _ => ?_))
        have e10 : bw .or .i64 (shl .i64 ((turnB (kd.data.getD 6 0)).toNat : Int) 8) ((turnB (kd.data.getD 7 0)).toNat : Int) = (((turnB (kd.data.getD 6 0)).toNat * 256 + (turnB (kd.data.getD 7 0)).toNat : Nat) : Int) := osr (turnB (kd.data.getD 7 0)).toNat (turnB (kd.data.getD 6 0)).toNat 8 (by omega) (by omega) (by omega)
        refine d_in ([.cells b1 (pkC kd.mag kd.row kd.kind kd.code (.slice p m c)) 130]) [] ?_
        first | (refine dw 0 ?_; first | refine tw (v_l) ?_ | refine tw (v_la) ?_ | refine tw (v_ls) ?_ | refine tw (v_lr) ?_ | refine tw ((v_ge hG)) ?_)
        first | (refine dw 5 ?_; first | refine tw (v_l) ?_ | refine tw (v_la) ?_ | refine tw (v_ls) ?_ | refine tw (v_lr) ?_ | refine tw ((v_ge hG)) ?_)
        refine d_e 1 ?_
        refine f_c (fun w hw => at_does kd.mag kd.row kd.kind kd.code kd.data p c 6 m w hm (by omega) (hs.now hw)) fun v L' h => ?_
        obtain ⟨rfl, rfl⟩ := h
        refine ⟨?_, ?_⟩
        · first | exact st_n | exact st_l rfl | exact st_s (by repeat (first | exact List.Sublist.refl _ | exact List.nil_sublist _ | exact List.sublist_append_right _ _ | apply List.Sublist.cons_cons | apply List.Sublist.cons))
        refine d_e 2 ?_
        refine f_c (fun w hw => turn2_does (kd.data.getD 6 0) w) fun v L' h => ?_
        obtain ⟨rfl, rfl⟩ := h
        refine ⟨?_, ?_⟩
        · first | exact st_n | exact st_l rfl | exact st_s (by repeat (first | exact List.Sublist.refl _ | exact List.nil_sublist _ | exact List.sublist_append_right _ _ | apply List.Sublist.cons_cons | apply List.Sublist.cons))
        first | (refine dp 3 ?_; first | refine tp (fun _ => v_cv) ?_)
        first | (refine dp 4 ?_; first | refine tp (fun _ => v_p) ?_ | refine tp (fun _ => v_nl) ?_ | refine tp (fun _ => v_nn) ?_ | refine tp (fun _ => v_bq) ?_)
        refine d_e 6 ?_
        refine f_c (fun w hw => at_does kd.mag kd.row kd.kind kd.code kd.data p c 7 m w hm (by omega) (hs.now hw)) fun v L' h => ?_
        obtain ⟨rfl, rfl⟩ := h
        refine ⟨?_, ?_⟩
        · first | exact st_n | exact st_l rfl | exact st_s (by repeat (first | exact List.Sublist.refl _ | exact List.nil_sublist _ | exact List.sublist_append_right _ _ | apply List.Sublist.cons_cons | apply List.Sublist.cons))
        refine d_e 7 ?_
        refine f_c (fun w hw => turn2_does (kd.data.getD 7 0) w) fun v L' h => ?_
        obtain ⟨rfl, rfl⟩ := h
        refine ⟨?_, ?_⟩
        · first | exact st_n | exact st_l rfl | exact st_s (by repeat (first | exact List.Sublist.refl _ | exact List.nil_sublist _ | exact List.sublist_append_right _ _ | apply List.Sublist.cons_cons | apply List.Sublist.cons))
        first | (refine dp 8 ?_; first | refine tp (fun _ => v_cv) ?_)
        first | (refine dp 9 ?_; first | refine tp (fun _ => v_p) ?_ | refine tp (fun _ => v_nl) ?_ | refine tp (fun _ => v_nn) ?_ | refine tp (fun _ => v_bq) ?_)
        first | (refine dp 10 ?_; first | refine tp (fun _ => v_f) ?_)
        refine d_e 11 ?_
        first | refine f_st ⟨?_, ?_⟩
        · first | exact st_n | exact st_l rfl | exact st_s (by repeat (first | exact List.Sublist.refl _ | exact List.nil_sublist _ | exact List.sublist_append_right _ _ | apply List.Sublist.cons_cons | apply List.Sublist.cons))
        refine d_z ?_
        rw [e10]
        repeat (first | refine r_seq ?_ | refine r_nil ?_ | refine r_region ?_ | refine r_skip ?_ | refine r_block ?_ | refine r_inBlock ?_ | refine x_ ?_ | refine w_ v_p ?_ | refine w_ v_cv ?_ | refine w_ v_and ?_ | refine w_ v_or ?_ | refine w_ v_f ?_ | refine w_ v_b ?_ | refine w_ v_r ?_ | refine w_ v_i ?_ | refine w_ v_a ?_ | refine w_ v_l ?_ | refine w_ v_la ?_ | refine w_ v_ls ?_ | refine w_ v_lr ?_ | refine w_ v_ln ?_ | refine w_ v_bd ?_ | refine w_ v_ba ?_ | refine w_ v_mf ?_ | refine w_ v_sap ?_ | refine w_ v_pkf ?_ | refine w_ v_pkt ?_ | refine w_ v_nl ?_ | refine w_ v_nn ?_ | refine e_ (f_st ?_) | refine e_ (f_al fun _ => ?_) | refine e_ (f_bx fun _ => ?_))
        refine e_ (f_c (fun w hw => at_does kd.mag kd.row kd.kind kd.code kd.data p c 8 m w hm (by omega) (hs.now hw)) fun v L' h => ?_)
        obtain ⟨rfl, rfl⟩ := h
        have e12 : bw .and .i64 (((kd.data.getD 8 0).toNat : Int) / 2 ^ Int.toNat 1) 31 = (((kd.data.getD 8 0).toNat / 2 % 32 : Nat) : Int) := by
          rw [show ((kd.data.getD 8 0).toNat : Int) / 2 ^ Int.toNat 1 = (((kd.data.getD 8 0).toNat / 2 : Nat) : Int) from shr_nat _ 1]; exact an _ 5 (by omega) (by omega)
        have e13 : bw .and .i64 (((kd.data.getD 8 0).toNat : Int) / 2 ^ Int.toNat 6) 1 = (((kd.data.getD 8 0).toNat / 64 % 2 : Nat) : Int) := by
          rw [show ((kd.data.getD 8 0).toNat : Int) / 2 ^ Int.toNat 6 = (((kd.data.getD 8 0).toNat / 64 : Nat) : Int) from shr_nat _ 6]; exact an _ 1 (by omega) (by omega)
        repeat (first | refine r_seq ?_ | refine r_nil ?_ | refine r_region ?_ | refine r_skip ?_ | refine r_block ?_ | refine r_inBlock ?_ | refine x_ ?_ | refine w_ v_p ?_ | refine w_ v_cv ?_ | refine w_ v_and ?_ | refine w_ v_or ?_ | refine w_ v_f ?_ | refine w_ v_b ?_ | refine w_ v_r ?_ | refine w_ v_i ?_ | refine w_ v_a ?_ | refine w_ v_l ?_ | refine w_ v_la ?_ | refine w_ v_ls ?_ | refine w_ v_lr ?_ | refine w_ v_ln ?_ | refine w_ v_bd ?_ | refine w_ v_ba ?_ | refine w_ v_mf ?_ | refine w_ v_sap ?_ | refine w_ v_pkf ?_ | refine w_ v_pkt ?_ | refine w_ v_nl ?_ | refine w_ v_nn ?_ | refine e_ (f_st ?_) | refine e_ (f_al fun _ => ?_) | refine e_ (f_bx fun _ => ?_))
        rw [e12]
        refine r_meet (τ := Unit) (fun _ => True) (fun _ => [(1, .v (.pointer (some ⟨b1, 0, none⟩))), (2, .v (.pointer (some ⟨b2, 0, none⟩))), (6, .v (.pointer (some ⟨b6, 0, none⟩))), (3, .v .nilIface)])
          (fun _ => [.cells b6 (infC (infM kd n0 n1 n2 n3 n4 n5)) 82, .cells b2 (infC inf0) 82, .cells b1 (pkC kd.mag kd.row kd.kind kd.code (.slice p m c)) 130]) ?_ ?_
        · refine r_as 76 (v' := .bool (decide ((kd.data.getD 8 0).toNat / 64 % 2 = 1))) ?_ ?_
          · show Value.bool (bw .and .i64 (((kd.data.getD 8 0).toNat : Int) / 2 ^ Int.toNat 6) 1 == 1) = _
            rw [e13]; congr 1; rw [Bool.eq_iff_iff]; simp only [beq_iff_eq, decide_eq_true_eq]; omega
          refine c_ (fun h8 => ?_) (fun h8 => ?_)
          · have hoff : offM (kd.data.getD 8 0) = -(((kd.data.getD 8 0).toNat / 2 % 32 : Nat) : Int) := by rw [offM, if_pos (by simpa using h8)]
            repeat (first | refine r_seq ?_ | refine r_nil ?_ | refine r_region ?_ | refine r_skip ?_ | refine r_block ?_ | refine r_inBlock ?_ | refine x_ ?_ | refine w_ v_p ?_ | refine w_ v_cv ?_ | refine w_ v_and ?_ | refine w_ v_or ?_ | refine w_ v_f ?_ | refine w_ v_b ?_ | refine w_ v_r ?_ | refine w_ v_i ?_ | refine w_ v_a ?_ | refine w_ v_l ?_ | refine w_ v_la ?_ | refine w_ v_ls ?_ | refine w_ v_lr ?_ | refine w_ v_ln ?_ | refine w_ v_bd ?_ | refine w_ v_ba ?_ | refine w_ v_mf ?_ | refine w_ v_sap ?_ | refine w_ v_pkf ?_ | refine w_ v_pkt ?_ | refine w_ v_nl ?_ | refine w_ v_nn ?_ | refine e_ (f_st ?_) | refine e_ (f_al fun _ => ?_) | refine e_ (f_bx fun _ => ?_))
            rw [← hoff]
            exact r_ord (r_met () trivial ⟨rfl, rfl, rfl, rfl, trivial⟩ (List.Sublist.refl _))
          · have hoff : offM (kd.data.getD 8 0) = (((kd.data.getD 8 0).toNat / 2 % 32 : Nat) : Int) := by rw [offM, if_neg (by simpa using h8)]
            repeat (first | refine r_seq ?_ | refine r_nil ?_ | refine r_region ?_ | refine r_skip ?_ | refine r_block ?_ | refine r_inBlock ?_ | refine x_ ?_ | refine w_ v_p ?_ | refine w_ v_cv ?_ | refine w_ v_and ?_ | refine w_ v_or ?_ | refine w_ v_f ?_ | refine w_ v_b ?_ | refine w_ v_r ?_ | refine w_ v_i ?_ | refine w_ v_a ?_ | refine w_ v_l ?_ | refine w_ v_la ?_ | refine w_ v_ls ?_ | refine w_ v_lr ?_ | refine w_ v_ln ?_ | refine w_ v_bd ?_ | refine w_ v_ba ?_ | refine w_ v_mf ?_ | refine w_ v_sap ?_ | refine w_ v_pkf ?_ | refine w_ v_pkt ?_ | refine w_ v_nl ?_ | refine w_ v_nn ?_ | refine e_ (f_st ?_) | refine e_ (f_al fun _ => ?_) | refine e_ (f_bx fun _ => ?_))
            rw [← hoff]
            exact r_ord (r_met () trivial ⟨rfl, rfl, rfl, rfl, trivial⟩ (List.Sublist.refl _))
        rintro - - f
        generalize infM kd n0 n1 n2 n3 n4 n5 = i0 at hrd
        repeat (first | refine r_seq ?_ | refine r_nil ?_ | refine r_region ?_ | refine r_skip ?_ | refine r_block ?_ | refine r_inBlock ?_ | refine x_ ?_ | refine w_ v_p ?_ | refine w_ v_cv ?_ | refine w_ v_and ?_ | refine w_ v_or ?_ | refine w_ v_f ?_ | refine w_ v_b ?_ | refine w_ v_r ?_ | refine w_ v_i ?_ | refine w_ v_a ?_ | refine w_ v_l ?_ | refine w_ v_la ?_ | refine w_ v_ls ?_ | refine w_ v_lr ?_ | refine w_ v_ln ?_ | refine w_ v_bd ?_ | refine w_ v_ba ?_ | refine w_ v_mf ?_ | refine w_ v_sap ?_ | refine w_ v_pkf ?_ | refine w_ v_pkt ?_ | refine w_ v_nl ?_ | refine w_ v_nn ?_ | refine e_ (f_st ?_) | refine e_ (f_al fun _ => ?_) | refine e_ (f_bx fun _ => ?_))
        refine e_ (f_cM [.cells b6 (infC i0) 82] _ (F' := [b6]) (List.Perm.refl _) (fun b hb => hb) (fun w hw => clock_does i0 kd b6 p c m w hm (hw.give (C := [.cells b6 (infC i0) 82]) (List.Perm.refl _)) (hs.give hw (C := [.cells b6 (infC i0) 82]) (List.Perm.refl _) (fun b hb => hb))) fun v L' h => ?_)
        obtain ⟨rfl, rfl⟩ := h
        repeat (first | refine r_seq ?_ | refine r_nil ?_ | refine r_region ?_ | refine r_skip ?_ | refine r_block ?_ | refine r_inBlock ?_ | refine x_ ?_ | refine w_ v_p ?_ | refine w_ v_cv ?_ | refine w_ v_and ?_ | refine w_ v_or ?_ | refine w_ v_f ?_ | refine w_ v_b ?_ | refine w_ v_r ?_ | refine w_ v_i ?_ | refine w_ v_a ?_ | refine w_ v_l ?_ | refine w_ v_la ?_ | refine w_ v_ls ?_ | refine w_ v_lr ?_ | refine w_ v_ln ?_ | refine w_ v_bd ?_ | refine w_ v_ba ?_ | refine w_ v_mf ?_ | refine w_ v_sap ?_ | refine w_ v_pkf ?_ | refine w_ v_pkt ?_ | refine w_ v_nl ?_ | refine w_ v_nn ?_ | refine e_ (f_st ?_) | refine e_ (f_al fun _ => ?_) | refine e_ (f_bx fun _ => ?_))
        refine c_ (fun h9 => ?_) (fun h9 => ?_)
        · have hr : readS kd = .error 0 := by rw [hrd, if_neg (by simpa using h9)]
          refine r_seq ?_
          refine d_in ([]) [] ?_
          first | (refine dp 0 ?_; first | refine tp (fun _ => v_bd) ?_ | refine tp (fun _ => v_ba) ?_)
          first | (refine dw 1 ?_; first | refine tw (v_l) ?_ | refine tw (v_la) ?_ | refine tw (v_ls) ?_ | refine tw (v_lr) ?_ | refine tw ((v_ge hG)) ?_)
          refine d_e 2 ?_
          first | refine f_st ⟨?_, ?_⟩
          · first | exact st_n | exact st_l rfl | exact st_s (by repeat (first | exact List.Sublist.refl _ | exact List.nil_sublist _ | exact List.sublist_append_right _ _ | apply List.Sublist.cons_cons | apply List.Sublist.cons))
          first | (refine dp 3 ?_; first | refine tp (fun _ => v_p) ?_)
          refine d_z ?_
          refine t2 (List.nil_sublist _) ?_
          simp only [ServR, hr]
          exact ⟨rfl, trivial⟩
        · have hr : readS kd = .ok { clockI i0 kd.data with text := (partOf kd.data 19 20).map wordB } := by rw [hrd, if_pos (by simpa using h9)]
          repeat (first | refine r_seq ?_ | refine r_nil ?_ | refine r_region ?_ | refine r_skip ?_ | refine r_block ?_ | refine r_inBlock ?_ | refine x_ ?_ | refine w_ v_p ?_ | refine w_ v_cv ?_ | refine w_ v_and ?_ | refine w_ v_or ?_ | refine w_ v_f ?_ | refine w_ v_b ?_ | refine w_ v_r ?_ | refine w_ v_i ?_ | refine w_ v_a ?_ | refine w_ v_l ?_ | refine w_ v_la ?_ | refine w_ v_ls ?_ | refine w_ v_lr ?_ | refine w_ v_ln ?_ | refine w_ v_bd ?_ | refine w_ v_ba ?_ | refine w_ v_mf ?_ | refine w_ v_sap ?_ | refine w_ v_pkf ?_ | refine w_ v_pkt ?_ | refine w_ v_nl ?_ | refine w_ v_nn ?_ | refine e_ (f_st ?_) | refine e_ (f_al fun _ => ?_) | refine e_ (f_bx fun _ => ?_))
          refine e_ (f_c (fun w hw => part_does kd.mag kd.row kd.kind kd.code kd.data p c 19 20 m w hm (by omega) (by omega) (hs.now hw)) fun v L' h => ?_)
          obtain ⟨q5, rfl, rfl⟩ := h
          refine e_ (f_c (fun w hw => words_does (partOf kd.data 19 20) q5 20 20 w (partOf_length _ _ _) (by omega) (sl_of_row hw (.head _))) fun v L' h => ?_)
          obtain ⟨rfl, rfl⟩ := h
          repeat (first | refine r_seq ?_ | refine r_nil ?_ | refine r_region ?_ | refine r_skip ?_ | refine r_block ?_ | refine r_inBlock ?_ | refine x_ ?_ | refine w_ v_p ?_ | refine w_ v_cv ?_ | refine w_ v_and ?_ | refine w_ v_or ?_ | refine w_ v_f ?_ | refine w_ v_b ?_ | refine w_ v_r ?_ | refine w_ v_i ?_ | refine w_ v_a ?_ | refine w_ v_l ?_ | refine w_ v_la ?_ | refine w_ v_ls ?_ | refine w_ v_lr ?_ | refine w_ v_ln ?_ | refine w_ v_bd ?_ | refine w_ v_ba ?_ | refine w_ v_mf ?_ | refine w_ v_sap ?_ | refine w_ v_pkf ?_ | refine w_ v_pkt ?_ | refine w_ v_nl ?_ | refine w_ v_nn ?_ | refine e_ (f_st ?_) | refine e_ (f_al fun _ => ?_) | refine e_ (f_bx fun _ => ?_))
          refine t2 (List.nil_sublist _) ?_
          simp only [ServR, hr]
          exact ⟨rfl, trivial⟩
end Go.Proofs

