/-
  Contracts: what a description makes.
-/
import Derived.Test.YtdjgkbphbffleaaGreatDoorA15
import Derived.Test.YtdjgkbphbffleaaGreatDoorA14
namespace Go.Proofs
open Go.Cf
set_option maxRecDepth 10000

theorem packed_does' {row : Nat} {z : Int} (mag : Nat) (d : List UInt8) (p : Option Addr) (c m : Nat) (w : World) (hz : z = (row : Int)) (h1 : mag < 2 ^ 32) (h2 : row < 32) (hm : d.length = m) (hl : m ≤ 1000) (hs : Sl w [] p m 1 (bys d)) :
    Does Tryz.prog 65 [.int .i64 mag, .int .i64 z, .slice p m c] w [] (fun v L => ∃ q c', v = .slice q (2 + m) c' ∧ L = [.row q (2 + m) c' (bys (packB mag row d)) 5 1]) := by subst hz; exact packed_does mag row d p c m w h1 h2 hm hl hs
theorem trOf_does' {z z' : Int} (hz : z = z') (w : World) : Does Tryz.prog 66 [.int .i64 z] w [] (fun v L => v = .agg (trC (trOf z')).toArray ∧ L = []) := by subst hz; exact trOf_does z w
theorem tripB_does' {row code : Nat} {zr zc : Int} (mag : Nat) (l : List Tr) (p : Option Addr) (c : Nat) (w : World) (hm : 1 ≤ mag ∧ mag ≤ 8) (hzr : zr = (row : Int)) (hzc : zc = (code : Int)) (hr : row = 26 ∨ row = 28 ∨ row = 29) (hc : code < 16) (hl : l.length = 13)
    (hb : ∀ t ∈ l, t.addr < 2 ^ 62 ∧ t.mode < 2 ^ 62 ∧ t.data < 2 ^ 62) (hs : Sl w [] p 13 3 (trsC l)) :
    Does Tryz.prog 67 [.int .i64 mag, .int .i64 zr, .int .i64 zc, .slice p 13 c] w [] (fun v L => ∃ q c', v = .tuple #[.slice q 42 c', .int .i64 0] ∧ L = [.row q 42 c' (bys (tripB mag row code l)) 5 1]) := by subst hzr hzc; exact tripB_does mag row code l p c w hm hr hc hl hb hs
theorem regZ_eq (d : De) : bw .or .i64 (shl .i64 (d.num % 16) 10) (d.sub % 5 / 4) = regZ d := by
  have h1 := Int.emod_lt_of_pos d.num (b := 16) (by omega)
  have h2 := Int.emod_nonneg d.num (b := 16) (by omega)
  have h3 := Int.emod_lt_of_pos d.sub (b := 5) (by omega)
  have h4 := Int.emod_nonneg d.sub (b := 5) (by omega)
  rw [regZ]
  generalize d.num % 16 = x at *
  generalize d.sub % 5 = y at *
  have key : ∀ a < 16, ∀ b < 5, bw .or .i64 (shl .i64 ((a : Nat) : Int) 10) (((b : Nat) : Int) / 4) = (a : Int) * 1024 + (b : Int) / 4 := by decide
  have := key x.toNat (by omega) y.toNat (by omega)
  rw [Int.toNat_of_nonneg h2, Int.toNat_of_nonneg h4] at this
  exact this
theorem regL_le (d : De) : ∀ t ∈ regL d, t.addr < 2 ^ 62 ∧ t.mode < 2 ^ 62 ∧ t.data < 2 ^ 62 := by
  intro t ht
  rw [regL] at ht
  rcases List.mem_cons.1 ht with rfl | ht
  · simp only [trOf]; omega
  · rw [List.eq_of_mem_replicate ht]; simp

theorem makeB_does (d : De) (t : List UInt8) (p : Option Addr) (c m : Nat) (v5 v7 v8 : Value) (w : World) (hk : d.kind = 1 ∨ d.kind = 2 ∨ d.kind = 5 ∨ d.kind = 6) (hm : t.length = m) (hle : m ≤ 1000) (hs : Sl w [] p m 1 (bys t)) :
    Does Tryz.prog 19 [.agg (deC d v5 (.slice p m c) v7 v8).toArray] w [] (fun v L => ∃ q c', v = .slice q 42 c' ∧ L = [.row q 42 c' (bys (deB d t)) 5 1]) := by
  refine does_of Tryz.func19 rfl rfl ?_
  have hrp := right_pl d
  repeat (first | refine e_ (f_bx fun b1 => ?_) | refine r_seq ?_ | refine ri_seq ?_ | refine ri_region ?_ | refine ri_skip ?_ | refine ri_block ?_ | refine xi_ ?_ | refine r_nil ?_ | refine r_region ?_ | refine r_skip ?_ | refine r_block ?_ | refine r_inBlock ?_ | refine x_ ?_ | refine w_ v_p ?_ | refine w_ v_cv ?_ | refine w_ v_and ?_ | refine w_ v_or ?_ | refine w_ v_f ?_ | refine w_ v_b ?_ | refine w_ v_r ?_ | refine w_ v_i ?_ | refine w_ v_a ?_ | refine w_ v_l ?_ | refine w_ v_la ?_ | refine w_ v_ls ?_ | refine w_ v_lr ?_ | refine w_ v_ln ?_ | refine w_ v_bd ?_ | refine w_ v_ba ?_ | refine w_ v_mf ?_ | refine w_ v_sap ?_ | refine w_ v_pkf ?_ | refine w_ v_pkt ?_ | refine w_ v_nl ?_ | refine w_ v_nn ?_ | refine e_ (f_st ?_) | refine e_ (f_al fun _ => ?_) | refine e_ (f_bx fun _ => ?_))
  refine e_ (f_c (fun w _ => place_does d.mag d.page d.sub w) fun v L' h => ?_)
  obtain ⟨rfl, rfl⟩ := h
  repeat (first | refine e_ (f_al fun b3 => ?_) | refine e_ (f_st (vs := plC d.pl) (l' := plC d.pl) (hl := rfl) ?_) | refine r_seq ?_ | refine ri_seq ?_ | refine ri_region ?_ | refine ri_skip ?_ | refine ri_block ?_ | refine xi_ ?_ | refine r_nil ?_ | refine r_region ?_ | refine r_skip ?_ | refine r_block ?_ | refine r_inBlock ?_ | refine x_ ?_ | refine w_ v_p ?_ | refine w_ v_cv ?_ | refine w_ v_and ?_ | refine w_ v_or ?_ | refine w_ v_f ?_ | refine w_ v_b ?_ | refine w_ v_r ?_ | refine w_ v_i ?_ | refine w_ v_a ?_ | refine w_ v_l ?_ | refine w_ v_la ?_ | refine w_ v_ls ?_ | refine w_ v_lr ?_ | refine w_ v_ln ?_ | refine w_ v_bd ?_ | refine w_ v_ba ?_ | refine w_ v_mf ?_ | refine w_ v_sap ?_ | refine w_ v_pkf ?_ | refine w_ v_pkt ?_ | refine w_ v_nl ?_ | refine w_ v_nn ?_ | refine e_ (f_st ?_) | refine e_ (f_al fun _ => ?_) | refine e_ (f_bx fun _ => ?_))
  rcases hk with hk | hk | hk | hk
  · have hd : deB d t = headB d.hd (oddT t 32) := by rw [deB, if_pos hk]
    rw [hd]
    refine c_ (fun _ => ?_) (fun h => ?_)
    · repeat (first | refine e_ (f_al fun b5 => ?_) | refine w_ (v_la (hv := (rfl : sub (plC d.pl) 0 3 = some (plC d.pl)))) ?_ | refine e_ (f_st (vs := hdC ⟨d.pl, fun _ => false, 0⟩) (l' := hdC ⟨d.pl, fun _ => false, 0⟩) (hl := rfl) ?_) | refine r_seq ?_ | refine ri_seq ?_ | refine ri_region ?_ | refine ri_skip ?_ | refine ri_block ?_ | refine xi_ ?_ | refine r_nil ?_ | refine r_region ?_ | refine r_skip ?_ | refine r_block ?_ | refine r_inBlock ?_ | refine x_ ?_ | refine w_ v_p ?_ | refine w_ v_cv ?_ | refine w_ v_and ?_ | refine w_ v_or ?_ | refine w_ v_f ?_ | refine w_ v_b ?_ | refine w_ v_r ?_ | refine w_ v_i ?_ | refine w_ v_a ?_ | refine w_ v_l ?_ | refine w_ v_la ?_ | refine w_ v_ls ?_ | refine w_ v_lr ?_ | refine w_ v_ln ?_ | refine w_ v_bd ?_ | refine w_ v_ba ?_ | refine w_ v_mf ?_ | refine w_ v_sap ?_ | refine w_ v_pkf ?_ | refine w_ v_pkt ?_ | refine w_ v_nl ?_ | refine w_ v_nn ?_ | refine e_ (f_st ?_) | refine e_ (f_al fun _ => ?_) | refine e_ (f_bx fun _ => ?_))
      refine r_loop (τ := Nat) (fun i => i ≤ 11) (fun i => 11 - i) (fun i => [(1, .v (.pointer (some ⟨b1, 0, none⟩))), (3, .v (.pointer (some ⟨b3, 0, none⟩))), (5, .v (.pointer (some ⟨b5, 0, none⟩))), (6, .v (.int .i64 i))])
        (fun i => [.cells b5 (hdC ⟨d.pl, lowB d.bit i, 0⟩) 48, .cells b3 (plC d.pl) 45, .cells b1 (deC d v5 (.slice p m c) v7 v8) 36]) 0 (by omega) ⟨rfl, rfl, rfl, rfl, trivial⟩ (List.Sublist.refl _) ?_
      rintro i hi f
      repeat (first | refine r_seq ?_ | refine ri_seq ?_ | refine ri_region ?_ | refine ri_skip ?_ | refine ri_block ?_ | refine xi_ ?_ | refine r_nil ?_ | refine r_region ?_ | refine r_skip ?_ | refine r_block ?_ | refine r_inBlock ?_ | refine x_ ?_ | refine w_ v_p ?_ | refine w_ v_cv ?_ | refine w_ v_and ?_ | refine w_ v_or ?_ | refine w_ v_f ?_ | refine w_ v_b ?_ | refine w_ v_r ?_ | refine w_ v_i ?_ | refine w_ v_a ?_ | refine w_ v_l ?_ | refine w_ v_la ?_ | refine w_ v_ls ?_ | refine w_ v_lr ?_ | refine w_ v_ln ?_ | refine w_ v_bd ?_ | refine w_ v_ba ?_ | refine w_ v_mf ?_ | refine w_ v_sap ?_ | refine w_ v_pkf ?_ | refine w_ v_pkt ?_ | refine w_ v_nl ?_ | refine w_ v_nn ?_ | refine e_ (f_st ?_) | refine e_ (f_al fun _ => ?_) | refine e_ (f_bx fun _ => ?_))
      refine c_ (fun h5 => ?_) (fun h5 => ?_)
      · simp only [decide_eq_true_eq] at h5
        have hlt : i < 11 := by omega
        repeat (first | refine w_ (v_cv (hc := wrap_u64 (by omega))) ?_ | refine r_seq ?_ | refine ri_seq ?_ | refine ri_region ?_ | refine ri_skip ?_ | refine ri_block ?_ | refine xi_ ?_ | refine r_nil ?_ | refine r_region ?_ | refine r_skip ?_ | refine r_block ?_ | refine r_inBlock ?_ | refine x_ ?_ | refine w_ v_p ?_ | refine w_ v_cv ?_ | refine w_ v_and ?_ | refine w_ v_or ?_ | refine w_ v_f ?_ | refine w_ v_b ?_ | refine w_ v_r ?_ | refine w_ v_i ?_ | refine w_ v_a ?_ | refine w_ v_l ?_ | refine w_ v_la ?_ | refine w_ v_ls ?_ | refine w_ v_lr ?_ | refine w_ v_ln ?_ | refine w_ v_bd ?_ | refine w_ v_ba ?_ | refine w_ v_mf ?_ | refine w_ v_sap ?_ | refine w_ v_pkf ?_ | refine w_ v_pkt ?_ | refine w_ v_nl ?_ | refine w_ v_nn ?_ | refine e_ (f_st ?_) | refine e_ (f_al fun _ => ?_) | refine e_ (f_bx fun _ => ?_))
        have hbit : (bw .and .i64 (d.num / 2 ^ (i : Int).toNat) 1 == 1) = d.bit i := by
          have := anz (d.num / 2 ^ (i : Int).toNat) 1 (by omega)
          rw [De.bit, Int.toNat_natCast] at *
          rw [show ((2 ^ 1 - 1 : Nat) : Int) = 1 from rfl] at this
          rw [this]; rfl
        rw [hbit]
        refine e_ (f_st (hl := (hd_set d.pl _ 0 (d.bit i) i hlt).trans (by rw [lowB_succ])) (hr := Nat.ble_eq_true_of_le (by simp; omega)) ?_)
        repeat (first | refine r_seq ?_ | refine ri_seq ?_ | refine ri_region ?_ | refine ri_skip ?_ | refine ri_block ?_ | refine xi_ ?_ | refine r_nil ?_ | refine r_region ?_ | refine r_skip ?_ | refine r_block ?_ | refine r_inBlock ?_ | refine x_ ?_ | refine w_ v_p ?_ | refine w_ v_cv ?_ | refine w_ v_and ?_ | refine w_ v_or ?_ | refine w_ v_f ?_ | refine w_ v_b ?_ | refine w_ v_r ?_ | refine w_ v_i ?_ | refine w_ v_a ?_ | refine w_ v_l ?_ | refine w_ v_la ?_ | refine w_ v_ls ?_ | refine w_ v_lr ?_ | refine w_ v_ln ?_ | refine w_ v_bd ?_ | refine w_ v_ba ?_ | refine w_ v_mf ?_ | refine w_ v_sap ?_ | refine w_ v_pkf ?_ | refine w_ v_pkt ?_ | refine w_ v_nl ?_ | refine w_ v_nn ?_ | refine e_ (f_st ?_) | refine e_ (f_al fun _ => ?_) | refine e_ (f_bx fun _ => ?_))
        exact r_again (i + 1) (by omega) (by omega) ⟨rfl, rfl, rfl, rfl, trivial⟩ (List.Sublist.refl _)
      · simp only [decide_eq_false_iff_not] at h5
        have hi2 : i = 11 := by omega
        subst hi2
        repeat (first | refine r_seq ?_ | refine ri_seq ?_ | refine ri_region ?_ | refine ri_skip ?_ | refine ri_block ?_ | refine xi_ ?_ | refine r_nil ?_ | refine r_region ?_ | refine r_skip ?_ | refine r_block ?_ | refine r_inBlock ?_ | refine x_ ?_ | refine w_ v_p ?_ | refine w_ v_cv ?_ | refine w_ v_and ?_ | refine w_ v_or ?_ | refine w_ v_f ?_ | refine w_ v_b ?_ | refine w_ v_r ?_ | refine w_ v_i ?_ | refine w_ v_a ?_ | refine w_ v_l ?_ | refine w_ v_la ?_ | refine w_ v_ls ?_ | refine w_ v_lr ?_ | refine w_ v_ln ?_ | refine w_ v_bd ?_ | refine w_ v_ba ?_ | refine w_ v_mf ?_ | refine w_ v_sap ?_ | refine w_ v_pkf ?_ | refine w_ v_pkt ?_ | refine w_ v_nl ?_ | refine w_ v_nn ?_ | refine e_ (f_st ?_) | refine e_ (f_al fun _ => ?_) | refine e_ (f_bx fun _ => ?_))
        repeat refine r_seq ?_
        refine d_in ([.cells b5 (hdC d.hd) 48, .cells b1 (deC d v5 (.slice p m c) v7 v8) 36]) [] ?_
        first | (refine dw 0 ?_; first | refine tw (v_la (hv := (sub_all rfl : sub (hdC d.hd) 0 15 = some (hdC d.hd)))) ?_ | refine tw (v_l) ?_ | refine tw (v_la) ?_ | refine tw (v_ls) ?_ | refine tw (v_lr) ?_ | refine tw ((v_ge hG)) ?_)
        first | (refine dp 1 ?_; first | refine tp (fun _ => v_f) ?_)
        first | (refine dw 2 ?_; first | refine tw (v_l) ?_ | refine tw (v_la) ?_ | refine tw (v_ls) ?_ | refine tw (v_lr) ?_ | refine tw ((v_ge hG)) ?_)
        refine d_e 3 ?_
        refine f_ce (fun w hw => oddT_does t p c m 32 w hm hle (by omega) (hs.now hw)) fun v L' h => ?_
        obtain ⟨q, c', rfl, rfl⟩ := h
        refine ⟨?_, ?_⟩
        · first | exact st_n | exact st_l rfl | exact st_s (by repeat (first | exact List.Sublist.refl _ | exact List.nil_sublist _ | exact List.sublist_append_right _ _ | apply List.Sublist.cons_cons | apply List.Sublist.cons))
        refine d_e 4 ?_
        refine f_ce (fun w hw => headB_does d.hd (oddT t 32) q c' w hrp (oddT_length t 32) (sl_of_row hw (by repeat (first | exact List.Mem.head _ | apply List.Mem.tail)))) fun v L' h => ?_
        obtain ⟨q2, c2, rfl, rfl⟩ := h
        refine ⟨?_, ?_⟩
        · first | exact st_n | exact st_l rfl | exact st_s (by repeat (first | exact List.Sublist.refl _ | exact List.nil_sublist _ | exact List.sublist_append_right _ _ | apply List.Sublist.cons_cons | apply List.Sublist.cons))
        first | (refine dp 5 ?_; first | refine tp (fun _ => v_p) ?_)
        first | (refine dp 6 ?_; first | refine tp (fun _ => v_p) ?_)
        first | (refine dp 7 ?_; first | refine tp (fun _ => v_p) ?_)
        first | (refine dp 8 ?_; first | refine tp (fun _ => v_p) ?_)
        refine d_z ?_
        skip
        repeat (first | refine r_seq ?_ | refine ri_seq ?_ | refine ri_region ?_ | refine ri_skip ?_ | refine ri_block ?_ | refine xi_ ?_ | refine r_nil ?_ | refine r_region ?_ | refine r_skip ?_ | refine r_block ?_ | refine r_inBlock ?_ | refine x_ ?_ | refine w_ v_p ?_ | refine w_ v_cv ?_ | refine w_ v_and ?_ | refine w_ v_or ?_ | refine w_ v_f ?_ | refine w_ v_b ?_ | refine w_ v_r ?_ | refine w_ v_i ?_ | refine w_ v_a ?_ | refine w_ v_l ?_ | refine w_ v_la ?_ | refine w_ v_ls ?_ | refine w_ v_lr ?_ | refine w_ v_ln ?_ | refine w_ v_bd ?_ | refine w_ v_ba ?_ | refine w_ v_mf ?_ | refine w_ v_sap ?_ | refine w_ v_pkf ?_ | refine w_ v_pkt ?_ | refine w_ v_nl ?_ | refine w_ v_nn ?_ | refine e_ (f_st ?_) | refine e_ (f_al fun _ => ?_) | refine e_ (f_bx fun _ => ?_))
        refine r_ox (M := [.row q2 42 c2 (bys (headB d.hd (oddT t 32))) 5 1]) ?_
        exact t2 (List.Sublist.refl _) ⟨q2, c2, rfl, rfl⟩
    · exfalso; rw [hk] at h; cases h
  · have hd : deB d t = packB d.pl.mag (d.num % 25).toNat (oddT t 40) := by rw [deB, if_neg (by omega), if_pos hk]
    rw [hd]
    refine c_ (fun h => ?_) (fun _ => ?_)
    · exfalso; rw [hk] at h; cases h
    repeat (first | refine r_seq ?_ | refine ri_seq ?_ | refine ri_region ?_ | refine ri_skip ?_ | refine ri_block ?_ | refine xi_ ?_ | refine r_nil ?_ | refine r_region ?_ | refine r_skip ?_ | refine r_block ?_ | refine r_inBlock ?_ | refine x_ ?_ | refine w_ v_p ?_ | refine w_ v_cv ?_ | refine w_ v_and ?_ | refine w_ v_or ?_ | refine w_ v_f ?_ | refine w_ v_b ?_ | refine w_ v_r ?_ | refine w_ v_i ?_ | refine w_ v_a ?_ | refine w_ v_l ?_ | refine w_ v_la ?_ | refine w_ v_ls ?_ | refine w_ v_lr ?_ | refine w_ v_ln ?_ | refine w_ v_bd ?_ | refine w_ v_ba ?_ | refine w_ v_mf ?_ | refine w_ v_sap ?_ | refine w_ v_pkf ?_ | refine w_ v_pkt ?_ | refine w_ v_nl ?_ | refine w_ v_nn ?_ | refine e_ (f_st ?_) | refine e_ (f_al fun _ => ?_) | refine e_ (f_bx fun _ => ?_))
    refine c_ (fun _ => ?_) (fun h => ?_)
    · skip
      repeat refine r_seq ?_
      refine d_in ([.cells b3 (plC d.pl) 45, .cells b1 (deC d v5 (.slice p m c) v7 v8) 36]) [] ?_
      first | (refine dp 0 ?_; first | refine tp (fun _ => v_f) ?_) | (refine dw 0 ?_; first | refine tw (v_l) ?_)
      first | (refine dw 1 ?_; first | refine tw (v_l) ?_ | refine tw (v_l) ?_ | refine tw (v_la) ?_ | refine tw (v_ls) ?_ | refine tw (v_lr) ?_ | refine tw ((v_ge hG)) ?_)
      first | (refine dp 2 ?_; first | refine tp (fun _ => v_f) ?_) | (refine dw 2 ?_; first | refine tw (v_l) ?_)
      first | (refine dw 3 ?_; first | refine tw (v_l) ?_ | refine tw (v_l) ?_ | refine tw (v_la) ?_ | refine tw (v_ls) ?_ | refine tw (v_lr) ?_ | refine tw ((v_ge hG)) ?_)
      first | (refine dp 5 ?_; first | refine tp (fun _ => v_f) ?_) | (refine dw 5 ?_; first | refine tw (v_l) ?_)
      first | (refine dw 6 ?_; first | refine tw (v_l) ?_ | refine tw (v_l) ?_ | refine tw (v_la) ?_ | refine tw (v_ls) ?_ | refine tw (v_lr) ?_ | refine tw ((v_ge hG)) ?_)
      refine d_e 4 ?_
      refine f_ce (fun w hw => number_does d.num 25 w (by omega) (by omega)) fun v L' h => ?_
      obtain ⟨rfl, rfl⟩ := h
      refine ⟨?_, ?_⟩
      · first | exact st_n | exact st_l rfl | exact st_s (by repeat (first | exact List.Sublist.refl _ | exact List.nil_sublist _ | exact List.sublist_append_right _ _ | apply List.Sublist.cons_cons | apply List.Sublist.cons))
      refine d_e 7 ?_
      refine f_ce (fun w hw => oddT_does t p c m 40 w hm hle (by omega) (hs.now hw)) fun v L' h => ?_
      obtain ⟨q, c', rfl, rfl⟩ := h
      refine ⟨?_, ?_⟩
      · first | exact st_n | exact st_l rfl | exact st_s (by repeat (first | exact List.Sublist.refl _ | exact List.nil_sublist _ | exact List.sublist_append_right _ _ | apply List.Sublist.cons_cons | apply List.Sublist.cons))
      refine d_e 8 ?_
      refine f_ce (fun w hw => packed_does' (z := d.num % 25) (row := (d.num % 25).toNat) d.pl.mag (oddT t 40) q c' 40 w (by omega) (by have := hrp.2.1; omega) (by omega) (oddT_length t 40) (by omega) (sl_of_row hw (by repeat (first | exact List.Mem.head _ | apply List.Mem.tail)))) fun v L' h => ?_
      obtain ⟨q2, c2, rfl, rfl⟩ := h
      refine ⟨?_, ?_⟩
      · first | exact st_n | exact st_l rfl | exact st_s (by repeat (first | exact List.Sublist.refl _ | exact List.nil_sublist _ | exact List.sublist_append_right _ _ | apply List.Sublist.cons_cons | apply List.Sublist.cons))
      first | (refine dp 9 ?_; first | refine tp (fun _ => v_p) ?_) | (refine dw 9 ?_; first | refine tw (v_l) ?_)
      refine d_z ?_
      skip
      repeat (first | refine r_seq ?_ | refine ri_seq ?_ | refine ri_region ?_ | refine ri_skip ?_ | refine ri_block ?_ | refine xi_ ?_ | refine r_nil ?_ | refine r_region ?_ | refine r_skip ?_ | refine r_block ?_ | refine r_inBlock ?_ | refine x_ ?_ | refine w_ v_p ?_ | refine w_ v_cv ?_ | refine w_ v_and ?_ | refine w_ v_or ?_ | refine w_ v_f ?_ | refine w_ v_b ?_ | refine w_ v_r ?_ | refine w_ v_i ?_ | refine w_ v_a ?_ | refine w_ v_l ?_ | refine w_ v_la ?_ | refine w_ v_ls ?_ | refine w_ v_lr ?_ | refine w_ v_ln ?_ | refine w_ v_bd ?_ | refine w_ v_ba ?_ | refine w_ v_mf ?_ | refine w_ v_sap ?_ | refine w_ v_pkf ?_ | refine w_ v_pkt ?_ | refine w_ v_nl ?_ | refine w_ v_nn ?_ | refine e_ (f_st ?_) | refine e_ (f_al fun _ => ?_) | refine e_ (f_bx fun _ => ?_))
      refine r_ox (M := [.row q2 42 c2 (bys (packB d.pl.mag (d.num % 25).toNat (oddT t 40))) 5 1]) ?_
      exact t2 (List.Sublist.refl _) ⟨q2, c2, rfl, rfl⟩
    · exfalso; rw [hk] at h; cases h
  · have hd : deB d t = tripB d.pl.mag (23 + d.kind).toNat (d.page % 3 / 2 * 3).toNat (regL d) := by rw [deB, if_neg (by omega), if_neg (by omega)]
    rw [hd]
    refine c_ (fun h => ?_) (fun _ => ?_)
    · exfalso; rw [hk] at h; cases h
    repeat (first | refine r_seq ?_ | refine ri_seq ?_ | refine ri_region ?_ | refine ri_skip ?_ | refine ri_block ?_ | refine xi_ ?_ | refine r_nil ?_ | refine r_region ?_ | refine r_skip ?_ | refine r_block ?_ | refine r_inBlock ?_ | refine x_ ?_ | refine w_ v_p ?_ | refine w_ v_cv ?_ | refine w_ v_and ?_ | refine w_ v_or ?_ | refine w_ v_f ?_ | refine w_ v_b ?_ | refine w_ v_r ?_ | refine w_ v_i ?_ | refine w_ v_a ?_ | refine w_ v_l ?_ | refine w_ v_la ?_ | refine w_ v_ls ?_ | refine w_ v_lr ?_ | refine w_ v_ln ?_ | refine w_ v_bd ?_ | refine w_ v_ba ?_ | refine w_ v_mf ?_ | refine w_ v_sap ?_ | refine w_ v_pkf ?_ | refine w_ v_pkt ?_ | refine w_ v_nl ?_ | refine w_ v_nn ?_ | refine e_ (f_st ?_) | refine e_ (f_al fun _ => ?_) | refine e_ (f_bx fun _ => ?_))
    refine c_ (fun h => ?_) (fun _ => ?_)
    · exfalso; rw [hk] at h; cases h
    repeat (first | refine r_seq ?_ | refine ri_seq ?_ | refine ri_region ?_ | refine ri_skip ?_ | refine ri_block ?_ | refine xi_ ?_ | refine r_nil ?_ | refine r_region ?_ | refine r_skip ?_ | refine r_block ?_ | refine r_inBlock ?_ | refine x_ ?_ | refine w_ v_p ?_ | refine w_ v_cv ?_ | refine w_ v_and ?_ | refine w_ v_or ?_ | refine w_ v_f ?_ | refine w_ v_b ?_ | refine w_ v_r ?_ | refine w_ v_i ?_ | refine w_ v_a ?_ | refine w_ v_l ?_ | refine w_ v_la ?_ | refine w_ v_ls ?_ | refine w_ v_lr ?_ | refine w_ v_ln ?_ | refine w_ v_bd ?_ | refine w_ v_ba ?_ | refine w_ v_mf ?_ | refine w_ v_sap ?_ | refine w_ v_pkf ?_ | refine w_ v_pkt ?_ | refine w_ v_nl ?_ | refine w_ v_nn ?_ | refine e_ (f_st ?_) | refine e_ (f_al fun _ => ?_) | refine e_ (f_bx fun _ => ?_))
    refine c_ (fun h => ?_) (fun _ => ?_)
    · exfalso; rw [hk] at h; cases h
    repeat (first | refine r_seq ?_ | refine ri_seq ?_ | refine ri_region ?_ | refine ri_skip ?_ | refine ri_block ?_ | refine xi_ ?_ | refine r_nil ?_ | refine r_region ?_ | refine r_skip ?_ | refine r_block ?_ | refine r_inBlock ?_ | refine x_ ?_ | refine w_ v_p ?_ | refine w_ v_cv ?_ | refine w_ v_and ?_ | refine w_ v_or ?_ | refine w_ v_f ?_ | refine w_ v_b ?_ | refine w_ v_r ?_ | refine w_ v_i ?_ | refine w_ v_a ?_ | refine w_ v_l ?_ | refine w_ v_la ?_ | refine w_ v_ls ?_ | refine w_ v_lr ?_ | refine w_ v_ln ?_ | refine w_ v_bd ?_ | refine w_ v_ba ?_ | refine w_ v_mf ?_ | refine w_ v_sap ?_ | refine w_ v_pkf ?_ | refine w_ v_pkt ?_ | refine w_ v_nl ?_ | refine w_ v_nn ?_ | refine e_ (f_st ?_) | refine e_ (f_al fun _ => ?_) | refine e_ (f_bx fun _ => ?_))
    refine c_ (fun h => ?_) (fun _ => ?_)
    · exfalso; rw [hk] at h; cases h
    repeat (first | refine r_seq ?_ | refine ri_seq ?_ | refine ri_region ?_ | refine ri_skip ?_ | refine ri_block ?_ | refine xi_ ?_ | refine r_nil ?_ | refine r_region ?_ | refine r_skip ?_ | refine r_block ?_ | refine r_inBlock ?_ | refine x_ ?_ | refine w_ v_p ?_ | refine w_ v_cv ?_ | refine w_ v_and ?_ | refine w_ v_or ?_ | refine w_ v_f ?_ | refine w_ v_b ?_ | refine w_ v_r ?_ | refine w_ v_i ?_ | refine w_ v_a ?_ | refine w_ v_l ?_ | refine w_ v_la ?_ | refine w_ v_ls ?_ | refine w_ v_lr ?_ | refine w_ v_ln ?_ | refine w_ v_bd ?_ | refine w_ v_ba ?_ | refine w_ v_mf ?_ | refine w_ v_sap ?_ | refine w_ v_pkf ?_ | refine w_ v_pkt ?_ | refine w_ v_nl ?_ | refine w_ v_nn ?_ | refine e_ (f_st ?_) | refine e_ (f_al fun _ => ?_) | refine e_ (f_bx fun _ => ?_))
    refine c_ (fun _ => ?_) (fun h => ?_)
    rotate_left
    · exfalso; rw [hk] at h; cases h
    repeat (first | refine r_seq ?_ | refine ri_seq ?_ | refine ri_region ?_ | refine ri_skip ?_ | refine ri_block ?_ | refine xi_ ?_ | refine r_nil ?_ | refine r_region ?_ | refine r_skip ?_ | refine r_block ?_ | refine r_inBlock ?_ | refine x_ ?_ | refine w_ v_p ?_ | refine w_ v_cv ?_ | refine w_ v_and ?_ | refine w_ v_or ?_ | refine w_ v_f ?_ | refine w_ v_b ?_ | refine w_ v_r ?_ | refine w_ v_i ?_ | refine w_ v_a ?_ | refine w_ v_l ?_ | refine w_ v_la ?_ | refine w_ v_ls ?_ | refine w_ v_lr ?_ | refine w_ v_ln ?_ | refine w_ v_bd ?_ | refine w_ v_ba ?_ | refine w_ v_mf ?_ | refine w_ v_sap ?_ | refine w_ v_pkf ?_ | refine w_ v_pkt ?_ | refine w_ v_nl ?_ | refine w_ v_nn ?_ | refine e_ (f_st ?_) | refine e_ (f_al fun _ => ?_) | refine e_ (f_bx fun _ => ?_))
    refine c_ (fun _ => ?_) (fun h => ?_)
    · repeat (first | refine r_seq ?_ | refine ri_seq ?_ | refine ri_region ?_ | refine ri_skip ?_ | refine ri_block ?_ | refine xi_ ?_ | refine r_nil ?_ | refine r_region ?_ | refine r_skip ?_ | refine r_block ?_ | refine r_inBlock ?_ | refine x_ ?_ | refine w_ v_p ?_ | refine w_ v_cv ?_ | refine w_ v_and ?_ | refine w_ v_or ?_ | refine w_ v_f ?_ | refine w_ v_b ?_ | refine w_ v_r ?_ | refine w_ v_i ?_ | refine w_ v_a ?_ | refine w_ v_l ?_ | refine w_ v_la ?_ | refine w_ v_ls ?_ | refine w_ v_lr ?_ | refine w_ v_ln ?_ | refine w_ v_bd ?_ | refine w_ v_ba ?_ | refine w_ v_mf ?_ | refine w_ v_sap ?_ | refine w_ v_pkf ?_ | refine w_ v_pkt ?_ | refine w_ v_nl ?_ | refine w_ v_nn ?_ | refine e_ (f_st ?_) | refine e_ (f_al fun _ => ?_) | refine e_ (f_bx fun _ => ?_))
      refine e_ (f_mk 13 fun b13 => ?_)
      repeat (first | refine r_seq ?_ | refine ri_seq ?_ | refine ri_region ?_ | refine ri_skip ?_ | refine ri_block ?_ | refine xi_ ?_ | refine r_nil ?_ | refine r_region ?_ | refine r_skip ?_ | refine r_block ?_ | refine r_inBlock ?_ | refine x_ ?_ | refine w_ v_p ?_ | refine w_ v_cv ?_ | refine w_ v_and ?_ | refine w_ v_or ?_ | refine w_ v_f ?_ | refine w_ v_b ?_ | refine w_ v_r ?_ | refine w_ v_i ?_ | refine w_ v_a ?_ | refine w_ v_l ?_ | refine w_ v_la ?_ | refine w_ v_ls ?_ | refine w_ v_lr ?_ | refine w_ v_ln ?_ | refine w_ v_bd ?_ | refine w_ v_ba ?_ | refine w_ v_mf ?_ | refine w_ v_sap ?_ | refine w_ v_pkf ?_ | refine w_ v_pkt ?_ | refine w_ v_nl ?_ | refine w_ v_nn ?_ | refine e_ (f_st ?_) | refine e_ (f_al fun _ => ?_) | refine e_ (f_bx fun _ => ?_))
      repeat refine r_seq ?_
      refine d_in ([.cells b1 (deC d v5 (.slice p m c) v7 v8) 36]) [] ?_
      first | (refine dp 0 ?_; first | refine tp (fun _ => v_p) ?_)
      first | (refine dp 1 ?_; first | refine tp (fun _ => v_f) ?_)
      first | (refine dw 2 ?_; first | refine tw (v_l) ?_ | refine tw (v_la) ?_ | refine tw (v_ls) ?_ | refine tw (v_lr) ?_ | refine tw ((v_ge hG)) ?_)
      first | (refine dp 5 ?_; first | refine tp (fun _ => v_f) ?_)
      first | (refine dw 6 ?_; first | refine tw (v_l) ?_ | refine tw (v_la) ?_ | refine tw (v_ls) ?_ | refine tw (v_lr) ?_ | refine tw ((v_ge hG)) ?_)
      refine d_e 3 ?_
      refine f_ce (fun w hw => number_does d.num 16 w (by omega) (by omega)) fun v L' h => ?_
      obtain ⟨rfl, rfl⟩ := h
      refine ⟨?_, ?_⟩
      · first | exact st_n | exact st_l rfl | exact st_s (by repeat (first | exact List.Sublist.refl _ | exact List.nil_sublist _ | exact List.sublist_append_right _ _ | apply List.Sublist.cons_cons | apply List.Sublist.cons))
      first | (refine dp 4 ?_; first | refine tp (fun _ => v_p) ?_ | refine tp (fun _ => v_nl) ?_ | refine tp (fun _ => v_nn) ?_ | refine tp (fun _ => v_bq) ?_)
      refine d_e 7 ?_
      refine f_ce (fun w hw => number_does d.sub 5 w (by omega) (by omega)) fun v L' h => ?_
      obtain ⟨rfl, rfl⟩ := h
      refine ⟨?_, ?_⟩
      · first | exact st_n | exact st_l rfl | exact st_s (by repeat (first | exact List.Sublist.refl _ | exact List.nil_sublist _ | exact List.sublist_append_right _ _ | apply List.Sublist.cons_cons | apply List.Sublist.cons))
      first | (refine dp 8 ?_; first | refine tp (fun _ => v_p) ?_ | refine tp (fun _ => v_nl) ?_ | refine tp (fun _ => v_nn) ?_ | refine tp (fun _ => v_bq) ?_)
      first | (refine dp 9 ?_; first | refine tp (fun _ => v_p) ?_ | refine tp (fun _ => v_nl) ?_ | refine tp (fun _ => v_nn) ?_ | refine tp (fun _ => v_bq) ?_)
      refine d_e 10 ?_
      refine f_ce (fun w hw => trOf_does' (regZ_eq d) w) fun v L' h => ?_
      obtain ⟨rfl, rfl⟩ := h
      refine ⟨?_, ?_⟩
      · first | exact st_n | exact st_l rfl | exact st_s (by repeat (first | exact List.Sublist.refl _ | exact List.nil_sublist _ | exact List.sublist_append_right _ _ | apply List.Sublist.cons_cons | apply List.Sublist.cons))
      first | (refine dp 11 ?_; first | refine tp (fun _ => v_a) ?_ | refine tp (fun _ => v_i) ?_) | (refine dw 11 ?_; first | refine tw (v_b) ?_ | refine tw (v_r) ?_)
      refine d_e 12 ?_
      first | refine f_sr (p := some ⟨b13, 0, none⟩) (m := 13) (cap := 13) (sz := 3) (sz' := 3) (T' := 143) (off := 0) (vs := trC (trOf (regZ d))) (xs := zeros [.int .i64 0, .int .i64 0, .int .i64 0] (13 * 3)) (xs' := trsC (regL d)) (hl := rfl) ⟨?_, ?_⟩ (by decide) | refine f_st ⟨?_, ?_⟩
      · first | exact st_n | exact st_l rfl | exact st_s (by repeat (first | exact List.Sublist.refl _ | exact List.nil_sublist _ | exact List.sublist_append_right _ _ | apply List.Sublist.cons_cons | apply List.Sublist.cons))
      refine d_z ?_
      skip
      repeat (first | refine r_seq ?_ | refine ri_seq ?_ | refine ri_region ?_ | refine ri_skip ?_ | refine ri_block ?_ | refine xi_ ?_ | refine r_nil ?_ | refine r_region ?_ | refine r_skip ?_ | refine r_block ?_ | refine r_inBlock ?_ | refine x_ ?_ | refine w_ v_p ?_ | refine w_ v_cv ?_ | refine w_ v_and ?_ | refine w_ v_or ?_ | refine w_ v_f ?_ | refine w_ v_b ?_ | refine w_ v_r ?_ | refine w_ v_i ?_ | refine w_ v_a ?_ | refine w_ v_l ?_ | refine w_ v_la ?_ | refine w_ v_ls ?_ | refine w_ v_lr ?_ | refine w_ v_ln ?_ | refine w_ v_bd ?_ | refine w_ v_ba ?_ | refine w_ v_mf ?_ | refine w_ v_sap ?_ | refine w_ v_pkf ?_ | refine w_ v_pkt ?_ | refine w_ v_nl ?_ | refine w_ v_nn ?_ | refine e_ (f_st ?_) | refine e_ (f_al fun _ => ?_) | refine e_ (f_bx fun _ => ?_))
      repeat refine r_seq ?_
      refine d_in ([.cells b3 (plC d.pl) 45, .cells b1 (deC d v5 (.slice p m c) v7 v8) 36]) [] ?_
      first | (refine dp 0 ?_; first | refine tp (fun _ => v_f) ?_) | (refine dw 0 ?_; first | refine tw (v_p) ?_)
      first | (refine dw 1 ?_; first | refine tw (v_p) ?_ | refine tw (v_l) ?_ | refine tw (v_la) ?_ | refine tw (v_ls) ?_ | refine tw (v_lr) ?_ | refine tw ((v_ge hG)) ?_)
      first | (refine dp 2 ?_; first | refine tp (fun _ => v_f) ?_) | (refine dw 2 ?_; first | refine tw (v_p) ?_)
      first | (refine dw 3 ?_; first | refine tw (v_p) ?_ | refine tw (v_l) ?_ | refine tw (v_la) ?_ | refine tw (v_ls) ?_ | refine tw (v_lr) ?_ | refine tw ((v_ge hG)) ?_)
      first | (refine dp 4 ?_; first | refine tp (fun _ => v_p) ?_ | refine tp (fun _ => v_nl) ?_ | refine tp (fun _ => v_nn) ?_ | refine tp (fun _ => v_bq) ?_) | (refine dw 4 ?_; first | refine tw (v_p) ?_)
      first | (refine dp 5 ?_; first | refine tp (fun _ => v_f) ?_) | (refine dw 5 ?_; first | refine tw (v_p) ?_)
      first | (refine dw 6 ?_; first | refine tw (v_p) ?_ | refine tw (v_l) ?_ | refine tw (v_la) ?_ | refine tw (v_ls) ?_ | refine tw (v_lr) ?_ | refine tw ((v_ge hG)) ?_)
      first | (refine dp 10 ?_; first | refine tp (fun _ => v_p) ?_) | (refine dw 10 ?_; first | refine tw (v_p) ?_)
      refine d_e 7 ?_
      refine f_ce (fun w hw => number_does d.page 3 w (by omega) (by omega)) fun v L' h => ?_
      obtain ⟨rfl, rfl⟩ := h
      refine ⟨?_, ?_⟩
      · first | exact st_n | exact st_l rfl | exact st_s (by repeat (first | exact List.Sublist.refl _ | exact List.nil_sublist _ | exact List.sublist_append_right _ _ | apply List.Sublist.cons_cons | apply List.Sublist.cons))
      first | (refine dp 8 ?_; first | refine tp (fun _ => v_p) ?_ | refine tp (fun _ => v_nl) ?_ | refine tp (fun _ => v_nn) ?_ | refine tp (fun _ => v_bq) ?_) | (refine dw 8 ?_; first | refine tw (v_p) ?_)
      first | (refine dp 9 ?_; first | refine tp (fun _ => v_p) ?_ | refine tp (fun _ => v_nl) ?_ | refine tp (fun _ => v_nn) ?_ | refine tp (fun _ => v_bq) ?_) | (refine dw 9 ?_; first | refine tw (v_p) ?_)
      refine d_e 11 ?_
      refine f_ce (fun w hw => tripB_does' (zr := 23 + d.kind) (zc := d.page % 3 / 2 * 3) (row := (23 + d.kind).toNat) (code := (d.page % 3 / 2 * 3).toNat) d.pl.mag (regL d) _ _ w ⟨hrp.1, hrp.2.1⟩ (by omega) (by omega) (by omega) (by omega) rfl (regL_le d) (sl_of_row hw (by repeat (first | exact List.Mem.head _ | apply List.Mem.tail)))) fun v L' h => ?_
      obtain ⟨q2, c2, rfl, rfl⟩ := h
      refine ⟨?_, ?_⟩
      · first | exact st_n | exact st_l rfl | exact st_s (by repeat (first | exact List.Sublist.refl _ | exact List.nil_sublist _ | exact List.sublist_append_right _ _ | apply List.Sublist.cons_cons | apply List.Sublist.cons))
      first | (refine dp 12 ?_; first | refine tp (fun _ => v_p) ?_) | (refine dw 12 ?_; first | refine tw (v_p) ?_)
      first | (refine dp 13 ?_; first | refine tp (fun _ => v_p) ?_) | (refine dw 13 ?_; first | refine tw (v_p) ?_)
      first | (refine dp 14 ?_; first | refine tp (fun _ => v_p) ?_) | (refine dw 14 ?_; first | refine tw (v_p) ?_)
      first | (refine dp 15 ?_; first | refine tp (fun _ => v_p) ?_) | (refine dw 15 ?_; first | refine tw (v_p) ?_)
      refine d_z ?_
      skip
      repeat (first | refine r_seq ?_ | refine ri_seq ?_ | refine ri_region ?_ | refine ri_skip ?_ | refine ri_block ?_ | refine xi_ ?_ | refine r_nil ?_ | refine r_region ?_ | refine r_skip ?_ | refine r_block ?_ | refine r_inBlock ?_ | refine x_ ?_ | refine w_ v_p ?_ | refine w_ v_cv ?_ | refine w_ v_and ?_ | refine w_ v_or ?_ | refine w_ v_f ?_ | refine w_ v_b ?_ | refine w_ v_r ?_ | refine w_ v_i ?_ | refine w_ v_a ?_ | refine w_ v_l ?_ | refine w_ v_la ?_ | refine w_ v_ls ?_ | refine w_ v_lr ?_ | refine w_ v_ln ?_ | refine w_ v_bd ?_ | refine w_ v_ba ?_ | refine w_ v_mf ?_ | refine w_ v_sap ?_ | refine w_ v_pkf ?_ | refine w_ v_pkt ?_ | refine w_ v_nl ?_ | refine w_ v_nn ?_ | refine e_ (f_st ?_) | refine e_ (f_al fun _ => ?_) | refine e_ (f_bx fun _ => ?_))
      refine r_ox (M := [.row q2 42 c2 (bys (tripB d.pl.mag (23 + d.kind).toNat (d.page % 3 / 2 * 3).toNat (regL d))) 5 1]) ?_
      exact t2 (List.Sublist.refl _) ⟨q2, c2, rfl, rfl⟩
    · exfalso; rw [hk] at h; cases h
  · have hd : deB d t = tripB d.pl.mag (23 + d.kind).toNat (d.page % 3 / 2 * 3).toNat (regL d) := by rw [deB, if_neg (by omega), if_neg (by omega)]
    rw [hd]
    refine c_ (fun h => ?_) (fun _ => ?_)
    · exfalso; rw [hk] at h; cases h
    repeat (first | refine r_seq ?_ | refine ri_seq ?_ | refine ri_region ?_ | refine ri_skip ?_ | refine ri_block ?_ | refine xi_ ?_ | refine r_nil ?_ | refine r_region ?_ | refine r_skip ?_ | refine r_block ?_ | refine r_inBlock ?_ | refine x_ ?_ | refine w_ v_p ?_ | refine w_ v_cv ?_ | refine w_ v_and ?_ | refine w_ v_or ?_ | refine w_ v_f ?_ | refine w_ v_b ?_ | refine w_ v_r ?_ | refine w_ v_i ?_ | refine w_ v_a ?_ | refine w_ v_l ?_ | refine w_ v_la ?_ | refine w_ v_ls ?_ | refine w_ v_lr ?_ | refine w_ v_ln ?_ | refine w_ v_bd ?_ | refine w_ v_ba ?_ | refine w_ v_mf ?_ | refine w_ v_sap ?_ | refine w_ v_pkf ?_ | refine w_ v_pkt ?_ | refine w_ v_nl ?_ | refine w_ v_nn ?_ | refine e_ (f_st ?_) | refine e_ (f_al fun _ => ?_) | refine e_ (f_bx fun _ => ?_))
    refine c_ (fun h => ?_) (fun _ => ?_)
    · exfalso; rw [hk] at h; cases h
    repeat (first | refine r_seq ?_ | refine ri_seq ?_ | refine ri_region ?_ | refine ri_skip ?_ | refine ri_block ?_ | refine xi_ ?_ | refine r_nil ?_ | refine r_region ?_ | refine r_skip ?_ | refine r_block ?_ | refine r_inBlock ?_ | refine x_ ?_ | refine w_ v_p ?_ | refine w_ v_cv ?_ | refine w_ v_and ?_ | refine w_ v_or ?_ | refine w_ v_f ?_ | refine w_ v_b ?_ | refine w_ v_r ?_ | refine w_ v_i ?_ | refine w_ v_a ?_ | refine w_ v_l ?_ | refine w_ v_la ?_ | refine w_ v_ls ?_ | refine w_ v_lr ?_ | refine w_ v_ln ?_ | refine w_ v_bd ?_ | refine w_ v_ba ?_ | refine w_ v_mf ?_ | refine w_ v_sap ?_ | refine w_ v_pkf ?_ | refine w_ v_pkt ?_ | refine w_ v_nl ?_ | refine w_ v_nn ?_ | refine e_ (f_st ?_) | refine e_ (f_al fun _ => ?_) | refine e_ (f_bx fun _ => ?_))
    refine c_ (fun h => ?_) (fun _ => ?_)
    · exfalso; rw [hk] at h; cases h
    repeat (first | refine r_seq ?_ | refine ri_seq ?_ | refine ri_region ?_ | refine ri_skip ?_ | refine ri_block ?_ | refine xi_ ?_ | refine r_nil ?_ | refine r_region ?_ | refine r_skip ?_ | refine r_block ?_ | refine r_inBlock ?_ | refine x_ ?_ | refine w_ v_p ?_ | refine w_ v_cv ?_ | refine w_ v_and ?_ | refine w_ v_or ?_ | refine w_ v_f ?_ | refine w_ v_b ?_ | refine w_ v_r ?_ | refine w_ v_i ?_ | refine w_ v_a ?_ | refine w_ v_l ?_ | refine w_ v_la ?_ | refine w_ v_ls ?_ | refine w_ v_lr ?_ | refine w_ v_ln ?_ | refine w_ v_bd ?_ | refine w_ v_ba ?_ | refine w_ v_mf ?_ | refine w_ v_sap ?_ | refine w_ v_pkf ?_ | refine w_ v_pkt ?_ | refine w_ v_nl ?_ | refine w_ v_nn ?_ | refine e_ (f_st ?_) | refine e_ (f_al fun _ => ?_) | refine e_ (f_bx fun _ => ?_))
    refine c_ (fun h => ?_) (fun _ => ?_)
    · exfalso; rw [hk] at h; cases h
    repeat (first | refine r_seq ?_ | refine ri_seq ?_ | refine ri_region ?_ | refine ri_skip ?_ | refine ri_block ?_ | refine xi_ ?_ | refine r_nil ?_ | refine r_region ?_ | refine r_skip ?_ | refine r_block ?_ | refine r_inBlock ?_ | refine x_ ?_ | refine w_ v_p ?_ | refine w_ v_cv ?_ | refine w_ v_and ?_ | refine w_ v_or ?_ | refine w_ v_f ?_ | refine w_ v_b ?_ | refine w_ v_r ?_ | refine w_ v_i ?_ | refine w_ v_a ?_ | refine w_ v_l ?_ | refine w_ v_la ?_ | refine w_ v_ls ?_ | refine w_ v_lr ?_ | refine w_ v_ln ?_ | refine w_ v_bd ?_ | refine w_ v_ba ?_ | refine w_ v_mf ?_ | refine w_ v_sap ?_ | refine w_ v_pkf ?_ | refine w_ v_pkt ?_ | refine w_ v_nl ?_ | refine w_ v_nn ?_ | refine e_ (f_st ?_) | refine e_ (f_al fun _ => ?_) | refine e_ (f_bx fun _ => ?_))
    refine c_ (fun h => ?_) (fun _ => ?_)
    · exfalso; rw [hk] at h; cases h
    repeat (first | refine r_seq ?_ | refine ri_seq ?_ | refine ri_region ?_ | refine ri_skip ?_ | refine ri_block ?_ | refine xi_ ?_ | refine r_nil ?_ | refine r_region ?_ | refine r_skip ?_ | refine r_block ?_ | refine r_inBlock ?_ | refine x_ ?_ | refine w_ v_p ?_ | refine w_ v_cv ?_ | refine w_ v_and ?_ | refine w_ v_or ?_ | refine w_ v_f ?_ | refine w_ v_b ?_ | refine w_ v_r ?_ | refine w_ v_i ?_ | refine w_ v_a ?_ | refine w_ v_l ?_ | refine w_ v_la ?_ | refine w_ v_ls ?_ | refine w_ v_lr ?_ | refine w_ v_ln ?_ | refine w_ v_bd ?_ | refine w_ v_ba ?_ | refine w_ v_mf ?_ | refine w_ v_sap ?_ | refine w_ v_pkf ?_ | refine w_ v_pkt ?_ | refine w_ v_nl ?_ | refine w_ v_nn ?_ | refine e_ (f_st ?_) | refine e_ (f_al fun _ => ?_) | refine e_ (f_bx fun _ => ?_))
    refine c_ (fun _ => ?_) (fun h => ?_)
    · repeat (first | refine r_seq ?_ | refine ri_seq ?_ | refine ri_region ?_ | refine ri_skip ?_ | refine ri_block ?_ | refine xi_ ?_ | refine r_nil ?_ | refine r_region ?_ | refine r_skip ?_ | refine r_block ?_ | refine r_inBlock ?_ | refine x_ ?_ | refine w_ v_p ?_ | refine w_ v_cv ?_ | refine w_ v_and ?_ | refine w_ v_or ?_ | refine w_ v_f ?_ | refine w_ v_b ?_ | refine w_ v_r ?_ | refine w_ v_i ?_ | refine w_ v_a ?_ | refine w_ v_l ?_ | refine w_ v_la ?_ | refine w_ v_ls ?_ | refine w_ v_lr ?_ | refine w_ v_ln ?_ | refine w_ v_bd ?_ | refine w_ v_ba ?_ | refine w_ v_mf ?_ | refine w_ v_sap ?_ | refine w_ v_pkf ?_ | refine w_ v_pkt ?_ | refine w_ v_nl ?_ | refine w_ v_nn ?_ | refine e_ (f_st ?_) | refine e_ (f_al fun _ => ?_) | refine e_ (f_bx fun _ => ?_))
      refine e_ (f_mk 13 fun b13 => ?_)
      repeat (first | refine r_seq ?_ | refine ri_seq ?_ | refine ri_region ?_ | refine ri_skip ?_ | refine ri_block ?_ | refine xi_ ?_ | refine r_nil ?_ | refine r_region ?_ | refine r_skip ?_ | refine r_block ?_ | refine r_inBlock ?_ | refine x_ ?_ | refine w_ v_p ?_ | refine w_ v_cv ?_ | refine w_ v_and ?_ | refine w_ v_or ?_ | refine w_ v_f ?_ | refine w_ v_b ?_ | refine w_ v_r ?_ | refine w_ v_i ?_ | refine w_ v_a ?_ | refine w_ v_l ?_ | refine w_ v_la ?_ | refine w_ v_ls ?_ | refine w_ v_lr ?_ | refine w_ v_ln ?_ | refine w_ v_bd ?_ | refine w_ v_ba ?_ | refine w_ v_mf ?_ | refine w_ v_sap ?_ | refine w_ v_pkf ?_ | refine w_ v_pkt ?_ | refine w_ v_nl ?_ | refine w_ v_nn ?_ | refine e_ (f_st ?_) | refine e_ (f_al fun _ => ?_) | refine e_ (f_bx fun _ => ?_))
      repeat refine r_seq ?_
      refine d_in ([.cells b1 (deC d v5 (.slice p m c) v7 v8) 36]) [] ?_
      first | (refine dp 0 ?_; first | refine tp (fun _ => v_p) ?_)
      first | (refine dp 1 ?_; first | refine tp (fun _ => v_f) ?_)
      first | (refine dw 2 ?_; first | refine tw (v_l) ?_ | refine tw (v_la) ?_ | refine tw (v_ls) ?_ | refine tw (v_lr) ?_ | refine tw ((v_ge hG)) ?_)
      first | (refine dp 5 ?_; first | refine tp (fun _ => v_f) ?_)
      first | (refine dw 6 ?_; first | refine tw (v_l) ?_ | refine tw (v_la) ?_ | refine tw (v_ls) ?_ | refine tw (v_lr) ?_ | refine tw ((v_ge hG)) ?_)
      refine d_e 3 ?_
      refine f_ce (fun w hw => number_does d.num 16 w (by omega) (by omega)) fun v L' h => ?_
      obtain ⟨rfl, rfl⟩ := h
      refine ⟨?_, ?_⟩
      · first | exact st_n | exact st_l rfl | exact st_s (by repeat (first | exact List.Sublist.refl _ | exact List.nil_sublist _ | exact List.sublist_append_right _ _ | apply List.Sublist.cons_cons | apply List.Sublist.cons))
      first | (refine dp 4 ?_; first | refine tp (fun _ => v_p) ?_ | refine tp (fun _ => v_nl) ?_ | refine tp (fun _ => v_nn) ?_ | refine tp (fun _ => v_bq) ?_)
      refine d_e 7 ?_
      refine f_ce (fun w hw => number_does d.sub 5 w (by omega) (by omega)) fun v L' h => ?_
      obtain ⟨rfl, rfl⟩ := h
      refine ⟨?_, ?_⟩
      · first | exact st_n | exact st_l rfl | exact st_s (by repeat (first | exact List.Sublist.refl _ | exact List.nil_sublist _ | exact List.sublist_append_right _ _ | apply List.Sublist.cons_cons | apply List.Sublist.cons))
      first | (refine dp 8 ?_; first | refine tp (fun _ => v_p) ?_ | refine tp (fun _ => v_nl) ?_ | refine tp (fun _ => v_nn) ?_ | refine tp (fun _ => v_bq) ?_)
      first | (refine dp 9 ?_; first | refine tp (fun _ => v_p) ?_ | refine tp (fun _ => v_nl) ?_ | refine tp (fun _ => v_nn) ?_ | refine tp (fun _ => v_bq) ?_)
      refine d_e 10 ?_
      refine f_ce (fun w hw => trOf_does' (regZ_eq d) w) fun v L' h => ?_
      obtain ⟨rfl, rfl⟩ := h
      refine ⟨?_, ?_⟩
      · first | exact st_n | exact st_l rfl | exact st_s (by repeat (first | exact List.Sublist.refl _ | exact List.nil_sublist _ | exact List.sublist_append_right _ _ | apply List.Sublist.cons_cons | apply List.Sublist.cons))
      first | (refine dp 11 ?_; first | refine tp (fun _ => v_a) ?_ | refine tp (fun _ => v_i) ?_) | (refine dw 11 ?_; first | refine tw (v_b) ?_ | refine tw (v_r) ?_)
      refine d_e 12 ?_
      first | refine f_sr (p := some ⟨b13, 0, none⟩) (m := 13) (cap := 13) (sz := 3) (sz' := 3) (T' := 143) (off := 0) (vs := trC (trOf (regZ d))) (xs := zeros [.int .i64 0, .int .i64 0, .int .i64 0] (13 * 3)) (xs' := trsC (regL d)) (hl := rfl) ⟨?_, ?_⟩ (by decide) | refine f_st ⟨?_, ?_⟩
      · first | exact st_n | exact st_l rfl | exact st_s (by repeat (first | exact List.Sublist.refl _ | exact List.nil_sublist _ | exact List.sublist_append_right _ _ | apply List.Sublist.cons_cons | apply List.Sublist.cons))
      refine d_z ?_
      skip
      repeat (first | refine r_seq ?_ | refine ri_seq ?_ | refine ri_region ?_ | refine ri_skip ?_ | refine ri_block ?_ | refine xi_ ?_ | refine r_nil ?_ | refine r_region ?_ | refine r_skip ?_ | refine r_block ?_ | refine r_inBlock ?_ | refine x_ ?_ | refine w_ v_p ?_ | refine w_ v_cv ?_ | refine w_ v_and ?_ | refine w_ v_or ?_ | refine w_ v_f ?_ | refine w_ v_b ?_ | refine w_ v_r ?_ | refine w_ v_i ?_ | refine w_ v_a ?_ | refine w_ v_l ?_ | refine w_ v_la ?_ | refine w_ v_ls ?_ | refine w_ v_lr ?_ | refine w_ v_ln ?_ | refine w_ v_bd ?_ | refine w_ v_ba ?_ | refine w_ v_mf ?_ | refine w_ v_sap ?_ | refine w_ v_pkf ?_ | refine w_ v_pkt ?_ | refine w_ v_nl ?_ | refine w_ v_nn ?_ | refine e_ (f_st ?_) | refine e_ (f_al fun _ => ?_) | refine e_ (f_bx fun _ => ?_))
      repeat refine r_seq ?_
      refine d_in ([.cells b3 (plC d.pl) 45, .cells b1 (deC d v5 (.slice p m c) v7 v8) 36]) [] ?_
      first | (refine dp 0 ?_; first | refine tp (fun _ => v_f) ?_) | (refine dw 0 ?_; first | refine tw (v_p) ?_)
      first | (refine dw 1 ?_; first | refine tw (v_p) ?_ | refine tw (v_l) ?_ | refine tw (v_la) ?_ | refine tw (v_ls) ?_ | refine tw (v_lr) ?_ | refine tw ((v_ge hG)) ?_)
      first | (refine dp 2 ?_; first | refine tp (fun _ => v_f) ?_) | (refine dw 2 ?_; first | refine tw (v_p) ?_)
      first | (refine dw 3 ?_; first | refine tw (v_p) ?_ | refine tw (v_l) ?_ | refine tw (v_la) ?_ | refine tw (v_ls) ?_ | refine tw (v_lr) ?_ | refine tw ((v_ge hG)) ?_)
      first | (refine dp 4 ?_; first | refine tp (fun _ => v_p) ?_ | refine tp (fun _ => v_nl) ?_ | refine tp (fun _ => v_nn) ?_ | refine tp (fun _ => v_bq) ?_) | (refine dw 4 ?_; first | refine tw (v_p) ?_)
      first | (refine dp 5 ?_; first | refine tp (fun _ => v_f) ?_) | (refine dw 5 ?_; first | refine tw (v_p) ?_)
      first | (refine dw 6 ?_; first | refine tw (v_p) ?_ | refine tw (v_l) ?_ | refine tw (v_la) ?_ | refine tw (v_ls) ?_ | refine tw (v_lr) ?_ | refine tw ((v_ge hG)) ?_)
      first | (refine dp 10 ?_; first | refine tp (fun _ => v_p) ?_) | (refine dw 10 ?_; first | refine tw (v_p) ?_)
      refine d_e 7 ?_
      refine f_ce (fun w hw => number_does d.page 3 w (by omega) (by omega)) fun v L' h => ?_
      obtain ⟨rfl, rfl⟩ := h
      refine ⟨?_, ?_⟩
      · first | exact st_n | exact st_l rfl | exact st_s (by repeat (first | exact List.Sublist.refl _ | exact List.nil_sublist _ | exact List.sublist_append_right _ _ | apply List.Sublist.cons_cons | apply List.Sublist.cons))
      first | (refine dp 8 ?_; first | refine tp (fun _ => v_p) ?_ | refine tp (fun _ => v_nl) ?_ | refine tp (fun _ => v_nn) ?_ | refine tp (fun _ => v_bq) ?_) | (refine dw 8 ?_; first | refine tw (v_p) ?_)
      first | (refine dp 9 ?_; first | refine tp (fun _ => v_p) ?_ | refine tp (fun _ => v_nl) ?_ | refine tp (fun _ => v_nn) ?_ | refine tp (fun _ => v_bq) ?_) | (refine dw 9 ?_; first | refine tw (v_p) ?_)
      refine d_e 11 ?_
      refine f_ce (fun w hw => tripB_does' (zr := 23 + d.kind) (zc := d.page % 3 / 2 * 3) (row := (23 + d.kind).toNat) (code := (d.page % 3 / 2 * 3).toNat) d.pl.mag (regL d) _ _ w ⟨hrp.1, hrp.2.1⟩ (by omega) (by omega) (by omega) (by omega) rfl (regL_le d) (sl_of_row hw (by repeat (first | exact List.Mem.head _ | apply List.Mem.tail)))) fun v L' h => ?_
      obtain ⟨q2, c2, rfl, rfl⟩ := h
      refine ⟨?_, ?_⟩
      · first | exact st_n | exact st_l rfl | exact st_s (by repeat (first | exact List.Sublist.refl _ | exact List.nil_sublist _ | exact List.sublist_append_right _ _ | apply List.Sublist.cons_cons | apply List.Sublist.cons))
      first | (refine dp 12 ?_; first | refine tp (fun _ => v_p) ?_) | (refine dw 12 ?_; first | refine tw (v_p) ?_)
      first | (refine dp 13 ?_; first | refine tp (fun _ => v_p) ?_) | (refine dw 13 ?_; first | refine tw (v_p) ?_)
      first | (refine dp 14 ?_; first | refine tp (fun _ => v_p) ?_) | (refine dw 14 ?_; first | refine tw (v_p) ?_)
      first | (refine dp 15 ?_; first | refine tp (fun _ => v_p) ?_) | (refine dw 15 ?_; first | refine tw (v_p) ?_)
      refine d_z ?_
      skip
      repeat (first | refine r_seq ?_ | refine ri_seq ?_ | refine ri_region ?_ | refine ri_skip ?_ | refine ri_block ?_ | refine xi_ ?_ | refine r_nil ?_ | refine r_region ?_ | refine r_skip ?_ | refine r_block ?_ | refine r_inBlock ?_ | refine x_ ?_ | refine w_ v_p ?_ | refine w_ v_cv ?_ | refine w_ v_and ?_ | refine w_ v_or ?_ | refine w_ v_f ?_ | refine w_ v_b ?_ | refine w_ v_r ?_ | refine w_ v_i ?_ | refine w_ v_a ?_ | refine w_ v_l ?_ | refine w_ v_la ?_ | refine w_ v_ls ?_ | refine w_ v_lr ?_ | refine w_ v_ln ?_ | refine w_ v_bd ?_ | refine w_ v_ba ?_ | refine w_ v_mf ?_ | refine w_ v_sap ?_ | refine w_ v_pkf ?_ | refine w_ v_pkt ?_ | refine w_ v_nl ?_ | refine w_ v_nn ?_ | refine e_ (f_st ?_) | refine e_ (f_al fun _ => ?_) | refine e_ (f_bx fun _ => ?_))
      refine r_ox (M := [.row q2 42 c2 (bys (tripB d.pl.mag (23 + d.kind).toNat (d.page % 3 / 2 * 3).toNat (regL d))) 5 1]) ?_
      exact t2 (List.Sublist.refl _) ⟨q2, c2, rfl, rfl⟩
    · exfalso; rw [hk] at h; cases h
end Go.Proofs

