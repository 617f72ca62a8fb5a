/-
  The walk of AcquireDefault.
-/
import Derived.Test.YtdjgkbphbffleaaGreatDoorA17
namespace Go.Proofs
open Go.Cf
set_option maxRecDepth 10000

set_option maxHeartbeats 4000000 in
theorem default_walk (E : Nat → Value) (region own : Int) (page ahead : Bool) (w : World) (hG : Glob w [] E) :
    Does Tryz.prog 5 [.int .i64 region, .int .i64 own, .bool page, .bool ahead] w [] (fun v L => v = .bool true ∧ L = []) := by
  refine does_of Tryz.func5 rfl rfl ?_
  repeat (first | refine r_seq ?_ | refine ri_seq ?_ | refine ri_region ?_ | refine ri_skip ?_ | refine ri_block ?_ | refine xi_ ?_ | refine r_nil ?_ | refine r_region ?_ | refine r_skip ?_ | refine r_block ?_ | refine r_inBlock ?_ | refine x_ ?_ | refine w_ v_p ?_ | refine w_ v_cv ?_ | refine w_ v_and ?_ | refine w_ v_or ?_ | refine w_ v_f ?_ | refine w_ v_b ?_ | refine w_ v_r ?_ | refine w_ v_i ?_ | refine w_ v_a ?_ | refine w_ v_l ?_ | refine w_ v_la ?_ | refine w_ v_ls ?_ | refine w_ v_lr ?_ | refine w_ v_ln ?_ | refine w_ v_bd ?_ | refine w_ v_ba ?_ | refine w_ v_mf ?_ | refine w_ v_sap ?_ | refine w_ v_pkf ?_ | refine w_ v_pkt ?_ | refine w_ v_nl ?_ | refine w_ v_nn ?_ | refine e_ (f_st ?_) | refine e_ (f_al fun _ => ?_) | refine e_ (f_bx fun _ => ?_))
  refine e_ (f_c (fun w hw => first_does E w (hG.now hw)) fun v L' h => ?_)
  obtain ⟨rfl, rfl⟩ := h
  repeat (first | refine r_seq ?_ | refine ri_seq ?_ | refine ri_region ?_ | refine ri_skip ?_ | refine ri_block ?_ | refine xi_ ?_ | refine r_nil ?_ | refine r_region ?_ | refine r_skip ?_ | refine r_block ?_ | refine r_inBlock ?_ | refine x_ ?_ | refine w_ v_p ?_ | refine w_ v_cv ?_ | refine w_ v_and ?_ | refine w_ v_or ?_ | refine w_ v_f ?_ | refine w_ v_b ?_ | refine w_ v_r ?_ | refine w_ v_i ?_ | refine w_ v_a ?_ | refine w_ v_l ?_ | refine w_ v_la ?_ | refine w_ v_ls ?_ | refine w_ v_lr ?_ | refine w_ v_ln ?_ | refine w_ v_bd ?_ | refine w_ v_ba ?_ | refine w_ v_mf ?_ | refine w_ v_sap ?_ | refine w_ v_pkf ?_ | refine w_ v_pkt ?_ | refine w_ v_nl ?_ | refine w_ v_nn ?_ | refine e_ (f_st ?_) | refine e_ (f_al fun _ => ?_) | refine e_ (f_bx fun _ => ?_))
  refine c_ (t := false) (fun h => by cases h) (fun _ => ?_)
  repeat (first | refine r_seq ?_ | refine ri_seq ?_ | refine ri_region ?_ | refine ri_skip ?_ | refine ri_block ?_ | refine xi_ ?_ | refine r_nil ?_ | refine r_region ?_ | refine r_skip ?_ | refine r_block ?_ | refine r_inBlock ?_ | refine x_ ?_ | refine w_ v_p ?_ | refine w_ v_cv ?_ | refine w_ v_and ?_ | refine w_ v_or ?_ | refine w_ v_f ?_ | refine w_ v_b ?_ | refine w_ v_r ?_ | refine w_ v_i ?_ | refine w_ v_a ?_ | refine w_ v_l ?_ | refine w_ v_la ?_ | refine w_ v_ls ?_ | refine w_ v_lr ?_ | refine w_ v_ln ?_ | refine w_ v_bd ?_ | refine w_ v_ba ?_ | refine w_ v_mf ?_ | refine w_ v_sap ?_ | refine w_ v_pkf ?_ | refine w_ v_pkt ?_ | refine w_ v_nl ?_ | refine w_ v_nn ?_ | refine e_ (f_st ?_) | refine e_ (f_al fun _ => ?_) | refine e_ (f_bx fun _ => ?_))
  refine e_ (f_c (fun w hw => number_does region 16 w (by omega) (by omega)) fun v L' h => ?_)
  obtain ⟨rfl, rfl⟩ := h
  repeat (first | refine r_seq ?_ | refine ri_seq ?_ | refine ri_region ?_ | refine ri_skip ?_ | refine ri_block ?_ | refine xi_ ?_ | refine r_nil ?_ | refine r_region ?_ | refine r_skip ?_ | refine r_block ?_ | refine r_inBlock ?_ | refine x_ ?_ | refine w_ v_p ?_ | refine w_ v_cv ?_ | refine w_ v_and ?_ | refine w_ v_or ?_ | refine w_ v_f ?_ | refine w_ v_b ?_ | refine w_ v_r ?_ | refine w_ v_i ?_ | refine w_ v_a ?_ | refine w_ v_l ?_ | refine w_ v_la ?_ | refine w_ v_ls ?_ | refine w_ v_lr ?_ | refine w_ v_ln ?_ | refine w_ v_bd ?_ | refine w_ v_ba ?_ | refine w_ v_mf ?_ | refine w_ v_sap ?_ | refine w_ v_pkf ?_ | refine w_ v_pkt ?_ | refine w_ v_nl ?_ | refine w_ v_nn ?_ | refine e_ (f_st ?_) | refine e_ (f_al fun _ => ?_) | refine e_ (f_bx fun _ => ?_))
  refine e_ (f_c (fun w hw => number_does own 16 w (by omega) (by omega)) fun v L' h => ?_)
  obtain ⟨rfl, rfl⟩ := h
  repeat (first | refine r_seq ?_ | refine ri_seq ?_ | refine ri_region ?_ | refine ri_skip ?_ | refine ri_block ?_ | refine xi_ ?_ | refine r_nil ?_ | refine r_region ?_ | refine r_skip ?_ | refine r_block ?_ | refine r_inBlock ?_ | refine x_ ?_ | refine w_ v_p ?_ | refine w_ v_cv ?_ | refine w_ v_and ?_ | refine w_ v_or ?_ | refine w_ v_f ?_ | refine w_ v_b ?_ | refine w_ v_r ?_ | refine w_ v_i ?_ | refine w_ v_a ?_ | refine w_ v_l ?_ | refine w_ v_la ?_ | refine w_ v_ls ?_ | refine w_ v_lr ?_ | refine w_ v_ln ?_ | refine w_ v_bd ?_ | refine w_ v_ba ?_ | refine w_ v_mf ?_ | refine w_ v_sap ?_ | refine w_ v_pkf ?_ | refine w_ v_pkt ?_ | refine w_ v_nl ?_ | refine w_ v_nn ?_ | refine e_ (f_st ?_) | refine e_ (f_al fun _ => ?_) | refine e_ (f_bx fun _ => ?_))
  refine e_ (f_c (fun w hw => newA_does E 9 w (hG.now hw)) fun v L' h => ?_)
  rw [NewR, if_neg (by omega)] at h
  obtain ⟨M, rfl, rfl, hM, ha⟩ := h
  repeat (first | refine r_seq ?_ | refine ri_seq ?_ | refine ri_region ?_ | refine ri_skip ?_ | refine ri_block ?_ | refine xi_ ?_ | refine r_nil ?_ | refine r_region ?_ | refine r_skip ?_ | refine r_block ?_ | refine r_inBlock ?_ | refine x_ ?_ | refine w_ v_p ?_ | refine w_ v_cv ?_ | refine w_ v_and ?_ | refine w_ v_or ?_ | refine w_ v_f ?_ | refine w_ v_b ?_ | refine w_ v_r ?_ | refine w_ v_i ?_ | refine w_ v_a ?_ | refine w_ v_l ?_ | refine w_ v_la ?_ | refine w_ v_ls ?_ | refine w_ v_lr ?_ | refine w_ v_ln ?_ | refine w_ v_bd ?_ | refine w_ v_ba ?_ | refine w_ v_mf ?_ | refine w_ v_sap ?_ | refine w_ v_pkf ?_ | refine w_ v_pkt ?_ | refine w_ v_nl ?_ | refine w_ v_nn ?_ | refine e_ (f_st ?_) | refine e_ (f_al fun _ => ?_) | refine e_ (f_bx fun _ => ?_))
  refine c_ (t := false) (fun h => by cases h) (fun _ => ?_)
  obtain ⟨r, hr⟩ : ∃ r : Nat, region % 16 = r := ⟨(region % 16).toNat, by omega⟩
  obtain ⟨o, ho⟩ : ∃ o : Nat, own % 16 = o := ⟨(own % 16).toNat, by omega⟩
  have hr16 : r < 16 := by omega
  have ho16 : o < 16 := by omega
  rw [hr, ho]
  repeat (first | refine e_ (f_al fun b12 => ?_) | refine e_ (f_st (vs := deN ⟨6, 0, 0, 0, r⟩) (l' := deN ⟨6, 0, 0, 0, r⟩) (hl := rfl) ?_) | refine r_seq ?_ | refine ri_seq ?_ | refine ri_region ?_ | refine ri_skip ?_ | refine ri_block ?_ | refine xi_ ?_ | refine r_nil ?_ | refine r_region ?_ | refine r_skip ?_ | refine r_block ?_ | refine r_inBlock ?_ | refine x_ ?_ | refine w_ v_p ?_ | refine w_ v_cv ?_ | refine w_ v_and ?_ | refine w_ v_or ?_ | refine w_ v_f ?_ | refine w_ v_b ?_ | refine w_ v_r ?_ | refine w_ v_i ?_ | refine w_ v_a ?_ | refine w_ v_l ?_ | refine w_ v_la ?_ | refine w_ v_ls ?_ | refine w_ v_lr ?_ | refine w_ v_ln ?_ | refine w_ v_bd ?_ | refine w_ v_ba ?_ | refine w_ v_mf ?_ | refine w_ v_sap ?_ | refine w_ v_pkf ?_ | refine w_ v_pkt ?_ | refine w_ v_nl ?_ | refine w_ v_nn ?_ | refine e_ (f_st ?_) | refine e_ (f_al fun _ => ?_) | refine e_ (f_bx fun _ => ?_))
  refine e_ (f_bs (l := dsC [⟨1, 0, 1, 0, 0⟩]) fun b13 => ?_)
  refine r_cr 1 9 ?_
  repeat (first | refine r_seq ?_ | refine ri_seq ?_ | refine ri_region ?_ | refine ri_skip ?_ | refine ri_block ?_ | refine xi_ ?_ | refine r_nil ?_ | refine r_region ?_ | refine r_skip ?_ | refine r_block ?_ | refine r_inBlock ?_ | refine x_ ?_ | refine w_ v_p ?_ | refine w_ v_cv ?_ | refine w_ v_and ?_ | refine w_ v_or ?_ | refine w_ v_f ?_ | refine w_ v_b ?_ | refine w_ v_r ?_ | refine w_ v_i ?_ | refine w_ v_a ?_ | refine w_ v_l ?_ | refine w_ v_la ?_ | refine w_ v_ls ?_ | refine w_ v_lr ?_ | refine w_ v_ln ?_ | refine w_ v_bd ?_ | refine w_ v_ba ?_ | refine w_ v_mf ?_ | refine w_ v_sap ?_ | refine w_ v_pkf ?_ | refine w_ v_pkt ?_ | refine w_ v_nl ?_ | refine w_ v_nn ?_ | refine e_ (f_st ?_) | refine e_ (f_al fun _ => ?_) | refine e_ (f_bx fun _ => ?_))
  refine r_meet (τ := Option Addr × Nat) (fun _ => True) (fun t => [(0, .v (.int .i64 r)), (1, .v (.int .i64 o)), (2, .v (.bool page)), (3, .v (.bool ahead)), (9, .v (.bool true)), (10, .v (.pointer (some ⟨M.bm, 0, none⟩))), (12, .v (.pointer (some ⟨b12, 0, none⟩))), (13, .v (.slice t.1 2 t.2))])
    (fun t => .row t.1 2 t.2 (dsC (aheadD r ahead)) 36 9 :: .cells b12 (deN ⟨6, 0, 0, 0, r⟩) 36 :: mpL M) ?_ ?_
  · cases ahead with
    | true =>
      refine c_ (t := true) (fun _ => ?_) (fun h => by cases h)
      repeat (first | refine w_ (v_la (hv := (sub_all rfl : sub (deN ⟨6, 0, 0, 0, r⟩) 0 9 = some (deN ⟨6, 0, 0, 0, r⟩)))) ?_ | refine r_seq ?_ | refine ri_seq ?_ | refine ri_region ?_ | refine ri_skip ?_ | refine ri_block ?_ | refine xi_ ?_ | refine r_nil ?_ | refine r_region ?_ | refine r_skip ?_ | refine r_block ?_ | refine r_inBlock ?_ | refine x_ ?_ | refine w_ v_p ?_ | refine w_ v_cv ?_ | refine w_ v_and ?_ | refine w_ v_or ?_ | refine w_ v_f ?_ | refine w_ v_b ?_ | refine w_ v_r ?_ | refine w_ v_i ?_ | refine w_ v_a ?_ | refine w_ v_l ?_ | refine w_ v_la ?_ | refine w_ v_ls ?_ | refine w_ v_lr ?_ | refine w_ v_ln ?_ | refine w_ v_bd ?_ | refine w_ v_ba ?_ | refine w_ v_mf ?_ | refine w_ v_sap ?_ | refine w_ v_pkf ?_ | refine w_ v_pkt ?_ | refine w_ v_nl ?_ | refine w_ v_nn ?_ | refine e_ (f_st ?_) | refine e_ (f_al fun _ => ?_) | refine e_ (f_bx fun _ => ?_))
      refine e_ (f_bs (l := dsC [⟨6, 0, 0, 0, r⟩, ⟨1, 0, 1, 0, 0⟩]) fun b => ?_)
      refine r_cr 2 9 ?_
      repeat (first | refine r_seq ?_ | refine ri_seq ?_ | refine ri_region ?_ | refine ri_skip ?_ | refine ri_block ?_ | refine xi_ ?_ | refine r_nil ?_ | refine r_region ?_ | refine r_skip ?_ | refine r_block ?_ | refine r_inBlock ?_ | refine x_ ?_ | refine w_ v_p ?_ | refine w_ v_cv ?_ | refine w_ v_and ?_ | refine w_ v_or ?_ | refine w_ v_f ?_ | refine w_ v_b ?_ | refine w_ v_r ?_ | refine w_ v_i ?_ | refine w_ v_a ?_ | refine w_ v_l ?_ | refine w_ v_la ?_ | refine w_ v_ls ?_ | refine w_ v_lr ?_ | refine w_ v_ln ?_ | refine w_ v_bd ?_ | refine w_ v_ba ?_ | refine w_ v_mf ?_ | refine w_ v_sap ?_ | refine w_ v_pkf ?_ | refine w_ v_pkt ?_ | refine w_ v_nl ?_ | refine w_ v_nn ?_ | refine e_ (f_st ?_) | refine e_ (f_al fun _ => ?_) | refine e_ (f_bx fun _ => ?_))
      exact r_ord (r_met (some ⟨b, 0, none⟩, 2) trivial ⟨rfl, rfl, rfl, rfl, rfl, rfl, rfl, rfl, trivial⟩ (List.Sublist.refl _))
    | false =>
      refine c_ (t := false) (fun h => by cases h) (fun _ => ?_)
      repeat (first | refine w_ (v_la (hv := (sub_all rfl : sub (deN ⟨6, 0, 0, 0, r⟩) 0 9 = some (deN ⟨6, 0, 0, 0, r⟩)))) ?_ | refine r_seq ?_ | refine ri_seq ?_ | refine ri_region ?_ | refine ri_skip ?_ | refine ri_block ?_ | refine xi_ ?_ | refine r_nil ?_ | refine r_region ?_ | refine r_skip ?_ | refine r_block ?_ | refine r_inBlock ?_ | refine x_ ?_ | refine w_ v_p ?_ | refine w_ v_cv ?_ | refine w_ v_and ?_ | refine w_ v_or ?_ | refine w_ v_f ?_ | refine w_ v_b ?_ | refine w_ v_r ?_ | refine w_ v_i ?_ | refine w_ v_a ?_ | refine w_ v_l ?_ | refine w_ v_la ?_ | refine w_ v_ls ?_ | refine w_ v_lr ?_ | refine w_ v_ln ?_ | refine w_ v_bd ?_ | refine w_ v_ba ?_ | refine w_ v_mf ?_ | refine w_ v_sap ?_ | refine w_ v_pkf ?_ | refine w_ v_pkt ?_ | refine w_ v_nl ?_ | refine w_ v_nn ?_ | refine e_ (f_st ?_) | refine e_ (f_al fun _ => ?_) | refine e_ (f_bx fun _ => ?_))
      refine e_ (f_bs (l := dsC [⟨6, 0, 0, 0, r⟩]) fun b => ?_)
      refine r_cr 1 9 ?_
      refine e_ (f_a (ys := dsC [⟨6, 0, 0, 0, r⟩]) (fun w hw => sl_of_row hw (by repeat (first | exact List.Mem.head _ | apply List.Mem.tail))) (dsC_plain _) fun q c => ?_)
      repeat (first | refine r_seq ?_ | refine ri_seq ?_ | refine ri_region ?_ | refine ri_skip ?_ | refine ri_block ?_ | refine xi_ ?_ | refine r_nil ?_ | refine r_region ?_ | refine r_skip ?_ | refine r_block ?_ | refine r_inBlock ?_ | refine x_ ?_ | refine w_ v_p ?_ | refine w_ v_cv ?_ | refine w_ v_and ?_ | refine w_ v_or ?_ | refine w_ v_f ?_ | refine w_ v_b ?_ | refine w_ v_r ?_ | refine w_ v_i ?_ | refine w_ v_a ?_ | refine w_ v_l ?_ | refine w_ v_la ?_ | refine w_ v_ls ?_ | refine w_ v_lr ?_ | refine w_ v_ln ?_ | refine w_ v_bd ?_ | refine w_ v_ba ?_ | refine w_ v_mf ?_ | refine w_ v_sap ?_ | refine w_ v_pkf ?_ | refine w_ v_pkt ?_ | refine w_ v_nl ?_ | refine w_ v_nn ?_ | refine e_ (f_st ?_) | refine e_ (f_al fun _ => ?_) | refine e_ (f_bx fun _ => ?_))
      exact r_ord (r_met (q, c) trivial ⟨rfl, rfl, rfl, rfl, rfl, rfl, rfl, rfl, trivial⟩ (List.Sublist.refl _))
  · rintro ⟨q, c⟩ - f
    dsimp only
    generalize hds : aheadD r ahead = ds
    have hdl : ds.length = 2 := by rw [← hds]; cases ahead <;> rfl
    repeat (first | refine r_seq ?_ | refine ri_seq ?_ | refine ri_region ?_ | refine ri_skip ?_ | refine ri_block ?_ | refine xi_ ?_ | refine r_nil ?_ | refine r_region ?_ | refine r_skip ?_ | refine r_block ?_ | refine r_inBlock ?_ | refine x_ ?_ | refine w_ v_p ?_ | refine w_ v_cv ?_ | refine w_ v_and ?_ | refine w_ v_or ?_ | refine w_ v_f ?_ | refine w_ v_b ?_ | refine w_ v_r ?_ | refine w_ v_i ?_ | refine w_ v_a ?_ | refine w_ v_l ?_ | refine w_ v_la ?_ | refine w_ v_ls ?_ | refine w_ v_lr ?_ | refine w_ v_ln ?_ | refine w_ v_bd ?_ | refine w_ v_ba ?_ | refine w_ v_mf ?_ | refine w_ v_sap ?_ | refine w_ v_pkf ?_ | refine w_ v_pkt ?_ | refine w_ v_nl ?_ | refine w_ v_nn ?_ | refine e_ (f_st ?_) | refine e_ (f_al fun _ => ?_) | refine e_ (f_bx fun _ => ?_))
    refine r_meet (τ := Option Addr × Nat) (fun _ => True) (fun t => [(0, .v (.int .i64 r)), (1, .v (.int .i64 o)), (2, .v (.bool page)), (3, .v (.bool ahead)), (9, .v (.bool true)), (10, .v (.pointer (some ⟨M.bm, 0, none⟩))), (13, .v (.slice t.1 (ds ++ pageD o page).length t.2))])
      (fun t => .row t.1 (ds ++ pageD o page).length t.2 (dsC (ds ++ pageD o page)) 36 9 :: mpL M) ?_ ?_
    · cases page with
      | true =>
        refine c_ (t := true) (fun _ => ?_) (fun h => by cases h)
        repeat (first | refine r_seq ?_ | refine ri_seq ?_ | refine ri_region ?_ | refine ri_skip ?_ | refine ri_block ?_ | refine xi_ ?_ | refine r_nil ?_ | refine r_region ?_ | refine r_skip ?_ | refine r_block ?_ | refine r_inBlock ?_ | refine x_ ?_ | refine w_ v_p ?_ | refine w_ v_cv ?_ | refine w_ v_and ?_ | refine w_ v_or ?_ | refine w_ v_f ?_ | refine w_ v_b ?_ | refine w_ v_r ?_ | refine w_ v_i ?_ | refine w_ v_a ?_ | refine w_ v_l ?_ | refine w_ v_la ?_ | refine w_ v_ls ?_ | refine w_ v_lr ?_ | refine w_ v_ln ?_ | refine w_ v_bd ?_ | refine w_ v_ba ?_ | refine w_ v_mf ?_ | refine w_ v_sap ?_ | refine w_ v_pkf ?_ | refine w_ v_pkt ?_ | refine w_ v_nl ?_ | refine w_ v_nn ?_ | refine e_ (f_st ?_) | refine e_ (f_al fun _ => ?_) | refine e_ (f_bx fun _ => ?_))
        refine e_ (f_bs (l := dsC [⟨5, 0, 0, 0, o⟩]) fun b => ?_)
        refine r_cr 1 9 ?_
        refine e_ (f_a (ys := dsC [⟨5, 0, 0, 0, o⟩]) (fun w hw => sl_of_row hw (by repeat (first | exact List.Mem.head _ | apply List.Mem.tail))) (dsC_plain _) fun q c => ?_)
        repeat (first | refine r_seq ?_ | refine ri_seq ?_ | refine ri_region ?_ | refine ri_skip ?_ | refine ri_block ?_ | refine xi_ ?_ | refine r_nil ?_ | refine r_region ?_ | refine r_skip ?_ | refine r_block ?_ | refine r_inBlock ?_ | refine x_ ?_ | refine w_ v_p ?_ | refine w_ v_cv ?_ | refine w_ v_and ?_ | refine w_ v_or ?_ | refine w_ v_f ?_ | refine w_ v_b ?_ | refine w_ v_r ?_ | refine w_ v_i ?_ | refine w_ v_a ?_ | refine w_ v_l ?_ | refine w_ v_la ?_ | refine w_ v_ls ?_ | refine w_ v_lr ?_ | refine w_ v_ln ?_ | refine w_ v_bd ?_ | refine w_ v_ba ?_ | refine w_ v_mf ?_ | refine w_ v_sap ?_ | refine w_ v_pkf ?_ | refine w_ v_pkt ?_ | refine w_ v_nl ?_ | refine w_ v_nn ?_ | refine e_ (f_st ?_) | refine e_ (f_al fun _ => ?_) | refine e_ (f_bx fun _ => ?_))
        rw [dsC_append]
        have hl2 : (ds ++ pageD o true) = ds ++ [⟨5, 0, 0, 0, o⟩] := rfl
        have hl3 : (ds ++ [(⟨5, 0, 0, 0, o⟩ : De)]).length = 2 + 1 := by rw [List.length_append, hdl]; rfl
        rw [hl2, hl3]
        exact r_ord (r_met (q, c) trivial ⟨rfl, rfl, rfl, rfl, rfl, rfl, rfl, trivial⟩ (List.Sublist.refl _))
      | false =>
        refine c_ (t := false) (fun h => by cases h) (fun _ => ?_)
        repeat (first | refine r_seq ?_ | refine ri_seq ?_ | refine ri_region ?_ | refine ri_skip ?_ | refine ri_block ?_ | refine xi_ ?_ | refine r_nil ?_ | refine r_region ?_ | refine r_skip ?_ | refine r_block ?_ | refine r_inBlock ?_ | refine x_ ?_ | refine w_ v_p ?_ | refine w_ v_cv ?_ | refine w_ v_and ?_ | refine w_ v_or ?_ | refine w_ v_f ?_ | refine w_ v_b ?_ | refine w_ v_r ?_ | refine w_ v_i ?_ | refine w_ v_a ?_ | refine w_ v_l ?_ | refine w_ v_la ?_ | refine w_ v_ls ?_ | refine w_ v_lr ?_ | refine w_ v_ln ?_ | refine w_ v_bd ?_ | refine w_ v_ba ?_ | refine w_ v_mf ?_ | refine w_ v_sap ?_ | refine w_ v_pkf ?_ | refine w_ v_pkt ?_ | refine w_ v_nl ?_ | refine w_ v_nn ?_ | refine e_ (f_st ?_) | refine e_ (f_al fun _ => ?_) | refine e_ (f_bx fun _ => ?_))
        have hl2 : (ds ++ pageD o false) = ds := List.append_nil ds
        rw [hl2, hdl]
        exact r_ord (r_met (q, c) trivial ⟨rfl, rfl, rfl, rfl, rfl, rfl, rfl, trivial⟩ (List.Sublist.refl _))
    · rintro ⟨q, c⟩ - f
      dsimp only
      generalize hds2 : ds ++ pageD o page = ds2
      have hdl2 : ds2.length ≤ 3 := by rw [← hds2, List.length_append, hdl]; cases page <;> simp [pageD]
      repeat (first | refine r_seq ?_ | refine ri_seq ?_ | refine ri_region ?_ | refine ri_skip ?_ | refine ri_block ?_ | refine xi_ ?_ | refine r_nil ?_ | refine r_region ?_ | refine r_skip ?_ | refine r_block ?_ | refine r_inBlock ?_ | refine x_ ?_ | refine w_ v_p ?_ | refine w_ v_cv ?_ | refine w_ v_and ?_ | refine w_ v_or ?_ | refine w_ v_f ?_ | refine w_ v_b ?_ | refine w_ v_r ?_ | refine w_ v_i ?_ | refine w_ v_a ?_ | refine w_ v_l ?_ | refine w_ v_la ?_ | refine w_ v_ls ?_ | refine w_ v_lr ?_ | refine w_ v_ln ?_ | refine w_ v_bd ?_ | refine w_ v_ba ?_ | refine w_ v_mf ?_ | refine w_ v_sap ?_ | refine w_ v_pkf ?_ | refine w_ v_pkt ?_ | refine w_ v_nl ?_ | refine w_ v_nn ?_ | refine e_ (f_st ?_) | refine e_ (f_al fun _ => ?_) | refine e_ (f_bx fun _ => ?_))
      refine e_ (f_bs (l := dsC [⟨1, 0, 5, 0, 0⟩]) fun b => ?_)
      refine r_cr 1 9 ?_
      refine e_ (f_a (ys := dsC [⟨1, 0, 5, 0, 0⟩]) (fun w hw => sl_of_row hw (by repeat (first | exact List.Mem.head _ | apply List.Mem.tail))) (dsC_plain _) fun q c => ?_)
      repeat (first | refine r_seq ?_ | refine ri_seq ?_ | refine ri_region ?_ | refine ri_skip ?_ | refine ri_block ?_ | refine xi_ ?_ | refine r_nil ?_ | refine r_region ?_ | refine r_skip ?_ | refine r_block ?_ | refine r_inBlock ?_ | refine x_ ?_ | refine w_ v_p ?_ | refine w_ v_cv ?_ | refine w_ v_and ?_ | refine w_ v_or ?_ | refine w_ v_f ?_ | refine w_ v_b ?_ | refine w_ v_r ?_ | refine w_ v_i ?_ | refine w_ v_a ?_ | refine w_ v_l ?_ | refine w_ v_la ?_ | refine w_ v_ls ?_ | refine w_ v_lr ?_ | refine w_ v_ln ?_ | refine w_ v_bd ?_ | refine w_ v_ba ?_ | refine w_ v_mf ?_ | refine w_ v_sap ?_ | refine w_ v_pkf ?_ | refine w_ v_pkt ?_ | refine w_ v_nl ?_ | refine w_ v_nn ?_ | refine e_ (f_st ?_) | refine e_ (f_al fun _ => ?_) | refine e_ (f_bx fun _ => ?_))
      rw [dsC_append]
      generalize hds3 : ds2 ++ [(⟨1, 0, 5, 0, 0⟩ : De)] = ds3
      have hdl3 : ds2.length + 1 = ds3.length := by rw [← hds3, List.length_append]; rfl
      rw [hdl3]
      obtain ⟨hq, g, hf1, hf2, hf3, hf4⟩ := law5 (b1 := deB ⟨1, 0, 1, 0, 0⟩ []) (bE := deB ⟨1, 0, 5, 0, 0⟩ []) (b5 := deB ⟨5, 0, 0, 0, o⟩ []) (b6 := deB ⟨6, 0, 0, 0, r⟩ []) page ahead head1 head5 (regs_5 ho16) (regs_6 hr16)
      have hbs : pksR (deB ⟨1, 0, 1, 0, 0⟩ []) (deB ⟨1, 0, 5, 0, 0⟩ []) (deB ⟨5, 0, 0, 0, o⟩ []) (deB ⟨6, 0, 0, 0, r⟩ []) page ahead = ds3.map fun d => deB d [] := by
        rw [← hds3, ← hds2, ← hds]
        cases page <;> cases ahead <;> rfl
      have hkd : ∀ d ∈ ds3, d.kind = 1 ∨ d.kind = 2 ∨ d.kind = 5 ∨ d.kind = 6 := by
        rw [← hds3, ← hds2, ← hds]
        cases page <;> cases ahead <;> simp [aheadD, pageD]
      rw [hbs] at hq hf1
      refine r_loop (τ := Nat × Mp × List Pp × Hp) (fun t => t.1 ≤ ds3.length ∧ MOk (Pool.none.add t.2.2.2) t.2.1 t.2.2.1 ∧ t.2.1.bm = M.bm ∧ absM t.2.1 t.2.2.1 = runM (mach0 9) ((ds3.map fun d => deB d []).take t.1)) (fun t => ds3.length - t.1)
        (fun t => [(0, .v (.int .i64 r)), (1, .v (.int .i64 o)), (2, .v (.bool page)), (3, .v (.bool ahead)), (9, .v (.bool true)), (10, .v (.pointer (some ⟨M.bm, 0, none⟩))), (13, .v (.slice q ds3.length c)), (14, .v (.int .i64 t.1))])
        (fun t => .row q ds3.length c (dsC ds3) 36 9 :: (mpL t.2.1 ++ t.2.2.2)) (0, M, [], []) ⟨by dsimp only; omega, hM.none0, rfl, ha⟩ ⟨rfl, rfl, rfl, rfl, rfl, rfl, rfl, rfl, trivial⟩ ?_ ?_
      · exact .cons _ (.cons_cons _ (by rw [List.append_nil]; exact List.Sublist.refl _))
      · rintro ⟨i, M1, l1, R1⟩ ⟨hi, hM1, hb1, ha1⟩ f
        dsimp only at hi hM1 hb1 ha1 ⊢
        repeat (first | refine r_seq ?_ | refine ri_seq ?_ | refine ri_region ?_ | refine ri_skip ?_ | refine ri_block ?_ | refine xi_ ?_ | refine r_nil ?_ | refine r_region ?_ | refine r_skip ?_ | refine r_block ?_ | refine r_inBlock ?_ | refine x_ ?_ | refine w_ v_p ?_ | refine w_ v_cv ?_ | refine w_ v_and ?_ | refine w_ v_or ?_ | refine w_ v_f ?_ | refine w_ v_b ?_ | refine w_ v_r ?_ | refine w_ v_i ?_ | refine w_ v_a ?_ | refine w_ v_l ?_ | refine w_ v_la ?_ | refine w_ v_ls ?_ | refine w_ v_lr ?_ | refine w_ v_ln ?_ | refine w_ v_bd ?_ | refine w_ v_ba ?_ | refine w_ v_mf ?_ | refine w_ v_sap ?_ | refine w_ v_pkf ?_ | refine w_ v_pkt ?_ | refine w_ v_nl ?_ | refine w_ v_nn ?_ | refine e_ (f_st ?_) | refine e_ (f_al fun _ => ?_) | refine e_ (f_bx fun _ => ?_))
        refine c_ (fun h => ?_) (fun h => ?_)
        · simp only [decide_eq_true_eq] at h
          have hlt : i < ds3.length := by omega
          obtain ⟨d, hd⟩ : ∃ d, ds3[i]? = some d := ⟨_, List.getElem?_eq_getElem hlt⟩
          have hld : sub (dsC ds3) (((i : Nat) : Int).toNat * 9) 9 = some (deN d) := dsC_get hd
          repeat (first | refine w_ (v_lrp (hv := hld)) ?_ | refine r_seq ?_ | refine ri_seq ?_ | refine ri_region ?_ | refine ri_skip ?_ | refine ri_block ?_ | refine xi_ ?_ | refine r_nil ?_ | refine r_region ?_ | refine r_skip ?_ | refine r_block ?_ | refine r_inBlock ?_ | refine x_ ?_ | refine w_ v_p ?_ | refine w_ v_cv ?_ | refine w_ v_and ?_ | refine w_ v_or ?_ | refine w_ v_f ?_ | refine w_ v_b ?_ | refine w_ v_r ?_ | refine w_ v_i ?_ | refine w_ v_a ?_ | refine w_ v_l ?_ | refine w_ v_la ?_ | refine w_ v_ls ?_ | refine w_ v_lr ?_ | refine w_ v_ln ?_ | refine w_ v_bd ?_ | refine w_ v_ba ?_ | refine w_ v_mf ?_ | refine w_ v_sap ?_ | refine w_ v_pkf ?_ | refine w_ v_pkt ?_ | refine w_ v_nl ?_ | refine w_ v_nn ?_ | refine e_ (f_st ?_) | refine e_ (f_al fun _ => ?_) | refine e_ (f_bx fun _ => ?_))
          have hdm : d ∈ ds3 := List.mem_of_getElem? hd
          refine e_ (f_c (fun w hw => makeB_does d [] none 0 0 nilS nilS nilS w (hkd d hdm) rfl (by omega) (Sl.nil _ _ _ 1)) fun v L' h => ?_)
          obtain ⟨q2, c2, rfl, rfl⟩ := h
          refine r_own (p := q2) (.head _) (by omega) fun _ _ hcap _ hlen2 => ?_
          have hlen : (deB d []).length = 42 := by rw [bys_length] at hlen2; omega
          rw [← hb1]
          refine e_ (f_cs (mpL M1) (fun b hb => hb) (fun w2 hw2 => packetP_does E (Pool.none.add R1) M1 l1 (deB d []) q2 c2 42 w2 hM1 (hw2.give (Spl.perm (by repeat (first | exact Spl.nil | exact Rem.head | apply Rem.tail | apply Spl.cons)))) (PoolAt.own hw2 (Spl.perm (by repeat (first | exact Spl.nil | exact Rem.head | apply Rem.tail | apply Spl.cons))) (fun e he => .tail _ (.tail _ he))) (hG.give hw2 (Spl.perm (by repeat (first | exact Spl.nil | exact Rem.head | apply Rem.tail | apply Spl.cons))) (fun b hb => hb)) hlen (by omega) hcap (sl_row_at hw2 (Spl.perm (by repeat (first | exact Spl.nil | exact Rem.head | apply Rem.tail | apply Spl.cons))) (fun b hb => hb) (by repeat (first | exact List.Mem.head _ | apply List.Mem.tail)))) fun v L' h => ?_)
          obtain ⟨rfl, M2, l2, R2, rfl, hM2, hb2, ha2⟩ := h
          have hqa := quiet_at (i := i) (b := deB d []) hq (by rw [List.getElem?_map, hd]; rfl)
          rw [ha1] at ha2 ⊢
          rw [hqa.1]
          repeat (first | refine r_seq ?_ | refine ri_seq ?_ | refine ri_region ?_ | refine ri_skip ?_ | refine ri_block ?_ | refine xi_ ?_ | refine r_nil ?_ | refine r_region ?_ | refine r_skip ?_ | refine r_block ?_ | refine r_inBlock ?_ | refine x_ ?_ | refine w_ v_p ?_ | refine w_ v_cv ?_ | refine w_ v_and ?_ | refine w_ v_or ?_ | refine w_ v_f ?_ | refine w_ v_b ?_ | refine w_ v_r ?_ | refine w_ v_i ?_ | refine w_ v_a ?_ | refine w_ v_l ?_ | refine w_ v_la ?_ | refine w_ v_ls ?_ | refine w_ v_lr ?_ | refine w_ v_ln ?_ | refine w_ v_bd ?_ | refine w_ v_ba ?_ | refine w_ v_mf ?_ | refine w_ v_sap ?_ | refine w_ v_pkf ?_ | refine w_ v_pkt ?_ | refine w_ v_nl ?_ | refine w_ v_nn ?_ | refine e_ (f_st ?_) | refine e_ (f_al fun _ => ?_) | refine e_ (f_bx fun _ => ?_))
          refine c_ (t := false) (fun h => by cases h) (fun _ => ?_)
          repeat (first | refine r_seq ?_ | refine ri_seq ?_ | refine ri_region ?_ | refine ri_skip ?_ | refine ri_block ?_ | refine xi_ ?_ | refine r_nil ?_ | refine r_region ?_ | refine r_skip ?_ | refine r_block ?_ | refine r_inBlock ?_ | refine x_ ?_ | refine w_ v_p ?_ | refine w_ v_cv ?_ | refine w_ v_and ?_ | refine w_ v_or ?_ | refine w_ v_f ?_ | refine w_ v_b ?_ | refine w_ v_r ?_ | refine w_ v_i ?_ | refine w_ v_a ?_ | refine w_ v_l ?_ | refine w_ v_la ?_ | refine w_ v_ls ?_ | refine w_ v_lr ?_ | refine w_ v_ln ?_ | refine w_ v_bd ?_ | refine w_ v_ba ?_ | refine w_ v_mf ?_ | refine w_ v_sap ?_ | refine w_ v_pkf ?_ | refine w_ v_pkt ?_ | refine w_ v_nl ?_ | refine w_ v_nn ?_ | refine e_ (f_st ?_) | refine e_ (f_al fun _ => ?_) | refine e_ (f_bx fun _ => ?_))
          refine r_pl (L1 := .row q ds3.length c (dsC ds3) 36 9 :: (mpL M2 ++ (R2 ++ R1))) (L2 := .row q ds3.length c (dsC ds3) 36 9 :: (R1 ++ (mpL M2 ++ R2))) (.cons _ (List.Sublist.refl _)) (List.Perm.cons _ (by rw [← List.append_assoc]; exact List.perm_append_comm)) ?_
          exact r_again (i + 1, M2, l2, R2 ++ R1) ⟨by dsimp only; omega, hM2.add2, hb2, by rw [ha2]; exact hqa.2.symm⟩ (by dsimp only; omega) ⟨rfl, rfl, rfl, rfl, rfl, rfl, rfl, rfl, trivial⟩ (List.Sublist.refl _)
        · simp only [decide_eq_false_iff_not] at h
          have hil : i = ds3.length := by omega
          rw [hil, List.take_of_length_le (by simp)] at ha1
          rw [← ha1] at hf1
          repeat (first | refine r_seq ?_ | refine ri_seq ?_ | refine ri_region ?_ | refine ri_skip ?_ | refine ri_block ?_ | refine xi_ ?_ | refine r_nil ?_ | refine r_region ?_ | refine r_skip ?_ | refine r_block ?_ | refine r_inBlock ?_ | refine x_ ?_ | refine w_ v_p ?_ | refine w_ v_cv ?_ | refine w_ v_and ?_ | refine w_ v_or ?_ | refine w_ v_f ?_ | refine w_ v_b ?_ | refine w_ v_r ?_ | refine w_ v_i ?_ | refine w_ v_a ?_ | refine w_ v_l ?_ | refine w_ v_la ?_ | refine w_ v_ls ?_ | refine w_ v_lr ?_ | refine w_ v_ln ?_ | refine w_ v_bd ?_ | refine w_ v_ba ?_ | refine w_ v_mf ?_ | refine w_ v_sap ?_ | refine w_ v_pkf ?_ | refine w_ v_pkt ?_ | refine w_ v_nl ?_ | refine w_ v_nn ?_ | refine e_ (f_st ?_) | refine e_ (f_al fun _ => ?_) | refine e_ (f_bx fun _ => ?_))
          refine e_ (f_c (fun w _ => place_does 0 1 3 w) fun v L' h => ?_)
          obtain ⟨rfl, rfl⟩ := h
          have hpl : placeM 0 1 3 = ⟨1, 1, 16255⟩ := by decide
          rw [hpl, ← hb1]
          refine e_ (f_cs (mpL M1) (fun b hb => hb) (fun w2 hw2 => findA_does (Pool.none.add R1) M1 l1 ⟨1, 1, 16255⟩ w2 hM1 (hw2.give (Spl.perm (by repeat (first | exact Spl.nil | exact Rem.head | apply Rem.tail | apply Spl.cons)))) (PoolAt.own hw2 (Spl.perm (by repeat (first | exact Spl.nil | exact Rem.head | apply Rem.tail | apply Spl.cons))) (fun e he => .tail _ he))) fun v L' h => ?_)
          rw [hf1] at h
          obtain ⟨pv, R3, rfl, ⟨q3, c3, rfl, -⟩, rfl⟩ := h
          dsimp only [Option.getD_some, Option.isSome_some]
          repeat (first | refine e_ (f_al fun b15 => ?_) | refine e_ (f_st (hl := pg_sAll rfl) (hc := pgC_length _ _ _) (hp := pgC_plain _ _ _) (hr := pgb (by omega)) ?_) | refine r_seq ?_ | refine ri_seq ?_ | refine ri_region ?_ | refine ri_skip ?_ | refine ri_block ?_ | refine xi_ ?_ | refine r_nil ?_ | refine r_region ?_ | refine r_skip ?_ | refine r_block ?_ | refine r_inBlock ?_ | refine x_ ?_ | refine w_ v_p ?_ | refine w_ v_cv ?_ | refine w_ v_and ?_ | refine w_ v_or ?_ | refine w_ v_f ?_ | refine w_ v_b ?_ | refine w_ v_r ?_ | refine w_ v_i ?_ | refine w_ v_a ?_ | refine w_ v_l ?_ | refine w_ v_la ?_ | refine w_ v_ls ?_ | refine w_ v_lr ?_ | refine w_ v_ln ?_ | refine w_ v_bd ?_ | refine w_ v_ba ?_ | refine w_ v_mf ?_ | refine w_ v_sap ?_ | refine w_ v_pkf ?_ | refine w_ v_pkt ?_ | refine w_ v_nl ?_ | refine w_ v_nn ?_ | refine e_ (f_st ?_) | refine e_ (f_al fun _ => ?_) | refine e_ (f_bx fun _ => ?_))
          cases ahead with
          | true =>
            refine c_ (t := true) (fun _ => ?_) (fun h => by cases h)
            repeat (first | refine r_seq ?_ | refine ri_seq ?_ | refine ri_region ?_ | refine ri_skip ?_ | refine ri_block ?_ | refine xi_ ?_ | refine r_nil ?_ | refine r_region ?_ | refine r_skip ?_ | refine r_block ?_ | refine r_inBlock ?_ | refine x_ ?_ | refine w_ v_p ?_ | refine w_ v_cv ?_ | refine w_ v_and ?_ | refine w_ v_or ?_ | refine w_ v_f ?_ | refine w_ v_b ?_ | refine w_ v_r ?_ | refine w_ v_i ?_ | refine w_ v_a ?_ | refine w_ v_l ?_ | refine w_ v_la ?_ | refine w_ v_ls ?_ | refine w_ v_lr ?_ | refine w_ v_ln ?_ | refine w_ v_bd ?_ | refine w_ v_ba ?_ | refine w_ v_mf ?_ | refine w_ v_sap ?_ | refine w_ v_pkf ?_ | refine w_ v_pkt ?_ | refine w_ v_nl ?_ | refine w_ v_nn ?_ | refine e_ (f_st ?_) | refine e_ (f_al fun _ => ?_) | refine e_ (f_bx fun _ => ?_))
            cases page with
            | true =>
              refine c_ (t := true) (fun _ => ?_) (fun h => by cases h)
              repeat (first | refine w_ (v_l (hv := pg_dflt rfl)) ?_ | refine w_ (v_l (hv := pg_extra rfl)) ?_ | refine w_ (v_l (hv := pg_linked rfl)) ?_ | refine r_seq ?_ | refine ri_seq ?_ | refine ri_region ?_ | refine ri_skip ?_ | refine ri_block ?_ | refine xi_ ?_ | refine r_nil ?_ | refine r_region ?_ | refine r_skip ?_ | refine r_block ?_ | refine r_inBlock ?_ | refine x_ ?_ | refine w_ v_p ?_ | refine w_ v_cv ?_ | refine w_ v_and ?_ | refine w_ v_or ?_ | refine w_ v_f ?_ | refine w_ v_b ?_ | refine w_ v_r ?_ | refine w_ v_i ?_ | refine w_ v_a ?_ | refine w_ v_l ?_ | refine w_ v_la ?_ | refine w_ v_ls ?_ | refine w_ v_lr ?_ | refine w_ v_ln ?_ | refine w_ v_bd ?_ | refine w_ v_ba ?_ | refine w_ v_mf ?_ | refine w_ v_sap ?_ | refine w_ v_pkf ?_ | refine w_ v_pkt ?_ | refine w_ v_nl ?_ | refine w_ v_nn ?_ | refine e_ (f_st ?_) | refine e_ (f_al fun _ => ?_) | refine e_ (f_bx fun _ => ?_))
              refine t2 (L' := []) (List.nil_sublist _) ⟨?_, rfl⟩
              show Value.bool _ = _
              congr 1
              simp [hf2, hf3, hf4]
            | false =>
              refine c_ (t := false) (fun h => by cases h) (fun _ => ?_)
              repeat (first | refine w_ (v_l (hv := pg_dflt rfl)) ?_ | refine w_ (v_l (hv := pg_extra rfl)) ?_ | refine w_ (v_l (hv := pg_linked rfl)) ?_ | refine r_seq ?_ | refine ri_seq ?_ | refine ri_region ?_ | refine ri_skip ?_ | refine ri_block ?_ | refine xi_ ?_ | refine r_nil ?_ | refine r_region ?_ | refine r_skip ?_ | refine r_block ?_ | refine r_inBlock ?_ | refine x_ ?_ | refine w_ v_p ?_ | refine w_ v_cv ?_ | refine w_ v_and ?_ | refine w_ v_or ?_ | refine w_ v_f ?_ | refine w_ v_b ?_ | refine w_ v_r ?_ | refine w_ v_i ?_ | refine w_ v_a ?_ | refine w_ v_l ?_ | refine w_ v_la ?_ | refine w_ v_ls ?_ | refine w_ v_lr ?_ | refine w_ v_ln ?_ | refine w_ v_bd ?_ | refine w_ v_ba ?_ | refine w_ v_mf ?_ | refine w_ v_sap ?_ | refine w_ v_pkf ?_ | refine w_ v_pkt ?_ | refine w_ v_nl ?_ | refine w_ v_nn ?_ | refine e_ (f_st ?_) | refine e_ (f_al fun _ => ?_) | refine e_ (f_bx fun _ => ?_))
              refine t2 (L' := []) (List.nil_sublist _) ⟨?_, rfl⟩
              show Value.bool _ = _
              congr 1
              simp [hf2, hf3, hf4]
          | false =>
            refine c_ (t := false) (fun h => by cases h) (fun _ => ?_)
            repeat (first | refine r_seq ?_ | refine ri_seq ?_ | refine ri_region ?_ | refine ri_skip ?_ | refine ri_block ?_ | refine xi_ ?_ | refine r_nil ?_ | refine r_region ?_ | refine r_skip ?_ | refine r_block ?_ | refine r_inBlock ?_ | refine x_ ?_ | refine w_ v_p ?_ | refine w_ v_cv ?_ | refine w_ v_and ?_ | refine w_ v_or ?_ | refine w_ v_f ?_ | refine w_ v_b ?_ | refine w_ v_r ?_ | refine w_ v_i ?_ | refine w_ v_a ?_ | refine w_ v_l ?_ | refine w_ v_la ?_ | refine w_ v_ls ?_ | refine w_ v_lr ?_ | refine w_ v_ln ?_ | refine w_ v_bd ?_ | refine w_ v_ba ?_ | refine w_ v_mf ?_ | refine w_ v_sap ?_ | refine w_ v_pkf ?_ | refine w_ v_pkt ?_ | refine w_ v_nl ?_ | refine w_ v_nn ?_ | refine e_ (f_st ?_) | refine e_ (f_al fun _ => ?_) | refine e_ (f_bx fun _ => ?_))
            cases page with
            | true =>
              refine c_ (t := true) (fun _ => ?_) (fun h => by cases h)
              repeat (first | refine w_ (v_l (hv := pg_dflt rfl)) ?_ | refine w_ (v_l (hv := pg_extra rfl)) ?_ | refine w_ (v_l (hv := pg_linked rfl)) ?_ | refine r_seq ?_ | refine ri_seq ?_ | refine ri_region ?_ | refine ri_skip ?_ | refine ri_block ?_ | refine xi_ ?_ | refine r_nil ?_ | refine r_region ?_ | refine r_skip ?_ | refine r_block ?_ | refine r_inBlock ?_ | refine x_ ?_ | refine w_ v_p ?_ | refine w_ v_cv ?_ | refine w_ v_and ?_ | refine w_ v_or ?_ | refine w_ v_f ?_ | refine w_ v_b ?_ | refine w_ v_r ?_ | refine w_ v_i ?_ | refine w_ v_a ?_ | refine w_ v_l ?_ | refine w_ v_la ?_ | refine w_ v_ls ?_ | refine w_ v_lr ?_ | refine w_ v_ln ?_ | refine w_ v_bd ?_ | refine w_ v_ba ?_ | refine w_ v_mf ?_ | refine w_ v_sap ?_ | refine w_ v_pkf ?_ | refine w_ v_pkt ?_ | refine w_ v_nl ?_ | refine w_ v_nn ?_ | refine e_ (f_st ?_) | refine e_ (f_al fun _ => ?_) | refine e_ (f_bx fun _ => ?_))
              refine t2 (L' := []) (List.nil_sublist _) ⟨?_, rfl⟩
              show Value.bool _ = _
              congr 1
              simp [hf2, hf3, hf4]
            | false =>
              refine c_ (t := false) (fun h => by cases h) (fun _ => ?_)
              repeat (first | refine w_ (v_l (hv := pg_dflt rfl)) ?_ | refine w_ (v_l (hv := pg_extra rfl)) ?_ | refine w_ (v_l (hv := pg_linked rfl)) ?_ | refine r_seq ?_ | refine ri_seq ?_ | refine ri_region ?_ | refine ri_skip ?_ | refine ri_block ?_ | refine xi_ ?_ | refine r_nil ?_ | refine r_region ?_ | refine r_skip ?_ | refine r_block ?_ | refine r_inBlock ?_ | refine x_ ?_ | refine w_ v_p ?_ | refine w_ v_cv ?_ | refine w_ v_and ?_ | refine w_ v_or ?_ | refine w_ v_f ?_ | refine w_ v_b ?_ | refine w_ v_r ?_ | refine w_ v_i ?_ | refine w_ v_a ?_ | refine w_ v_l ?_ | refine w_ v_la ?_ | refine w_ v_ls ?_ | refine w_ v_lr ?_ | refine w_ v_ln ?_ | refine w_ v_bd ?_ | refine w_ v_ba ?_ | refine w_ v_mf ?_ | refine w_ v_sap ?_ | refine w_ v_pkf ?_ | refine w_ v_pkt ?_ | refine w_ v_nl ?_ | refine w_ v_nn ?_ | refine e_ (f_st ?_) | refine e_ (f_al fun _ => ?_) | refine e_ (f_bx fun _ => ?_))
              refine t2 (L' := []) (List.nil_sublist _) ⟨?_, rfl⟩
              show Value.bool _ = _
              congr 1
              simp [hf2, hf3, hf4]
end Go.Proofs

