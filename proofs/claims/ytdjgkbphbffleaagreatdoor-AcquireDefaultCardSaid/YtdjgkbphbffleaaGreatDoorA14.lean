/-
  Contracts: packets taken; what the machine is asked.
-/
import Derived.Test.YtdjgkbphbffleaaGreatDoorA13
import Derived.Test.YtdjgkbphbffleaaGreatDoorA12
namespace Go.Cf
theorem PoolAt.give {K : Pool} {w0 : World} {F : List Nat} {L : Hp} (h : PoolAt K w0 F) {w : World} (hs : (St.mk w0 F L).holds w) {C R : Hp} (hp : L.Perm (C ++ R)) {F' : List Nat} (hF : ∀ b, b ∈ F' → b ∈ blks C) : PoolAt K w F' :=
  ⟨fun p c l hl => ⟨(h.p3 p c l hl).sl.give hs hp hF, (h.p3 p c l hl).nil, (h.p3 p c l hl).le⟩, fun p c t ht => ⟨(h.p1 p c t ht).1.give hs hp hF, (h.p1 p c t ht).2⟩, h.z, h.z1⟩

structure PkOk (k : Pk) : Prop where
  mag : 1 ≤ k.mag ∧ k.mag ≤ 8
  row : k.row < 100
  code : k.code < 16
  kind : 1 ≤ k.kind ∧ k.kind ≤ 7
  len : k.data.length ≤ 40
theorem kindOf_le (r : Nat) : kindOf r ≤ 7 := by
  unfold kindOf
  split
  · omega
  · split
    · omega
    · split
      · omega
      · split <;> omega
theorem readP_ok {b : List UInt8} {k : Pk} (h : readP b = .ok k) : PkOk k := by
  rw [readP] at h
  split at h
  · cases h
  · rename_i hl
    have hl : b.length = 42 := by simpa using hl
    split at h
    · rename_i x y ho
      have hlt := hamOpen_lt ho
      have hx : x < 16 := hlt x (by simp)
      have hy : y < 16 := hlt y (by simp)
      have hkl := kindOf_le (2 * y + x / 8)
      have hmag : 1 ≤ (if x % 8 = 0 then 8 else x % 8) ∧ (if x % 8 = 0 then 8 else x % 8) ≤ 8 := by split <;> omega
      dsimp only at h
      generalize (if x % 8 = 0 then 8 else x % 8) = mag at h hmag
      split at h
      · cases h
      · split at h
        · cases h
          exact ⟨hmag, by dsimp only; omega, by dsimp only; omega, by dsimp only; omega, by simp; omega⟩
        · split at h
          · cases h
          · rename_i c hc
            cases h
            exact ⟨hmag, by dsimp only; omega, hamGet_lt hc, by dsimp only; omega, by simp; omega⟩
    · cases h
end Go.Cf
namespace Go.Proofs
open Go.Cf
set_option maxRecDepth 10000

/-- What a packet leaves, with a row behind it. -/
theorem PkR.more {E : Nat → Value} {K : Pool} {bm : Nat} {r : Mach × Option Nat} {v : Value} {L : Hp} (h : PkR E K bm r v L) : PkR E K bm r v L := h

theorem packetP_does (E : Nat → Value) (K : Pool) (M : Mp) (l : List Pp) (b : List UInt8) (p : Option Addr) (cap m : Nat) (w : World) (hM : MOk K M l) (hw : (St.mk w (blks (mpL M)) (mpL M)).holds w) (hK : PoolAt K w (blks (mpL M))) (hG : Glob w (blks (mpL M)) E)
    (hm : b.length = m) (hle : m ≤ 1000) (hcap : m ≤ cap) (hs : Sl w (blks (mpL M)) p m 1 (bys b)) :
    Does Tryz.prog 18 [.pointer (some ⟨M.bm, 0, none⟩), .slice p m cap] w (blks (mpL M)) (PkR E K M.bm (packetM (absM M l) b)) := by
  subst hm
  refine does_ofM Tryz.func18 rfl rfl hw ?_
  generalize hFF : blks (mpL M) = FF at hw hK hG hs ⊢
  repeat (first | refine r_seq ?_ | refine ri_seq ?_ | refine ri_region ?_ | refine ri_skip ?_ | refine ri_block ?_ | refine xi_ ?_ | refine r_nil ?_ | refine r_region ?_ | refine r_skip ?_ | refine r_block ?_ | refine r_inBlock ?_ | refine x_ ?_ | refine w_ v_p ?_ | refine w_ v_cv ?_ | refine w_ v_and ?_ | refine w_ v_or ?_ | refine w_ v_f ?_ | refine w_ v_b ?_ | refine w_ v_r ?_ | refine w_ v_i ?_ | refine w_ v_a ?_ | refine w_ v_l ?_ | refine w_ v_la ?_ | refine w_ v_ls ?_ | refine w_ v_lr ?_ | refine w_ v_ln ?_ | refine w_ v_bd ?_ | refine w_ v_ba ?_ | refine w_ v_mf ?_ | refine w_ v_sap ?_ | refine w_ v_pkf ?_ | refine w_ v_pkt ?_ | refine w_ v_nl ?_ | refine w_ v_nn ?_ | refine e_ (f_st ?_) | refine e_ (f_al fun _ => ?_) | refine e_ (f_bx fun _ => ?_))
  refine e_ (f_c (fun w hw => read_does E b p cap w (hG.now hw) hle hcap (hs.now hw)) fun v L' h => ?_)
  cases hr : readP b with
  | error e =>
    simp only [ReadR, hr] at h
    obtain ⟨rfl, rfl⟩ := h
    have hne : nilOf 0 (E e) = some false := hG.some e
    have hh : packetM (absM M l) b = (absM M l, some e) := by rw [packetM, hr]
    rw [hh]
    repeat (first | refine w_ (v_nn (hv := hne)) ?_ | refine r_seq ?_ | refine ri_seq ?_ | refine ri_region ?_ | refine ri_skip ?_ | refine ri_block ?_ | refine xi_ ?_ | refine r_nil ?_ | refine r_region ?_ | refine r_skip ?_ | refine r_block ?_ | refine r_inBlock ?_ | refine x_ ?_ | refine w_ v_p ?_ | refine w_ v_cv ?_ | refine w_ v_and ?_ | refine w_ v_or ?_ | refine w_ v_f ?_ | refine w_ v_b ?_ | refine w_ v_r ?_ | refine w_ v_i ?_ | refine w_ v_a ?_ | refine w_ v_l ?_ | refine w_ v_la ?_ | refine w_ v_ls ?_ | refine w_ v_lr ?_ | refine w_ v_ln ?_ | refine w_ v_bd ?_ | refine w_ v_ba ?_ | refine w_ v_mf ?_ | refine w_ v_sap ?_ | refine w_ v_pkf ?_ | refine w_ v_pkt ?_ | refine w_ v_nl ?_ | refine w_ v_nn ?_ | refine e_ (f_st ?_) | refine e_ (f_al fun _ => ?_) | refine e_ (f_bx fun _ => ?_))
    refine c_ (t := true) (fun _ => ?_) (fun h => by cases h)
    repeat (first | refine r_seq ?_ | refine ri_seq ?_ | refine ri_region ?_ | refine ri_skip ?_ | refine ri_block ?_ | refine xi_ ?_ | refine r_nil ?_ | refine r_region ?_ | refine r_skip ?_ | refine r_block ?_ | refine r_inBlock ?_ | refine x_ ?_ | refine w_ v_p ?_ | refine w_ v_cv ?_ | refine w_ v_and ?_ | refine w_ v_or ?_ | refine w_ v_f ?_ | refine w_ v_b ?_ | refine w_ v_r ?_ | refine w_ v_i ?_ | refine w_ v_a ?_ | refine w_ v_l ?_ | refine w_ v_la ?_ | refine w_ v_ls ?_ | refine w_ v_lr ?_ | refine w_ v_ln ?_ | refine w_ v_bd ?_ | refine w_ v_ba ?_ | refine w_ v_mf ?_ | refine w_ v_sap ?_ | refine w_ v_pkf ?_ | refine w_ v_pkt ?_ | refine w_ v_nl ?_ | refine w_ v_nn ?_ | refine e_ (f_st ?_) | refine e_ (f_al fun _ => ?_) | refine e_ (f_bx fun _ => ?_))
    exact t2 (vs := [E e]) (.cons _ (List.Sublist.refl _)) (PkR.same hM (some e))
  | ok kd =>
    simp only [ReadR, hr] at h
    obtain ⟨q, c, rfl, rfl⟩ := h
    have hok := readP_ok hr
    have hh : packetM (absM M l) b = kindM (absM M l) kd := by rw [packetM, hr]
    rw [hh]
    repeat (first | refine e_ (f_al fun b5 => ?_) | refine r_seq ?_ | refine ri_seq ?_ | refine ri_region ?_ | refine ri_skip ?_ | refine ri_block ?_ | refine xi_ ?_ | refine r_nil ?_ | refine r_region ?_ | refine r_skip ?_ | refine r_block ?_ | refine r_inBlock ?_ | refine x_ ?_ | refine w_ v_p ?_ | refine w_ v_cv ?_ | refine w_ v_and ?_ | refine w_ v_or ?_ | refine w_ v_f ?_ | refine w_ v_b ?_ | refine w_ v_r ?_ | refine w_ v_i ?_ | refine w_ v_a ?_ | refine w_ v_l ?_ | refine w_ v_la ?_ | refine w_ v_ls ?_ | refine w_ v_lr ?_ | refine w_ v_ln ?_ | refine w_ v_bd ?_ | refine w_ v_ba ?_ | refine w_ v_mf ?_ | refine w_ v_sap ?_ | refine w_ v_pkf ?_ | refine w_ v_pkt ?_ | refine w_ v_nl ?_ | refine w_ v_nn ?_ | refine e_ (f_st ?_) | refine e_ (f_al fun _ => ?_) | refine e_ (f_bx fun _ => ?_))
    refine c_ (t := false) (fun h => by cases h) (fun _ => ?_)
    refine r_skip ?_
    repeat (first | refine r_seq ?_ | refine ri_seq ?_ | refine ri_region ?_ | refine ri_skip ?_ | refine ri_block ?_ | refine xi_ ?_ | refine r_nil ?_ | refine r_region ?_ | refine r_skip ?_ | refine r_block ?_ | refine r_inBlock ?_ | refine x_ ?_ | refine w_ v_p ?_ | refine w_ v_cv ?_ | refine w_ v_and ?_ | refine w_ v_or ?_ | refine w_ v_f ?_ | refine w_ v_b ?_ | refine w_ v_r ?_ | refine w_ v_i ?_ | refine w_ v_a ?_ | refine w_ v_l ?_ | refine w_ v_la ?_ | refine w_ v_ls ?_ | refine w_ v_lr ?_ | refine w_ v_ln ?_ | refine w_ v_bd ?_ | refine w_ v_ba ?_ | refine w_ v_mf ?_ | refine w_ v_sap ?_ | refine w_ v_pkf ?_ | refine w_ v_pkt ?_ | refine w_ v_nl ?_ | refine w_ v_nn ?_ | refine e_ (f_st ?_) | refine e_ (f_al fun _ => ?_) | refine e_ (f_bx fun _ => ?_))
    refine c_ (fun h1 => ?_) (fun h1 => ?_)
    · have hk : kd.kind = 1 := by simp only [beq_iff_eq] at h1; omega
      rw [kindM, if_pos hk]
      repeat (first | refine r_seq ?_ | refine ri_seq ?_ | refine ri_region ?_ | refine ri_skip ?_ | refine ri_block ?_ | refine xi_ ?_ | refine r_nil ?_ | refine r_region ?_ | refine r_skip ?_ | refine r_block ?_ | refine r_inBlock ?_ | refine x_ ?_ | refine w_ v_p ?_ | refine w_ v_cv ?_ | refine w_ v_and ?_ | refine w_ v_or ?_ | refine w_ v_f ?_ | refine w_ v_b ?_ | refine w_ v_r ?_ | refine w_ v_i ?_ | refine w_ v_a ?_ | refine w_ v_l ?_ | refine w_ v_la ?_ | refine w_ v_ls ?_ | refine w_ v_lr ?_ | refine w_ v_ln ?_ | refine w_ v_bd ?_ | refine w_ v_ba ?_ | refine w_ v_mf ?_ | refine w_ v_sap ?_ | refine w_ v_pkf ?_ | refine w_ v_pkt ?_ | refine w_ v_nl ?_ | refine w_ v_nn ?_ | refine e_ (f_st ?_) | refine e_ (f_al fun _ => ?_) | refine e_ (f_bx fun _ => ?_))
      refine e_ (f_cs (mpL M) (fun b hb => hb) (fun w2 hw2 => headerP_does E K M l kd q c _ w2 hM (hw2.give (Spl.perm (by repeat (first | exact Spl.nil | exact Rem.head | apply Rem.tail | apply Spl.cons)))) (hK.give hw2 (Spl.perm (by repeat (first | exact Spl.nil | exact Rem.head | apply Rem.tail | apply Spl.cons))) (fun b hb => hb)) (hG.give hw2 (Spl.perm (by repeat (first | exact Spl.nil | exact Rem.head | apply Rem.tail | apply Spl.cons))) (fun b hb => hb)) hok.mag rfl (sl_row_at hw2 (Spl.perm (by repeat (first | exact Spl.nil | exact Rem.head | apply Rem.tail | apply Spl.cons))) (fun b hb => hb) (by repeat (first | exact List.Mem.head _ | apply List.Mem.tail)))) fun v L' h => ?_)
      have hv := h.1
      subst hv
      repeat (first | refine r_seq ?_ | refine ri_seq ?_ | refine ri_region ?_ | refine ri_skip ?_ | refine ri_block ?_ | refine xi_ ?_ | refine r_nil ?_ | refine r_region ?_ | refine r_skip ?_ | refine r_block ?_ | refine r_inBlock ?_ | refine x_ ?_ | refine w_ v_p ?_ | refine w_ v_cv ?_ | refine w_ v_and ?_ | refine w_ v_or ?_ | refine w_ v_f ?_ | refine w_ v_b ?_ | refine w_ v_r ?_ | refine w_ v_i ?_ | refine w_ v_a ?_ | refine w_ v_l ?_ | refine w_ v_la ?_ | refine w_ v_ls ?_ | refine w_ v_lr ?_ | refine w_ v_ln ?_ | refine w_ v_bd ?_ | refine w_ v_ba ?_ | refine w_ v_mf ?_ | refine w_ v_sap ?_ | refine w_ v_pkf ?_ | refine w_ v_pkt ?_ | refine w_ v_nl ?_ | refine w_ v_nn ?_ | refine e_ (f_st ?_) | refine e_ (f_al fun _ => ?_) | refine e_ (f_bx fun _ => ?_))
      exact t2 (vs := [errV E (headerM (absM M l) kd).2]) (List.sublist_append_right _ _) h
    · have hk1 : ¬ kd.kind = 1 := by simp only [beq_eq_false_iff_ne, ne_eq] at h1; omega
      rw [kindM, if_neg hk1]
      repeat (first | refine r_seq ?_ | refine ri_seq ?_ | refine ri_region ?_ | refine ri_skip ?_ | refine ri_block ?_ | refine xi_ ?_ | refine r_nil ?_ | refine r_region ?_ | refine r_skip ?_ | refine r_block ?_ | refine r_inBlock ?_ | refine x_ ?_ | refine w_ v_p ?_ | refine w_ v_cv ?_ | refine w_ v_and ?_ | refine w_ v_or ?_ | refine w_ v_f ?_ | refine w_ v_b ?_ | refine w_ v_r ?_ | refine w_ v_i ?_ | refine w_ v_a ?_ | refine w_ v_l ?_ | refine w_ v_la ?_ | refine w_ v_ls ?_ | refine w_ v_lr ?_ | refine w_ v_ln ?_ | refine w_ v_bd ?_ | refine w_ v_ba ?_ | refine w_ v_mf ?_ | refine w_ v_sap ?_ | refine w_ v_pkf ?_ | refine w_ v_pkt ?_ | refine w_ v_nl ?_ | refine w_ v_nn ?_ | refine e_ (f_st ?_) | refine e_ (f_al fun _ => ?_) | refine e_ (f_bx fun _ => ?_))
      refine c_ (fun h2 => ?_) (fun h2 => ?_)
      · have hk : kd.kind = 6 := by simp only [beq_iff_eq] at h2; omega
        rw [if_pos hk]
        repeat (first | refine r_seq ?_ | refine ri_seq ?_ | refine ri_region ?_ | refine ri_skip ?_ | refine ri_block ?_ | refine xi_ ?_ | refine r_nil ?_ | refine r_region ?_ | refine r_skip ?_ | refine r_block ?_ | refine r_inBlock ?_ | refine x_ ?_ | refine w_ v_p ?_ | refine w_ v_cv ?_ | refine w_ v_and ?_ | refine w_ v_or ?_ | refine w_ v_f ?_ | refine w_ v_b ?_ | refine w_ v_r ?_ | refine w_ v_i ?_ | refine w_ v_a ?_ | refine w_ v_l ?_ | refine w_ v_la ?_ | refine w_ v_ls ?_ | refine w_ v_lr ?_ | refine w_ v_ln ?_ | refine w_ v_bd ?_ | refine w_ v_ba ?_ | refine w_ v_mf ?_ | refine w_ v_sap ?_ | refine w_ v_pkf ?_ | refine w_ v_pkt ?_ | refine w_ v_nl ?_ | refine w_ v_nn ?_ | refine e_ (f_st ?_) | refine e_ (f_al fun _ => ?_) | refine e_ (f_bx fun _ => ?_))
        refine e_ (f_c (fun w hw => region_does kd q c _ w rfl (sl_of_row hw (by repeat (first | exact List.Mem.head _ | apply List.Mem.tail)))) fun v L' h => ?_)
        obtain ⟨rfl, rfl⟩ := h
        repeat (first | refine r_seq ?_ | refine ri_seq ?_ | refine ri_region ?_ | refine ri_skip ?_ | refine ri_block ?_ | refine xi_ ?_ | refine r_nil ?_ | refine r_region ?_ | refine r_skip ?_ | refine r_block ?_ | refine r_inBlock ?_ | refine x_ ?_ | refine w_ v_p ?_ | refine w_ v_cv ?_ | refine w_ v_and ?_ | refine w_ v_or ?_ | refine w_ v_f ?_ | refine w_ v_b ?_ | refine w_ v_r ?_ | refine w_ v_i ?_ | refine w_ v_a ?_ | refine w_ v_l ?_ | refine w_ v_la ?_ | refine w_ v_ls ?_ | refine w_ v_lr ?_ | refine w_ v_ln ?_ | refine w_ v_bd ?_ | refine w_ v_ba ?_ | refine w_ v_mf ?_ | refine w_ v_sap ?_ | refine w_ v_pkf ?_ | refine w_ v_pkt ?_ | refine w_ v_nl ?_ | refine w_ v_nn ?_ | refine e_ (f_st ?_) | refine e_ (f_al fun _ => ?_) | refine e_ (f_bx fun _ => ?_))
        cases hrg : regionM kd with
        | none =>
          refine c_ (t := false) (fun h => by cases h) (fun _ => ?_)
          repeat (first | refine r_seq ?_ | refine ri_seq ?_ | refine ri_region ?_ | refine ri_skip ?_ | refine ri_block ?_ | refine xi_ ?_ | refine r_nil ?_ | refine r_region ?_ | refine r_skip ?_ | refine r_block ?_ | refine r_inBlock ?_ | refine x_ ?_ | refine w_ v_p ?_ | refine w_ v_cv ?_ | refine w_ v_and ?_ | refine w_ v_or ?_ | refine w_ v_f ?_ | refine w_ v_b ?_ | refine w_ v_r ?_ | refine w_ v_i ?_ | refine w_ v_a ?_ | refine w_ v_l ?_ | refine w_ v_la ?_ | refine w_ v_ls ?_ | refine w_ v_lr ?_ | refine w_ v_ln ?_ | refine w_ v_bd ?_ | refine w_ v_ba ?_ | refine w_ v_mf ?_ | refine w_ v_sap ?_ | refine w_ v_pkf ?_ | refine w_ v_pkt ?_ | refine w_ v_nl ?_ | refine w_ v_nn ?_ | refine e_ (f_st ?_) | refine e_ (f_al fun _ => ?_) | refine e_ (f_bx fun _ => ?_))
          exact t2 (vs := [.nilIface]) (.cons _ (.cons _ (List.Sublist.refl _))) (PkR.same hM none)
        | some r =>
          refine c_ (t := true) (fun _ => ?_) (fun h => by cases h)
          have hr16 := region_lt hrg
          dsimp only [Option.getD_some]
          have hi : kd.mag < 9 := by have := hok.mag; omega
          repeat refine r_seq ?_
          refine d_in ([.cells b5 (pkC kd.mag kd.row kd.kind kd.code (.slice q kd.data.length c)) 130]) [] ?_
          first | (refine dp 0 ?_; first | refine tp (fun _ => v_p) ?_)
          first | (refine dp 1 ?_; first | refine tp (fun _ => v_f) ?_)
          first | (refine dw 2 ?_; first | refine tw (v_l) ?_ | refine tw (v_la) ?_ | refine tw (v_ls) ?_ | refine tw (v_lr) ?_ | refine tw ((v_ge hG)) ?_)
          first | (refine dp 3 ?_; first | refine tp (fun _ => v_p) ?_)
          first | (refine dp 4 ?_; first | refine tp (fun _ => v_f) ?_)
          first | (refine dw 5 ?_; first | refine tw (v_l) ?_ | refine tw (v_la) ?_ | refine tw (v_ls) ?_ | refine tw (v_lr) ?_ | refine tw ((v_ge hG)) ?_)
          first | (refine dp 6 ?_; first | refine tp (fun _ => v_p) ?_)
          first | (refine dp 7 ?_; first | refine tp (fun _ => v_p) ?_)
          first | (refine dp 8 ?_; first | refine tp (fun _ => v_f) ?_)
          first | (refine dp 9 ?_; first | refine tp (fun _ => v_a) ?_ | refine tp (fun _ => v_i) ?_) | (refine dw 9 ?_; first | refine tw (v_b) ?_ | refine tw (v_r) ?_)
          first | (refine dp 10 ?_; first | refine tp (fun _ => v_f) ?_)
          first | (refine dp 12 ?_; first | refine tp (fun _ => v_p) ?_)
          first | (refine dp 13 ?_; first | refine tp (fun _ => v_f) ?_)
          refine d_e 11 ?_
          first | refine f_st (hl := mc_spl (k := kd.mag) hi (by simp) (mg_sRegion (n := r) rfl rfl) (by simp)) (hr := mcb (by simp; omega)) ⟨?_, ?_⟩ | refine f_st ⟨?_, ?_⟩
          · first | exact st_n | exact st_l rfl | exact st_s (by repeat (first | exact List.Sublist.refl _ | exact List.nil_sublist _ | exact List.sublist_append_right _ _ | apply List.Sublist.cons_cons | apply List.Sublist.cons))
          first | (refine dp 14 ?_; first | refine tp (fun _ => v_a) ?_ | refine tp (fun _ => v_i) ?_) | (refine dw 14 ?_; first | refine tw (v_b) ?_ | refine tw (v_r) ?_)
          first | (refine dp 15 ?_; first | refine tp (fun _ => v_f) ?_)
          refine d_e 16 ?_
          first | refine f_st (hl := mc_spl (k := kd.mag) hi (by simp) (mg_sTold rfl) (by simp)) (hr := mcb (by simp; omega)) ⟨?_, ?_⟩ | refine f_st ⟨?_, ?_⟩
          · first | exact st_n | exact st_l rfl | exact st_s (by repeat (first | exact List.Sublist.refl _ | exact List.nil_sublist _ | exact List.sublist_append_right _ _ | apply List.Sublist.cons_cons | apply List.Sublist.cons))
          refine d_z ?_
          repeat (first | rw [updF_twice] | rw [updF_same])
          dsimp only
          repeat (first | refine r_seq ?_ | refine ri_seq ?_ | refine ri_region ?_ | refine ri_skip ?_ | refine ri_block ?_ | refine xi_ ?_ | refine r_nil ?_ | refine r_region ?_ | refine r_skip ?_ | refine r_block ?_ | refine r_inBlock ?_ | refine x_ ?_ | refine w_ v_p ?_ | refine w_ v_cv ?_ | refine w_ v_and ?_ | refine w_ v_or ?_ | refine w_ v_f ?_ | refine w_ v_b ?_ | refine w_ v_r ?_ | refine w_ v_i ?_ | refine w_ v_a ?_ | refine w_ v_l ?_ | refine w_ v_la ?_ | refine w_ v_ls ?_ | refine w_ v_lr ?_ | refine w_ v_ln ?_ | refine w_ v_bd ?_ | refine w_ v_ba ?_ | refine w_ v_mf ?_ | refine w_ v_sap ?_ | refine w_ v_pkf ?_ | refine w_ v_pkt ?_ | refine w_ v_nl ?_ | refine w_ v_nn ?_ | refine e_ (f_st ?_) | refine e_ (f_al fun _ => ?_) | refine e_ (f_bx fun _ => ?_))
          refine r_ord (M := mpL ⟨M.bm, M.st, updF M.f kd.mag { M.f kd.mag with region := r, told := true }, M.inf, M.told⟩) ?_
          refine t2 (vs := [.nilIface]) (List.Sublist.refl _) ⟨rfl, ⟨M.bm, M.st, updF M.f kd.mag { M.f kd.mag with region := r, told := true }, M.inf, M.told⟩, l, [], by rw [List.append_nil], ⟨hM.len, hM.most, hM.ok, hM.kv, fun x hx => .inl (hM.pgs x hx), ?_, ?_, ?_⟩, rfl, ?_⟩
          · exact upd_all (P := fun m : Mg => (K.add []).p3 m.pg.p m.pg.c m.pg.g.extra) (fun j => .inl (hM.mgs j)) (.inl (hM.mgs kd.mag))
          · exact upd_all (P := fun m : Mg => (K.add []).p1 m.tp m.tc m.text) (fun j => .inl (hM.txt j)) (.inl (hM.txt kd.mag))
          · exact upd_all (P := fun m : Mg => m.region < 16) hM.reg hr16
          · simp only [absM, abs_upd]; rfl
      · have hk6 : ¬ kd.kind = 6 := by simp only [beq_eq_false_iff_ne, ne_eq] at h2; omega
        rw [if_neg hk6]
        repeat (first | refine r_seq ?_ | refine ri_seq ?_ | refine ri_region ?_ | refine ri_skip ?_ | refine ri_block ?_ | refine xi_ ?_ | refine r_nil ?_ | refine r_region ?_ | refine r_skip ?_ | refine r_block ?_ | refine r_inBlock ?_ | refine x_ ?_ | refine w_ v_p ?_ | refine w_ v_cv ?_ | refine w_ v_and ?_ | refine w_ v_or ?_ | refine w_ v_f ?_ | refine w_ v_b ?_ | refine w_ v_r ?_ | refine w_ v_i ?_ | refine w_ v_a ?_ | refine w_ v_l ?_ | refine w_ v_la ?_ | refine w_ v_ls ?_ | refine w_ v_lr ?_ | refine w_ v_ln ?_ | refine w_ v_bd ?_ | refine w_ v_ba ?_ | refine w_ v_mf ?_ | refine w_ v_sap ?_ | refine w_ v_pkf ?_ | refine w_ v_pkt ?_ | refine w_ v_nl ?_ | refine w_ v_nn ?_ | refine e_ (f_st ?_) | refine e_ (f_al fun _ => ?_) | refine e_ (f_bx fun _ => ?_))
        refine c_ (fun h3 => ?_) (fun h3 => ?_)
        · have hk : kd.kind = 7 := by simp only [beq_iff_eq] at h3; omega
          rw [if_pos hk]
          repeat (first | refine r_seq ?_ | refine ri_seq ?_ | refine ri_region ?_ | refine ri_skip ?_ | refine ri_block ?_ | refine xi_ ?_ | refine r_nil ?_ | refine r_region ?_ | refine r_skip ?_ | refine r_block ?_ | refine r_inBlock ?_ | refine x_ ?_ | refine w_ v_p ?_ | refine w_ v_cv ?_ | refine w_ v_and ?_ | refine w_ v_or ?_ | refine w_ v_f ?_ | refine w_ v_b ?_ | refine w_ v_r ?_ | refine w_ v_i ?_ | refine w_ v_a ?_ | refine w_ v_l ?_ | refine w_ v_la ?_ | refine w_ v_ls ?_ | refine w_ v_lr ?_ | refine w_ v_ln ?_ | refine w_ v_bd ?_ | refine w_ v_ba ?_ | refine w_ v_mf ?_ | refine w_ v_sap ?_ | refine w_ v_pkf ?_ | refine w_ v_pkt ?_ | refine w_ v_nl ?_ | refine w_ v_nn ?_ | refine e_ (f_st ?_) | refine e_ (f_al fun _ => ?_) | refine e_ (f_bx fun _ => ?_))
          refine e_ (f_c (fun w hw => servRead_does E kd q c _ w (hG.now hw) rfl (sl_of_row hw (by repeat (first | exact List.Mem.head _ | apply List.Mem.tail)))) fun v L' h => ?_)
          cases hrs : readS kd with
          | error e =>
            simp only [ServR, hrs] at h
            obtain ⟨rfl, rfl⟩ := h
            have hne : nilOf 0 (E e) = some false := hG.some e
            repeat (first | refine e_ (f_al fun b9 => ?_) | refine w_ (v_nl (hv := hne)) ?_ | refine r_seq ?_ | refine ri_seq ?_ | refine ri_region ?_ | refine ri_skip ?_ | refine ri_block ?_ | refine xi_ ?_ | refine r_nil ?_ | refine r_region ?_ | refine r_skip ?_ | refine r_block ?_ | refine r_inBlock ?_ | refine x_ ?_ | refine w_ v_p ?_ | refine w_ v_cv ?_ | refine w_ v_and ?_ | refine w_ v_or ?_ | refine w_ v_f ?_ | refine w_ v_b ?_ | refine w_ v_r ?_ | refine w_ v_i ?_ | refine w_ v_a ?_ | refine w_ v_l ?_ | refine w_ v_la ?_ | refine w_ v_ls ?_ | refine w_ v_lr ?_ | refine w_ v_ln ?_ | refine w_ v_bd ?_ | refine w_ v_ba ?_ | refine w_ v_mf ?_ | refine w_ v_sap ?_ | refine w_ v_pkf ?_ | refine w_ v_pkt ?_ | refine w_ v_nl ?_ | refine w_ v_nn ?_ | refine e_ (f_st ?_) | refine e_ (f_al fun _ => ?_) | refine e_ (f_bx fun _ => ?_))
            refine c_ (t := false) (fun h => by cases h) (fun _ => ?_)
            repeat (first | refine r_seq ?_ | refine ri_seq ?_ | refine ri_region ?_ | refine ri_skip ?_ | refine ri_block ?_ | refine xi_ ?_ | refine r_nil ?_ | refine r_region ?_ | refine r_skip ?_ | refine r_block ?_ | refine r_inBlock ?_ | refine x_ ?_ | refine w_ v_p ?_ | refine w_ v_cv ?_ | refine w_ v_and ?_ | refine w_ v_or ?_ | refine w_ v_f ?_ | refine w_ v_b ?_ | refine w_ v_r ?_ | refine w_ v_i ?_ | refine w_ v_a ?_ | refine w_ v_l ?_ | refine w_ v_la ?_ | refine w_ v_ls ?_ | refine w_ v_lr ?_ | refine w_ v_ln ?_ | refine w_ v_bd ?_ | refine w_ v_ba ?_ | refine w_ v_mf ?_ | refine w_ v_sap ?_ | refine w_ v_pkf ?_ | refine w_ v_pkt ?_ | refine w_ v_nl ?_ | refine w_ v_nn ?_ | refine e_ (f_st ?_) | refine e_ (f_al fun _ => ?_) | refine e_ (f_bx fun _ => ?_))
            exact t2 (vs := [E e]) (.cons _ (.cons _ (.cons _ (List.Sublist.refl _)))) (PkR.same hM (some e))
          | ok i =>
            simp only [ServR, hrs] at h
            obtain ⟨rfl, rfl⟩ := h
            repeat (first | refine e_ (f_al fun b9 => ?_) | refine r_seq ?_ | refine ri_seq ?_ | refine ri_region ?_ | refine ri_skip ?_ | refine ri_block ?_ | refine xi_ ?_ | refine r_nil ?_ | refine r_region ?_ | refine r_skip ?_ | refine r_block ?_ | refine r_inBlock ?_ | refine x_ ?_ | refine w_ v_p ?_ | refine w_ v_cv ?_ | refine w_ v_and ?_ | refine w_ v_or ?_ | refine w_ v_f ?_ | refine w_ v_b ?_ | refine w_ v_r ?_ | refine w_ v_i ?_ | refine w_ v_a ?_ | refine w_ v_l ?_ | refine w_ v_la ?_ | refine w_ v_ls ?_ | refine w_ v_lr ?_ | refine w_ v_ln ?_ | refine w_ v_bd ?_ | refine w_ v_ba ?_ | refine w_ v_mf ?_ | refine w_ v_sap ?_ | refine w_ v_pkf ?_ | refine w_ v_pkt ?_ | refine w_ v_nl ?_ | refine w_ v_nn ?_ | refine e_ (f_st ?_) | refine e_ (f_al fun _ => ?_) | refine e_ (f_bx fun _ => ?_))
            refine c_ (t := true) (fun _ => ?_) (fun h => by cases h)
            repeat (first | refine e_ (f_st (vs := infC i) (hl := mc_sInf rfl) (hr := mcb (by omega)) ?_) | refine e_ (f_st (hl := mc_sTold rfl) (hr := mcb (by omega)) ?_) | refine r_seq ?_ | refine ri_seq ?_ | refine ri_region ?_ | refine ri_skip ?_ | refine ri_block ?_ | refine xi_ ?_ | refine r_nil ?_ | refine r_region ?_ | refine r_skip ?_ | refine r_block ?_ | refine r_inBlock ?_ | refine x_ ?_ | refine w_ v_p ?_ | refine w_ v_cv ?_ | refine w_ v_and ?_ | refine w_ v_or ?_ | refine w_ v_f ?_ | refine w_ v_b ?_ | refine w_ v_r ?_ | refine w_ v_i ?_ | refine w_ v_a ?_ | refine w_ v_l ?_ | refine w_ v_la ?_ | refine w_ v_ls ?_ | refine w_ v_lr ?_ | refine w_ v_ln ?_ | refine w_ v_bd ?_ | refine w_ v_ba ?_ | refine w_ v_mf ?_ | refine w_ v_sap ?_ | refine w_ v_pkf ?_ | refine w_ v_pkt ?_ | refine w_ v_nl ?_ | refine w_ v_nn ?_ | refine e_ (f_st ?_) | refine e_ (f_al fun _ => ?_) | refine e_ (f_bx fun _ => ?_))
            refine r_ord (M := mpL ⟨M.bm, M.st, M.f, i, true⟩) ?_
            exact t2 (vs := [.nilIface]) (List.Sublist.refl _) ⟨rfl, ⟨M.bm, M.st, M.f, i, true⟩, l, [], by rw [List.append_nil], ⟨hM.len, hM.most, hM.ok, hM.kv, fun x hx => .inl (hM.pgs x hx), fun j => .inl (hM.mgs j), fun j => .inl (hM.txt j), hM.reg⟩, rfl, rfl⟩
        · have hk7 : ¬ kd.kind = 7 := by simp only [beq_eq_false_iff_ne, ne_eq] at h3; omega
          rw [if_neg hk7]
          repeat (first | refine r_seq ?_ | refine ri_seq ?_ | refine ri_region ?_ | refine ri_skip ?_ | refine ri_block ?_ | refine xi_ ?_ | refine r_nil ?_ | refine r_region ?_ | refine r_skip ?_ | refine r_block ?_ | refine r_inBlock ?_ | refine x_ ?_ | refine w_ v_p ?_ | refine w_ v_cv ?_ | refine w_ v_and ?_ | refine w_ v_or ?_ | refine w_ v_f ?_ | refine w_ v_b ?_ | refine w_ v_r ?_ | refine w_ v_i ?_ | refine w_ v_a ?_ | refine w_ v_l ?_ | refine w_ v_la ?_ | refine w_ v_ls ?_ | refine w_ v_lr ?_ | refine w_ v_ln ?_ | refine w_ v_bd ?_ | refine w_ v_ba ?_ | refine w_ v_mf ?_ | refine w_ v_sap ?_ | refine w_ v_pkf ?_ | refine w_ v_pkt ?_ | refine w_ v_nl ?_ | refine w_ v_nn ?_ | refine e_ (f_st ?_) | refine e_ (f_al fun _ => ?_) | refine e_ (f_bx fun _ => ?_))
          refine e_ (f_cs (mpL M) (fun b hb => hb) (fun w2 hw2 => inside_does E K M l kd q c _ w2 hM (hw2.give (Spl.perm (by repeat (first | exact Spl.nil | exact Rem.head | apply Rem.tail | apply Spl.cons)))) (hK.give hw2 (Spl.perm (by repeat (first | exact Spl.nil | exact Rem.head | apply Rem.tail | apply Spl.cons))) (fun b hb => hb)) (hG.give hw2 (Spl.perm (by repeat (first | exact Spl.nil | exact Rem.head | apply Rem.tail | apply Spl.cons))) (fun b hb => hb)) hok.mag hok.row hok.code rfl (sl_row_at hw2 (Spl.perm (by repeat (first | exact Spl.nil | exact Rem.head | apply Rem.tail | apply Spl.cons))) (fun b hb => hb) (by repeat (first | exact List.Mem.head _ | apply List.Mem.tail)))) fun v L' h => ?_)
          have hv := h.1
          subst hv
          have hn : (insideM (absM M l) kd).2 = none := by
            rw [insideM]; split
            · split
              · rfl
              · split
                · rfl
                · split
                  · rfl
                  · split <;> rfl
            · rfl
          repeat (first | refine r_seq ?_ | refine ri_seq ?_ | refine ri_region ?_ | refine ri_skip ?_ | refine ri_block ?_ | refine xi_ ?_ | refine r_nil ?_ | refine r_region ?_ | refine r_skip ?_ | refine r_block ?_ | refine r_inBlock ?_ | refine x_ ?_ | refine w_ v_p ?_ | refine w_ v_cv ?_ | refine w_ v_and ?_ | refine w_ v_or ?_ | refine w_ v_f ?_ | refine w_ v_b ?_ | refine w_ v_r ?_ | refine w_ v_i ?_ | refine w_ v_a ?_ | refine w_ v_l ?_ | refine w_ v_la ?_ | refine w_ v_ls ?_ | refine w_ v_lr ?_ | refine w_ v_ln ?_ | refine w_ v_bd ?_ | refine w_ v_ba ?_ | refine w_ v_mf ?_ | refine w_ v_sap ?_ | refine w_ v_pkf ?_ | refine w_ v_pkt ?_ | refine w_ v_nl ?_ | refine w_ v_nn ?_ | refine e_ (f_st ?_) | refine e_ (f_al fun _ => ?_) | refine e_ (f_bx fun _ => ?_))
          exact t2 (vs := [.nilIface]) (List.sublist_append_right _ _) ⟨by rw [hn]; rfl, h.2⟩
end Go.Proofs

namespace Go.Cf
open Go.Proofs
def mg0 : Mg := ⟨false, pp0, ⟨⟨0, 0, 0⟩, fun _ => false, 0⟩, [], none, 0, false, 0, false⟩
/-- The machine at its beginning. -/
def mach0 (most : Int) : Mach := ⟨most, [], ⟨0, 0, 0⟩, false, fun _ => mg0.abs, inf0, false⟩
structure De where
  kind : Int
  mag : Int
  page : Int
  sub : Int
  num : Int
abbrev deC (d : De) (v5 v6 v7 v8 : Value) : List Value := [.int .i64 d.kind, .int .i64 d.mag, .int .i64 d.page, .int .i64 d.sub, .int .i64 d.num, v5, v6, v7, v8]
def De.pl (d : De) : Pl := placeM d.mag d.page d.sub
def De.bit (d : De) (i : Nat) : Bool := decide (d.num / 2 ^ i % 2 = 1)
def De.hd (d : De) : Hd := ⟨d.pl, d.bit, 0⟩
def regZ (d : De) : Int := d.num % 16 * 1024 + d.sub % 5 / 4
def regL (d : De) : List Tr := trOf (regZ d) :: List.replicate 12 ⟨0, 0, 0⟩
/-- The bytes of a description: kinds 1, 2, 5, 6. -/
def deB (d : De) (t : List UInt8) : List UInt8 :=
  if d.kind = 1 then headB d.hd (oddT t 32)
  else if d.kind = 2 then packB d.pl.mag (d.num % 25).toNat (oddT t 40)
  else tripB d.pl.mag (23 + d.kind).toNat (d.page % 3 / 2 * 3).toNat (regL d)
theorem right_pl (d : De) : Right d.pl := by
  have h : ∀ a < 3, ∀ b < 8, ∀ c < 4, (fun p : Pl => 1 ≤ p.mag ∧ p.mag ≤ 8 ∧ p.page < 256 ∧ p.sub < 16384 ∧ bw .andNot .i64 (p.sub : Int) 16255 = 0) ⟨a + 1, pagesL.getD b 0, subsL.getD c 0⟩ := by decide
  have := h (d.mag % 3).toNat (by omega) (d.page % 8).toNat (by omega) (d.sub % 4).toNat (by omega)
  exact this
end Go.Cf

namespace Go.Cf
open Go.Proofs
def mcZ : List Value := [.pointer none] ++ (flatN 9 (fun _ => mgC mg0) ++ (infC inf0 ++ [.bool false]))
theorem mcZ_set (bs : Nat) : splice mcZ 0 [.pointer (some ⟨bs, 0, none⟩)] = mcC bs (fun _ => mg0) inf0 false := by rw [mcC]; rfl
theorem mcZ_length : mcZ.length = 9741 := by
  simp only [mcZ, List.length_append, flatN_length 9 (flat9 fun _ => mg0), List.length_cons, List.length_nil]
end Go.Cf
namespace Go.Proofs
open Go.Cf
set_option maxRecDepth 10000

instance : TyZ Tryz.prog 128 mcZ := ⟨by kernel_rfl⟩

/-- What 'acquire.New' hands back. -/
def NewR (E : Nat → Value) (most : Int) (v : Value) (L : Hp) : Prop :=
  if most < 1 ∨ 800 < most then v = .tuple #[.pointer none, E 0] ∧ L = [] else ∃ M, v = .tuple #[.pointer (some ⟨M.bm, 0, none⟩), .nilIface] ∧ L = mpL M ∧ MOk Pool.none M [] ∧ absM M [] = mach0 most

theorem newA_does (E : Nat → Value) (most : Int) (w : World) (hG : Glob w [] E) : Does Tryz.prog 17 [.int .i64 most] w [] (NewR E most) := by
  refine does_of Tryz.func17 rfl rfl ?_
  repeat (first | refine r_seq ?_ | refine ri_seq ?_ | refine ri_region ?_ | refine ri_skip ?_ | refine ri_block ?_ | refine xi_ ?_ | refine r_nil ?_ | refine r_region ?_ | refine r_skip ?_ | refine r_block ?_ | refine r_inBlock ?_ | refine x_ ?_ | refine w_ v_p ?_ | refine w_ v_cv ?_ | refine w_ v_and ?_ | refine w_ v_or ?_ | refine w_ v_f ?_ | refine w_ v_b ?_ | refine w_ v_r ?_ | refine w_ v_i ?_ | refine w_ v_a ?_ | refine w_ v_l ?_ | refine w_ v_la ?_ | refine w_ v_ls ?_ | refine w_ v_lr ?_ | refine w_ v_ln ?_ | refine w_ v_bd ?_ | refine w_ v_ba ?_ | refine w_ v_mf ?_ | refine w_ v_sap ?_ | refine w_ v_pkf ?_ | refine w_ v_pkt ?_ | refine w_ v_nl ?_ | refine w_ v_nn ?_ | refine e_ (f_st ?_) | refine e_ (f_al fun _ => ?_) | refine e_ (f_bx fun _ => ?_))
  refine e_ (f_c (fun w hw => newS_does E most w (hG.now hw)) fun v L' h => ?_)
  by_cases hb : most < 1 ∨ 800 < most
  · rw [NewS, if_pos hb] at h
    obtain ⟨rfl, rfl⟩ := h
    have hne : nilOf 0 (E 0) = some false := hG.some 0
    repeat (first | refine w_ (v_nn (hv := hne)) ?_ | refine r_seq ?_ | refine ri_seq ?_ | refine ri_region ?_ | refine ri_skip ?_ | refine ri_block ?_ | refine xi_ ?_ | refine r_nil ?_ | refine r_region ?_ | refine r_skip ?_ | refine r_block ?_ | refine r_inBlock ?_ | refine x_ ?_ | refine w_ v_p ?_ | refine w_ v_cv ?_ | refine w_ v_and ?_ | refine w_ v_or ?_ | refine w_ v_f ?_ | refine w_ v_b ?_ | refine w_ v_r ?_ | refine w_ v_i ?_ | refine w_ v_a ?_ | refine w_ v_l ?_ | refine w_ v_la ?_ | refine w_ v_ls ?_ | refine w_ v_lr ?_ | refine w_ v_ln ?_ | refine w_ v_bd ?_ | refine w_ v_ba ?_ | refine w_ v_mf ?_ | refine w_ v_sap ?_ | refine w_ v_pkf ?_ | refine w_ v_pkt ?_ | refine w_ v_nl ?_ | refine w_ v_nn ?_ | refine e_ (f_st ?_) | refine e_ (f_al fun _ => ?_) | refine e_ (f_bx fun _ => ?_))
    refine c_ (t := true) (fun _ => ?_) (fun h => by cases h)
    repeat (first | refine r_seq ?_ | refine ri_seq ?_ | refine ri_region ?_ | refine ri_skip ?_ | refine ri_block ?_ | refine xi_ ?_ | refine r_nil ?_ | refine r_region ?_ | refine r_skip ?_ | refine r_block ?_ | refine r_inBlock ?_ | refine x_ ?_ | refine w_ v_p ?_ | refine w_ v_cv ?_ | refine w_ v_and ?_ | refine w_ v_or ?_ | refine w_ v_f ?_ | refine w_ v_b ?_ | refine w_ v_r ?_ | refine w_ v_i ?_ | refine w_ v_a ?_ | refine w_ v_l ?_ | refine w_ v_la ?_ | refine w_ v_ls ?_ | refine w_ v_lr ?_ | refine w_ v_ln ?_ | refine w_ v_bd ?_ | refine w_ v_ba ?_ | refine w_ v_mf ?_ | refine w_ v_sap ?_ | refine w_ v_pkf ?_ | refine w_ v_pkt ?_ | refine w_ v_nl ?_ | refine w_ v_nn ?_ | refine e_ (f_st ?_) | refine e_ (f_al fun _ => ?_) | refine e_ (f_bx fun _ => ?_))
    refine t2 (vs := [.pointer none, E 0]) (List.nil_sublist _) ?_
    rw [NewR, if_pos hb]
    exact ⟨rfl, rfl⟩
  · rw [NewS, if_neg hb] at h
    obtain ⟨bs, bm, rfl, rfl⟩ := h
    repeat (first | refine r_seq ?_ | refine ri_seq ?_ | refine ri_region ?_ | refine ri_skip ?_ | refine ri_block ?_ | refine xi_ ?_ | refine r_nil ?_ | refine r_region ?_ | refine r_skip ?_ | refine r_block ?_ | refine r_inBlock ?_ | refine x_ ?_ | refine w_ v_p ?_ | refine w_ v_cv ?_ | refine w_ v_and ?_ | refine w_ v_or ?_ | refine w_ v_f ?_ | refine w_ v_b ?_ | refine w_ v_r ?_ | refine w_ v_i ?_ | refine w_ v_a ?_ | refine w_ v_l ?_ | refine w_ v_la ?_ | refine w_ v_ls ?_ | refine w_ v_lr ?_ | refine w_ v_ln ?_ | refine w_ v_bd ?_ | refine w_ v_ba ?_ | refine w_ v_mf ?_ | refine w_ v_sap ?_ | refine w_ v_pkf ?_ | refine w_ v_pkt ?_ | refine w_ v_nl ?_ | refine w_ v_nn ?_ | refine e_ (f_st ?_) | refine e_ (f_al fun _ => ?_) | refine e_ (f_bx fun _ => ?_))
    refine c_ (t := false) (fun h => by cases h) (fun _ => ?_)
    repeat (first | refine w_ (v_bd (l := mcC bs (fun _ => mg0) inf0 false) (hl := fp_c (vs := [.pointer (some ⟨bs, 0, none⟩)]) rfl (co2 rfl) (mcZ_set bs) rfl (Nat.ble_eq_true_of_le (show 0 + 1 ≤ mcZ.length by rw [mcZ_length]; omega)) fp_n)) ?_ | refine e_ (f_bx (c := mcC bs (fun _ => mg0) inf0 false) fun b => ?_) | refine r_seq ?_ | refine ri_seq ?_ | refine ri_region ?_ | refine ri_skip ?_ | refine ri_block ?_ | refine xi_ ?_ | refine r_nil ?_ | refine r_region ?_ | refine r_skip ?_ | refine r_block ?_ | refine r_inBlock ?_ | refine x_ ?_ | refine w_ v_p ?_ | refine w_ v_cv ?_ | refine w_ v_and ?_ | refine w_ v_or ?_ | refine w_ v_f ?_ | refine w_ v_b ?_ | refine w_ v_r ?_ | refine w_ v_i ?_ | refine w_ v_a ?_ | refine w_ v_l ?_ | refine w_ v_la ?_ | refine w_ v_ls ?_ | refine w_ v_lr ?_ | refine w_ v_ln ?_ | refine w_ v_bd ?_ | refine w_ v_ba ?_ | refine w_ v_mf ?_ | refine w_ v_sap ?_ | refine w_ v_pkf ?_ | refine w_ v_pkt ?_ | refine w_ v_nl ?_ | refine w_ v_nn ?_ | refine e_ (f_st ?_) | refine e_ (f_al fun _ => ?_) | refine e_ (f_bx fun _ => ?_))
    rename_i b
    refine t2 (vs := [.pointer (some ⟨b, 0, none⟩), .nilIface]) (List.Sublist.refl _) ?_
    rw [NewR, if_neg hb]
    refine ⟨⟨b, ⟨most, bs, bm, none, 0, [], [], 0, ⟨0, 0, 0⟩, false⟩, fun _ => mg0, inf0, false⟩, rfl, rfl, ⟨?_, ?_, ⟨rfl, List.nodup_nil, by simp⟩, rfl, fun x hx => (by cases hx), fun _ => ⟨rfl, rfl, rfl⟩, fun _ => rfl, fun _ => ?_⟩, rfl⟩
    · show ((0 : Nat) : Int) ≤ most; omega
    · show most ≤ 800; omega
    · show 0 < 16; omega

theorem pages_does (M : Mp) (w : World) (hok : M.st.Ok) (hw : (St.mk w (blks (mpL M)) (mpL M)).holds w) :
    Does Tryz.prog 23 [.pointer (some ⟨M.bm, 0, none⟩)] w (blks (mpL M)) (fun v L => ∃ q d, v = .slice q M.st.l.length d ∧ L = .row q M.st.l.length d (keysC M.st.keys) 45 3 :: mpL M) := by
  refine does_ofM Tryz.func23 rfl rfl hw ?_
  repeat (first | refine w_ (v_l (hv := mc_s rfl)) ?_ | refine r_seq ?_ | refine ri_seq ?_ | refine ri_region ?_ | refine ri_skip ?_ | refine ri_block ?_ | refine xi_ ?_ | refine r_nil ?_ | refine r_region ?_ | refine r_skip ?_ | refine r_block ?_ | refine r_inBlock ?_ | refine x_ ?_ | refine w_ v_p ?_ | refine w_ v_cv ?_ | refine w_ v_and ?_ | refine w_ v_or ?_ | refine w_ v_f ?_ | refine w_ v_b ?_ | refine w_ v_r ?_ | refine w_ v_i ?_ | refine w_ v_a ?_ | refine w_ v_l ?_ | refine w_ v_la ?_ | refine w_ v_ls ?_ | refine w_ v_lr ?_ | refine w_ v_ln ?_ | refine w_ v_bd ?_ | refine w_ v_ba ?_ | refine w_ v_mf ?_ | refine w_ v_sap ?_ | refine w_ v_pkf ?_ | refine w_ v_pkt ?_ | refine w_ v_nl ?_ | refine w_ v_nn ?_ | refine e_ (f_st ?_) | refine e_ (f_al fun _ => ?_) | refine e_ (f_bx fun _ => ?_))
  refine e_ (f_cs (spL M.st) (fun b hb => hb) (fun w2 hw2 => keys_does M.st w2 hok (hw2.give (Spl.perm (by repeat (first | exact Spl.nil | exact Rem.head | apply Rem.tail | apply Spl.cons))))) fun v L' h => ?_)
  obtain ⟨q, d, rfl, rfl⟩ := h
  repeat (first | refine r_seq ?_ | refine ri_seq ?_ | refine ri_region ?_ | refine ri_skip ?_ | refine ri_block ?_ | refine xi_ ?_ | refine r_nil ?_ | refine r_region ?_ | refine r_skip ?_ | refine r_block ?_ | refine r_inBlock ?_ | refine x_ ?_ | refine w_ v_p ?_ | refine w_ v_cv ?_ | refine w_ v_and ?_ | refine w_ v_or ?_ | refine w_ v_f ?_ | refine w_ v_b ?_ | refine w_ v_r ?_ | refine w_ v_i ?_ | refine w_ v_a ?_ | refine w_ v_l ?_ | refine w_ v_la ?_ | refine w_ v_ls ?_ | refine w_ v_lr ?_ | refine w_ v_ln ?_ | refine w_ v_bd ?_ | refine w_ v_ba ?_ | refine w_ v_mf ?_ | refine w_ v_sap ?_ | refine w_ v_pkf ?_ | refine w_ v_pkt ?_ | refine w_ v_nl ?_ | refine w_ v_nn ?_ | refine e_ (f_st ?_) | refine e_ (f_al fun _ => ?_) | refine e_ (f_bx fun _ => ?_))
  exact r_ord (M := .row q M.st.l.length d (keysC M.st.keys) 45 3 :: mpL M) (t2 (List.Sublist.refl _) ⟨q, d, rfl, rfl⟩)

theorem pinA_does (M : Mp) (k : Kz) (w : World) (hw : (St.mk w (blks (mpL M)) (mpL M)).holds w) :
    Does Tryz.prog 32 [.pointer (some ⟨M.bm, 0, none⟩), kzV k] w (blks (mpL M)) (fun _ L => L = mpL { M with st := { M.st with pin := k, pinned := true } }) := by
  refine does_ofM Tryz.func32 rfl rfl hw ?_
  generalize blks (mpL M) = FF at hw ⊢
  repeat (first | refine e_ (f_bx (c := kzC k) fun b3 => ?_) | refine r_seq ?_ | refine ri_seq ?_ | refine ri_region ?_ | refine ri_skip ?_ | refine ri_block ?_ | refine xi_ ?_ | refine r_nil ?_ | refine r_region ?_ | refine r_skip ?_ | refine r_block ?_ | refine r_inBlock ?_ | refine x_ ?_ | refine w_ v_p ?_ | refine w_ v_cv ?_ | refine w_ v_and ?_ | refine w_ v_or ?_ | refine w_ v_f ?_ | refine w_ v_b ?_ | refine w_ v_r ?_ | refine w_ v_i ?_ | refine w_ v_a ?_ | refine w_ v_l ?_ | refine w_ v_la ?_ | refine w_ v_ls ?_ | refine w_ v_lr ?_ | refine w_ v_ln ?_ | refine w_ v_bd ?_ | refine w_ v_ba ?_ | refine w_ v_mf ?_ | refine w_ v_sap ?_ | refine w_ v_pkf ?_ | refine w_ v_pkt ?_ | refine w_ v_nl ?_ | refine w_ v_nn ?_ | refine e_ (f_st ?_) | refine e_ (f_al fun _ => ?_) | refine e_ (f_bx fun _ => ?_))
  repeat refine r_seq ?_
  refine d_in ([.cells b3 (kzC k) 45, .cells M.bm (mcC M.st.bs M.f M.inf M.told) 128]) [] ?_
  first | (refine dp 0 ?_; first | refine tp (fun _ => v_p) ?_)
  first | (refine dp 1 ?_; first | refine tp (fun _ => v_p) ?_)
  first | (refine dp 2 ?_; first | refine tp (fun _ => v_f) ?_)
  first | (refine dw 3 ?_; first | refine tw (v_l (hv := mc_s rfl)) ?_ | refine tw (v_l) ?_ | refine tw (v_la) ?_ | refine tw (v_ls) ?_ | refine tw (v_lr) ?_ | refine tw ((v_ge hG)) ?_)
  first | (refine dw 4 ?_; first | refine tw (v_la (hv := sub_all (kzC_length k))) ?_ | refine tw (v_l) ?_ | refine tw (v_la) ?_ | refine tw (v_ls) ?_ | refine tw (v_lr) ?_ | refine tw ((v_ge hG)) ?_)
  refine d_e 5 ?_
  refine f_cs (spL M.st) (fun b hb => hb) (fun w2 hw2 => pin_does M.st k w2 (hw2.give (Spl.perm (by repeat (first | exact Spl.nil | exact Rem.head | apply Rem.tail | apply Spl.cons))))) fun v L' h => ?_
  subst h
  refine ⟨?_, ?_⟩
  · first | exact st_n | exact st_l rfl | exact st_s (by repeat (first | exact List.Sublist.refl _ | exact List.nil_sublist _ | exact List.sublist_append_right _ _ | apply List.Sublist.cons_cons | apply List.Sublist.cons))
  refine d_z ?_
  exact r_ord (M := mpL { M with st := { M.st with pin := k, pinned := true } }) (r_fin rfl .nil (List.Sublist.refl _) rfl)

theorem freeA_does (M : Mp) (w : World) (hw : (St.mk w (blks (mpL M)) (mpL M)).holds w) :
    Does Tryz.prog 33 [.pointer (some ⟨M.bm, 0, none⟩)] w (blks (mpL M)) (fun _ L => L = mpL { M with st := { M.st with pinned := false } }) := by
  refine does_ofM Tryz.func33 rfl rfl hw ?_
  generalize blks (mpL M) = FF at hw ⊢
  repeat (first | refine w_ (v_l (hv := mc_s rfl)) ?_ | refine r_seq ?_ | refine ri_seq ?_ | refine ri_region ?_ | refine ri_skip ?_ | refine ri_block ?_ | refine xi_ ?_ | refine r_nil ?_ | refine r_region ?_ | refine r_skip ?_ | refine r_block ?_ | refine r_inBlock ?_ | refine x_ ?_ | refine w_ v_p ?_ | refine w_ v_cv ?_ | refine w_ v_and ?_ | refine w_ v_or ?_ | refine w_ v_f ?_ | refine w_ v_b ?_ | refine w_ v_r ?_ | refine w_ v_i ?_ | refine w_ v_a ?_ | refine w_ v_l ?_ | refine w_ v_la ?_ | refine w_ v_ls ?_ | refine w_ v_lr ?_ | refine w_ v_ln ?_ | refine w_ v_bd ?_ | refine w_ v_ba ?_ | refine w_ v_mf ?_ | refine w_ v_sap ?_ | refine w_ v_pkf ?_ | refine w_ v_pkt ?_ | refine w_ v_nl ?_ | refine w_ v_nn ?_ | refine e_ (f_st ?_) | refine e_ (f_al fun _ => ?_) | refine e_ (f_bx fun _ => ?_))
  refine e_ (f_cs (spL M.st) (fun b hb => hb) (fun w2 hw2 => free_does M.st w2 (hw2.give (Spl.perm (by repeat (first | exact Spl.nil | exact Rem.head | apply Rem.tail | apply Spl.cons))))) fun v L' h => ?_)
  subst h
  exact r_ord (M := mpL { M with st := { M.st with pinned := false } }) (r_fin rfl .nil (List.Sublist.refl _) rfl)
end Go.Proofs

namespace Go.Cf
open Go.Proofs
theorem pg_place {g : Pg} {p : Option Addr} {c off : Nat} (h : off = 0) : sub (pgC g p c) off 3 = some (kzC g.k) := by
  subst h
  rw [pgC, sub_l (by rw [hdC_length]; omega)]
  rfl
theorem g_no {P : Program} {n : Nat} {Q : Exit → Act → World → Prop} {k : List It} {f : Nat → Value} {σ : Bd} {all rest : List Oper} {o : Oper} {s : St} {j : Nat} {w : Bool} {d : Nat} (h : Wk P n Q (.ops all.toArray rest :: k) f ((d, .v undef) :: σ) s)
    (hgd : o.guard = some (j, w) := by exact rfl) (hg : gdOf f σ all (some (j, w)) = some (some false) := by exact rfl) (hd : o.dst = some d := by exact rfl) (hn : Nat.ble (d + 1) n = true := by exact rfl) :
    Wk P n Q (.ops all.toArray (o :: rest) :: k) f σ s :=
  g_ (fun h => by cases h) (fun _ d' hd' => by rw [hd] at hd'; cases hd'; exact h) hgd hg hd hn
/-- Is this a magazine's number? -/
def magOk (i : Int) : Bool := decide (1 ≤ i) && decide (i ≤ 8)
/-- The open page's place. -/
def openM (m : Mach) (i : Int) : Option Kz := if magOk i && (m.mg i.toNat).opn then some (m.mg i.toNat).pg.k else none
/-- The last head and its text. -/
def lastM (m : Mach) (i : Int) : Option (Hd × List UInt8) := if magOk i && (m.mg i.toNat).began then some ((m.mg i.toNat).hd, (m.mg i.toNat).text) else none
def hdZ : Hd := ⟨⟨0, 0, 0⟩, fun _ => false, 0⟩
def zeroHd : List Value := hdC hdZ
theorem magOk_lt {i : Int} (h : magOk i = true) : ∃ k : Nat, i = (k : Int) ∧ 1 ≤ k ∧ k ≤ 8 := by
  simp only [magOk, Bool.and_eq_true, decide_eq_true_eq] at h
  exact ⟨i.toNat, by omega, by omega, by omega⟩
end Go.Cf
namespace Go.Proofs
open Go.Cf
set_option maxRecDepth 10000

theorem magP_does (i : Int) (w : World) : Does Tryz.prog 83 [.int .i64 i] w [] (fun v L => v = .bool (magOk i) ∧ L = []) := by
  refine does_of Tryz.func83 rfl rfl ?_
  repeat (first | refine r_seq ?_ | refine ri_seq ?_ | refine ri_region ?_ | refine ri_skip ?_ | refine ri_block ?_ | refine xi_ ?_ | refine r_nil ?_ | refine r_region ?_ | refine r_skip ?_ | refine r_block ?_ | refine r_inBlock ?_ | refine x_ ?_ | refine w_ v_p ?_ | refine w_ v_cv ?_ | refine w_ v_and ?_ | refine w_ v_or ?_ | refine w_ v_f ?_ | refine w_ v_b ?_ | refine w_ v_r ?_ | refine w_ v_i ?_ | refine w_ v_a ?_ | refine w_ v_l ?_ | refine w_ v_la ?_ | refine w_ v_ls ?_ | refine w_ v_lr ?_ | refine w_ v_ln ?_ | refine w_ v_bd ?_ | refine w_ v_ba ?_ | refine w_ v_mf ?_ | refine w_ v_sap ?_ | refine w_ v_pkf ?_ | refine w_ v_pkt ?_ | refine w_ v_nl ?_ | refine w_ v_nn ?_ | refine e_ (f_st ?_) | refine e_ (f_al fun _ => ?_) | refine e_ (f_bx fun _ => ?_))
  exact t2 (List.nil_sublist _) ⟨rfl, rfl⟩

theorem openA_does (M : Mp) (l : List Pp) (i : Int) (w : World) (hw : (St.mk w (blks (mpL M)) (mpL M)).holds w) :
    Does Tryz.prog 29 [.pointer (some ⟨M.bm, 0, none⟩), .int .i64 i] w (blks (mpL M)) (fun v L => v = .tuple #[kzV ((openM (absM M l) i).getD ⟨0, 0, 0⟩), .bool (openM (absM M l) i).isSome] ∧ L = mpL M) := by
  refine does_ofM Tryz.func29 rfl rfl hw ?_
  generalize blks (mpL M) = FF at hw ⊢
  repeat (first | refine e_ (f_al fun b4 => ?_) | refine r_seq ?_ | refine ri_seq ?_ | refine ri_region ?_ | refine ri_skip ?_ | refine ri_block ?_ | refine xi_ ?_ | refine r_nil ?_ | refine r_region ?_ | refine r_skip ?_ | refine r_block ?_ | refine r_inBlock ?_ | refine x_ ?_ | refine w_ v_p ?_ | refine w_ v_cv ?_ | refine w_ v_and ?_ | refine w_ v_or ?_ | refine w_ v_f ?_ | refine w_ v_b ?_ | refine w_ v_r ?_ | refine w_ v_i ?_ | refine w_ v_a ?_ | refine w_ v_l ?_ | refine w_ v_la ?_ | refine w_ v_ls ?_ | refine w_ v_lr ?_ | refine w_ v_ln ?_ | refine w_ v_bd ?_ | refine w_ v_ba ?_ | refine w_ v_mf ?_ | refine w_ v_sap ?_ | refine w_ v_pkf ?_ | refine w_ v_pkt ?_ | refine w_ v_nl ?_ | refine w_ v_nn ?_ | refine e_ (f_st ?_) | refine e_ (f_al fun _ => ?_) | refine e_ (f_bx fun _ => ?_))
  refine e_ (f_c (fun w hw => magP_does i w) fun v L' h => ?_)
  obtain ⟨rfl, rfl⟩ := h
  cases hm : magOk i with
  | false =>
    have ho : openM (absM M l) i = none := by rw [openM, hm]; rfl
    rw [ho]
    repeat (first | refine r_seq ?_ | refine ri_seq ?_ | refine ri_region ?_ | refine ri_skip ?_ | refine ri_block ?_ | refine xi_ ?_ | refine r_nil ?_ | refine r_region ?_ | refine r_skip ?_ | refine r_block ?_ | refine r_inBlock ?_ | refine x_ ?_ | refine w_ v_p ?_ | refine w_ v_cv ?_ | refine w_ v_and ?_ | refine w_ v_or ?_ | refine w_ v_f ?_ | refine w_ v_b ?_ | refine w_ v_r ?_ | refine w_ v_i ?_ | refine w_ v_a ?_ | refine w_ v_l ?_ | refine w_ v_la ?_ | refine w_ v_ls ?_ | refine w_ v_lr ?_ | refine w_ v_ln ?_ | refine w_ v_bd ?_ | refine w_ v_ba ?_ | refine w_ v_mf ?_ | refine w_ v_sap ?_ | refine w_ v_pkf ?_ | refine w_ v_pkt ?_ | refine w_ v_nl ?_ | refine w_ v_nn ?_ | refine e_ (f_st ?_) | refine e_ (f_al fun _ => ?_) | refine e_ (f_bx fun _ => ?_))
    repeat refine g_no ?_
    repeat (first | refine r_seq ?_ | refine ri_seq ?_ | refine ri_region ?_ | refine ri_skip ?_ | refine ri_block ?_ | refine xi_ ?_ | refine r_nil ?_ | refine r_region ?_ | refine r_skip ?_ | refine r_block ?_ | refine r_inBlock ?_ | refine x_ ?_ | refine w_ v_p ?_ | refine w_ v_cv ?_ | refine w_ v_and ?_ | refine w_ v_or ?_ | refine w_ v_f ?_ | refine w_ v_b ?_ | refine w_ v_r ?_ | refine w_ v_i ?_ | refine w_ v_a ?_ | refine w_ v_l ?_ | refine w_ v_la ?_ | refine w_ v_ls ?_ | refine w_ v_lr ?_ | refine w_ v_ln ?_ | refine w_ v_bd ?_ | refine w_ v_ba ?_ | refine w_ v_mf ?_ | refine w_ v_sap ?_ | refine w_ v_pkf ?_ | refine w_ v_pkt ?_ | refine w_ v_nl ?_ | refine w_ v_nn ?_ | refine e_ (f_st ?_) | refine e_ (f_al fun _ => ?_) | refine e_ (f_bx fun _ => ?_))
    refine c_ (t := true) (fun _ => ?_) (fun h => by cases h)
    repeat (first | refine e_ (f_st (vs := kzC ⟨0, 0, 0⟩) (l' := kzC ⟨0, 0, 0⟩) (hl := rfl) ?_) | refine r_seq ?_ | refine ri_seq ?_ | refine ri_region ?_ | refine ri_skip ?_ | refine ri_block ?_ | refine xi_ ?_ | refine r_nil ?_ | refine r_region ?_ | refine r_skip ?_ | refine r_block ?_ | refine r_inBlock ?_ | refine x_ ?_ | refine w_ v_p ?_ | refine w_ v_cv ?_ | refine w_ v_and ?_ | refine w_ v_or ?_ | refine w_ v_f ?_ | refine w_ v_b ?_ | refine w_ v_r ?_ | refine w_ v_i ?_ | refine w_ v_a ?_ | refine w_ v_l ?_ | refine w_ v_la ?_ | refine w_ v_ls ?_ | refine w_ v_lr ?_ | refine w_ v_ln ?_ | refine w_ v_bd ?_ | refine w_ v_ba ?_ | refine w_ v_mf ?_ | refine w_ v_sap ?_ | refine w_ v_pkf ?_ | refine w_ v_pkt ?_ | refine w_ v_nl ?_ | refine w_ v_nn ?_ | refine e_ (f_st ?_) | refine e_ (f_al fun _ => ?_) | refine e_ (f_bx fun _ => ?_))
    exact t2 (L' := mpL M) (.cons _ (List.Sublist.refl _)) ⟨rfl, rfl⟩ (.cella rfl (.head _) rfl (.tmp rfl .nil))
  | true =>
    obtain ⟨k, rfl, h1, h2⟩ := magOk_lt hm
    have hk : k < 9 := by omega
    cases ho : (M.f k).opn with
    | false =>
      have hgo : (mgC (M.f k))[0]? = some (.bool false) := by rw [mg_open rfl, ho]
      have ho : openM (absM M l) k = none := by rw [openM, hm, show ((absM M l).mg (k : Int).toNat).opn = false from ho]; rfl
      rw [ho]
      repeat (first | refine w_ (v_l (hv := mc_get (k := k) hk (by omega) hgo (by omega))) ?_ | refine r_seq ?_ | refine ri_seq ?_ | refine ri_region ?_ | refine ri_skip ?_ | refine ri_block ?_ | refine xi_ ?_ | refine r_nil ?_ | refine r_region ?_ | refine r_skip ?_ | refine r_block ?_ | refine r_inBlock ?_ | refine x_ ?_ | refine w_ v_p ?_ | refine w_ v_cv ?_ | refine w_ v_and ?_ | refine w_ v_or ?_ | refine w_ v_f ?_ | refine w_ v_b ?_ | refine w_ v_r ?_ | refine w_ v_i ?_ | refine w_ v_a ?_ | refine w_ v_l ?_ | refine w_ v_la ?_ | refine w_ v_ls ?_ | refine w_ v_lr ?_ | refine w_ v_ln ?_ | refine w_ v_bd ?_ | refine w_ v_ba ?_ | refine w_ v_mf ?_ | refine w_ v_sap ?_ | refine w_ v_pkf ?_ | refine w_ v_pkt ?_ | refine w_ v_nl ?_ | refine w_ v_nn ?_ | refine e_ (f_st ?_) | refine e_ (f_al fun _ => ?_) | refine e_ (f_bx fun _ => ?_))
      refine c_ (t := true) (fun _ => ?_) (fun h => by cases h)
      repeat (first | refine e_ (f_st (vs := kzC ⟨0, 0, 0⟩) (l' := kzC ⟨0, 0, 0⟩) (hl := rfl) ?_) | refine r_seq ?_ | refine ri_seq ?_ | refine ri_region ?_ | refine ri_skip ?_ | refine ri_block ?_ | refine xi_ ?_ | refine r_nil ?_ | refine r_region ?_ | refine r_skip ?_ | refine r_block ?_ | refine r_inBlock ?_ | refine x_ ?_ | refine w_ v_p ?_ | refine w_ v_cv ?_ | refine w_ v_and ?_ | refine w_ v_or ?_ | refine w_ v_f ?_ | refine w_ v_b ?_ | refine w_ v_r ?_ | refine w_ v_i ?_ | refine w_ v_a ?_ | refine w_ v_l ?_ | refine w_ v_la ?_ | refine w_ v_ls ?_ | refine w_ v_lr ?_ | refine w_ v_ln ?_ | refine w_ v_bd ?_ | refine w_ v_ba ?_ | refine w_ v_mf ?_ | refine w_ v_sap ?_ | refine w_ v_pkf ?_ | refine w_ v_pkt ?_ | refine w_ v_nl ?_ | refine w_ v_nn ?_ | refine e_ (f_st ?_) | refine e_ (f_al fun _ => ?_) | refine e_ (f_bx fun _ => ?_))
      exact t2 (L' := mpL M) (.cons _ (List.Sublist.refl _)) ⟨rfl, rfl⟩ (.cella rfl (.head _) rfl (.tmp rfl .nil))
    | true =>
      have hgo : (mgC (M.f k))[0]? = some (.bool true) := by rw [mg_open rfl, ho]
      have ho : openM (absM M l) k = some (M.f k).pg.g.k := by rw [openM, hm, show ((absM M l).mg (k : Int).toNat).opn = true from ho]; rfl
      rw [ho]
      repeat (first | refine w_ (v_l (hv := mc_get (k := k) hk (by omega) hgo (by omega))) ?_ | refine r_seq ?_ | refine ri_seq ?_ | refine ri_region ?_ | refine ri_skip ?_ | refine ri_block ?_ | refine xi_ ?_ | refine r_nil ?_ | refine r_region ?_ | refine r_skip ?_ | refine r_block ?_ | refine r_inBlock ?_ | refine x_ ?_ | refine w_ v_p ?_ | refine w_ v_cv ?_ | refine w_ v_and ?_ | refine w_ v_or ?_ | refine w_ v_f ?_ | refine w_ v_b ?_ | refine w_ v_r ?_ | refine w_ v_i ?_ | refine w_ v_a ?_ | refine w_ v_l ?_ | refine w_ v_la ?_ | refine w_ v_ls ?_ | refine w_ v_lr ?_ | refine w_ v_ln ?_ | refine w_ v_bd ?_ | refine w_ v_ba ?_ | refine w_ v_mf ?_ | refine w_ v_sap ?_ | refine w_ v_pkf ?_ | refine w_ v_pkt ?_ | refine w_ v_nl ?_ | refine w_ v_nn ?_ | refine e_ (f_st ?_) | refine e_ (f_al fun _ => ?_) | refine e_ (f_bx fun _ => ?_))
      refine c_ (t := false) (fun h => by cases h) (fun _ => ?_)
      repeat (first | refine w_ (v_la (hv := mc_sub (k := k) hk (by omega) (mg_pgSub (j := 0) (pg_place rfl) (by omega) rfl) (by omega))) ?_ | refine e_ (f_st (vs := kzC (M.f k).pg.g.k) (l' := kzC (M.f k).pg.g.k) (hl := rfl) ?_) | refine r_seq ?_ | refine ri_seq ?_ | refine ri_region ?_ | refine ri_skip ?_ | refine ri_block ?_ | refine xi_ ?_ | refine r_nil ?_ | refine r_region ?_ | refine r_skip ?_ | refine r_block ?_ | refine r_inBlock ?_ | refine x_ ?_ | refine w_ v_p ?_ | refine w_ v_cv ?_ | refine w_ v_and ?_ | refine w_ v_or ?_ | refine w_ v_f ?_ | refine w_ v_b ?_ | refine w_ v_r ?_ | refine w_ v_i ?_ | refine w_ v_a ?_ | refine w_ v_l ?_ | refine w_ v_la ?_ | refine w_ v_ls ?_ | refine w_ v_lr ?_ | refine w_ v_ln ?_ | refine w_ v_bd ?_ | refine w_ v_ba ?_ | refine w_ v_mf ?_ | refine w_ v_sap ?_ | refine w_ v_pkf ?_ | refine w_ v_pkt ?_ | refine w_ v_nl ?_ | refine w_ v_nn ?_ | refine e_ (f_st ?_) | refine e_ (f_al fun _ => ?_) | refine e_ (f_bx fun _ => ?_))
      exact t2 (L' := mpL M) (.cons _ (List.Sublist.refl _)) ⟨rfl, rfl⟩ (.cella rfl (.head _) rfl (.tmp rfl .nil))

/-- A copy of bytes. -/
def TxL (q : Option Addr) (c : Nat) (t : List UInt8) (L : Hp) : Prop := (t = [] ∧ L = []) ∨ L = [.row q t.length c (bys t) 5 1]

theorem cloneT_does (l : List UInt8) (p : Option Addr) (c m : Nat) (w : World) (hm : l.length = m) (hle : m ≤ 1000) (hs : Sl w [] p m 1 (bys l)) :
    Does Tryz.prog 163 [.slice p m c] w [] (fun v L => ∃ q d, v = .slice q l.length d ∧ TxL q d l L) := by
  subst hm
  refine does_of Tryz.func163 rfl rfl ?_
  cases hp : p with
  | none =>
    have h0 : l = [] := by
      by_cases h0 : l = []
      · exact h0
      · have := hs.ptr (List.length_pos_iff.2 h0)
        rw [hp] at this; cases this
    subst h0
    repeat (first | refine r_seq ?_ | refine ri_seq ?_ | refine ri_region ?_ | refine ri_skip ?_ | refine ri_block ?_ | refine xi_ ?_ | refine r_nil ?_ | refine r_region ?_ | refine r_skip ?_ | refine r_block ?_ | refine r_inBlock ?_ | refine x_ ?_ | refine w_ v_p ?_ | refine w_ v_cv ?_ | refine w_ v_and ?_ | refine w_ v_or ?_ | refine w_ v_f ?_ | refine w_ v_b ?_ | refine w_ v_r ?_ | refine w_ v_i ?_ | refine w_ v_a ?_ | refine w_ v_l ?_ | refine w_ v_la ?_ | refine w_ v_ls ?_ | refine w_ v_lr ?_ | refine w_ v_ln ?_ | refine w_ v_bd ?_ | refine w_ v_ba ?_ | refine w_ v_mf ?_ | refine w_ v_sap ?_ | refine w_ v_pkf ?_ | refine w_ v_pkt ?_ | refine w_ v_nl ?_ | refine w_ v_nn ?_ | refine e_ (f_st ?_) | refine e_ (f_al fun _ => ?_) | refine e_ (f_bx fun _ => ?_))
    refine c_ (t := true) (fun _ => ?_) (fun h => by cases h)
    repeat (first | refine r_seq ?_ | refine ri_seq ?_ | refine ri_region ?_ | refine ri_skip ?_ | refine ri_block ?_ | refine xi_ ?_ | refine r_nil ?_ | refine r_region ?_ | refine r_skip ?_ | refine r_block ?_ | refine r_inBlock ?_ | refine x_ ?_ | refine w_ v_p ?_ | refine w_ v_cv ?_ | refine w_ v_and ?_ | refine w_ v_or ?_ | refine w_ v_f ?_ | refine w_ v_b ?_ | refine w_ v_r ?_ | refine w_ v_i ?_ | refine w_ v_a ?_ | refine w_ v_l ?_ | refine w_ v_la ?_ | refine w_ v_ls ?_ | refine w_ v_lr ?_ | refine w_ v_ln ?_ | refine w_ v_bd ?_ | refine w_ v_ba ?_ | refine w_ v_mf ?_ | refine w_ v_sap ?_ | refine w_ v_pkf ?_ | refine w_ v_pkt ?_ | refine w_ v_nl ?_ | refine w_ v_nn ?_ | refine e_ (f_st ?_) | refine e_ (f_al fun _ => ?_) | refine e_ (f_bx fun _ => ?_))
    refine t2 (L' := []) (List.nil_sublist _) ⟨none, 0, rfl, .inl ⟨rfl, rfl⟩⟩
  | some a =>
    have hp2 : nilOf 2 (.slice (some a) l.length c) = some false := rfl
    rw [hp] at hs
    repeat (first | refine w_ (v_nl (hv := hp2)) ?_ | refine r_seq ?_ | refine ri_seq ?_ | refine ri_region ?_ | refine ri_skip ?_ | refine ri_block ?_ | refine xi_ ?_ | refine r_nil ?_ | refine r_region ?_ | refine r_skip ?_ | refine r_block ?_ | refine r_inBlock ?_ | refine x_ ?_ | refine w_ v_p ?_ | refine w_ v_cv ?_ | refine w_ v_and ?_ | refine w_ v_or ?_ | refine w_ v_f ?_ | refine w_ v_b ?_ | refine w_ v_r ?_ | refine w_ v_i ?_ | refine w_ v_a ?_ | refine w_ v_l ?_ | refine w_ v_la ?_ | refine w_ v_ls ?_ | refine w_ v_lr ?_ | refine w_ v_ln ?_ | refine w_ v_bd ?_ | refine w_ v_ba ?_ | refine w_ v_mf ?_ | refine w_ v_sap ?_ | refine w_ v_pkf ?_ | refine w_ v_pkt ?_ | refine w_ v_nl ?_ | refine w_ v_nn ?_ | refine e_ (f_st ?_) | refine e_ (f_al fun _ => ?_) | refine e_ (f_bx fun _ => ?_))
    refine c_ (t := false) (fun h => by cases h) (fun _ => ?_)
    repeat (first | refine r_seq ?_ | refine ri_seq ?_ | refine ri_region ?_ | refine ri_skip ?_ | refine ri_block ?_ | refine xi_ ?_ | refine r_nil ?_ | refine r_region ?_ | refine r_skip ?_ | refine r_block ?_ | refine r_inBlock ?_ | refine x_ ?_ | refine w_ v_p ?_ | refine w_ v_cv ?_ | refine w_ v_and ?_ | refine w_ v_or ?_ | refine w_ v_f ?_ | refine w_ v_b ?_ | refine w_ v_r ?_ | refine w_ v_i ?_ | refine w_ v_a ?_ | refine w_ v_l ?_ | refine w_ v_la ?_ | refine w_ v_ls ?_ | refine w_ v_lr ?_ | refine w_ v_ln ?_ | refine w_ v_bd ?_ | refine w_ v_ba ?_ | refine w_ v_mf ?_ | refine w_ v_sap ?_ | refine w_ v_pkf ?_ | refine w_ v_pkt ?_ | refine w_ v_nl ?_ | refine w_ v_nn ?_ | refine e_ (f_st ?_) | refine e_ (f_al fun _ => ?_) | refine e_ (f_bx fun _ => ?_))
    refine e_ (f_bs (l := []) fun _ => ?_)
    refine r_cr 0 1 ?_
    repeat (first | refine r_seq ?_ | refine ri_seq ?_ | refine ri_region ?_ | refine ri_skip ?_ | refine ri_block ?_ | refine xi_ ?_ | refine r_nil ?_ | refine r_region ?_ | refine r_skip ?_ | refine r_block ?_ | refine r_inBlock ?_ | refine x_ ?_ | refine w_ v_p ?_ | refine w_ v_cv ?_ | refine w_ v_and ?_ | refine w_ v_or ?_ | refine w_ v_f ?_ | refine w_ v_b ?_ | refine w_ v_r ?_ | refine w_ v_i ?_ | refine w_ v_a ?_ | refine w_ v_l ?_ | refine w_ v_la ?_ | refine w_ v_ls ?_ | refine w_ v_lr ?_ | refine w_ v_ln ?_ | refine w_ v_bd ?_ | refine w_ v_ba ?_ | refine w_ v_mf ?_ | refine w_ v_sap ?_ | refine w_ v_pkf ?_ | refine w_ v_pkt ?_ | refine w_ v_nl ?_ | refine w_ v_nn ?_ | refine e_ (f_st ?_) | refine e_ (f_al fun _ => ?_) | refine e_ (f_bx fun _ => ?_))
    refine e_ (f_a (fun w hw => hs.now hw) (bys_plain l) fun q c => ?_)
    repeat (first | refine r_seq ?_ | refine ri_seq ?_ | refine ri_region ?_ | refine ri_skip ?_ | refine ri_block ?_ | refine xi_ ?_ | refine r_nil ?_ | refine r_region ?_ | refine r_skip ?_ | refine r_block ?_ | refine r_inBlock ?_ | refine x_ ?_ | refine w_ v_p ?_ | refine w_ v_cv ?_ | refine w_ v_and ?_ | refine w_ v_or ?_ | refine w_ v_f ?_ | refine w_ v_b ?_ | refine w_ v_r ?_ | refine w_ v_i ?_ | refine w_ v_a ?_ | refine w_ v_l ?_ | refine w_ v_la ?_ | refine w_ v_ls ?_ | refine w_ v_lr ?_ | refine w_ v_ln ?_ | refine w_ v_bd ?_ | refine w_ v_ba ?_ | refine w_ v_mf ?_ | refine w_ v_sap ?_ | refine w_ v_pkf ?_ | refine w_ v_pkt ?_ | refine w_ v_nl ?_ | refine w_ v_nn ?_ | refine e_ (f_st ?_) | refine e_ (f_al fun _ => ?_) | refine e_ (f_bx fun _ => ?_))
    refine t_ rfl (.tmp rfl .nil) (List.Sublist.refl _) ⟨q, c, ?_, .inr ?_⟩
    · show Value.slice q (0 + l.length) c = _
      rw [Nat.zero_add]
    · show [En.row q (0 + l.length) c ([] ++ bys l) 5 1] = _
      rw [Nat.zero_add, List.nil_append]

/-- What 'Last' hands back. -/
def LastR (o : Option (Hd × List UInt8)) (v : Value) (L : Hp) : Prop := match o with
  | none => v = .tuple #[.agg (hdC hdZ).toArray, .slice none 0 0, .bool false] ∧ L = []
  | some (h, t) => ∃ q d, v = .tuple #[.agg (hdC h).toArray, .slice q t.length d, .bool true] ∧ TxL q d t L

theorem lastA_does (K : Pool) (M : Mp) (l : List Pp) (i : Int) (w : World) (hM : MOk K M l) (hw : (St.mk w (blks (mpL M)) (mpL M)).holds w) (hK : PoolAt K w (blks (mpL M))) :
    Does Tryz.prog 97 [.pointer (some ⟨M.bm, 0, none⟩), .int .i64 i] w (blks (mpL M)) (fun v L => ∃ R, L = mpL M ++ R ∧ LastR (lastM (absM M l) i) v R) := by
  refine does_ofM Tryz.func97 rfl rfl hw ?_
  generalize blks (mpL M) = FF at hw hK ⊢
  repeat (first | refine e_ (f_al fun b4 => ?_) | refine r_seq ?_ | refine ri_seq ?_ | refine ri_region ?_ | refine ri_skip ?_ | refine ri_block ?_ | refine xi_ ?_ | refine r_nil ?_ | refine r_region ?_ | refine r_skip ?_ | refine r_block ?_ | refine r_inBlock ?_ | refine x_ ?_ | refine w_ v_p ?_ | refine w_ v_cv ?_ | refine w_ v_and ?_ | refine w_ v_or ?_ | refine w_ v_f ?_ | refine w_ v_b ?_ | refine w_ v_r ?_ | refine w_ v_i ?_ | refine w_ v_a ?_ | refine w_ v_l ?_ | refine w_ v_la ?_ | refine w_ v_ls ?_ | refine w_ v_lr ?_ | refine w_ v_ln ?_ | refine w_ v_bd ?_ | refine w_ v_ba ?_ | refine w_ v_mf ?_ | refine w_ v_sap ?_ | refine w_ v_pkf ?_ | refine w_ v_pkt ?_ | refine w_ v_nl ?_ | refine w_ v_nn ?_ | refine e_ (f_st ?_) | refine e_ (f_al fun _ => ?_) | refine e_ (f_bx fun _ => ?_))
  refine e_ (f_c (fun w hw => magP_does i w) fun v L' h => ?_)
  obtain ⟨rfl, rfl⟩ := h
  cases hm : magOk i with
  | false =>
    have ho : lastM (absM M l) i = none := by rw [lastM, hm]; rfl
    rw [ho]
    repeat (first | refine r_seq ?_ | refine ri_seq ?_ | refine ri_region ?_ | refine ri_skip ?_ | refine ri_block ?_ | refine xi_ ?_ | refine r_nil ?_ | refine r_region ?_ | refine r_skip ?_ | refine r_block ?_ | refine r_inBlock ?_ | refine x_ ?_ | refine w_ v_p ?_ | refine w_ v_cv ?_ | refine w_ v_and ?_ | refine w_ v_or ?_ | refine w_ v_f ?_ | refine w_ v_b ?_ | refine w_ v_r ?_ | refine w_ v_i ?_ | refine w_ v_a ?_ | refine w_ v_l ?_ | refine w_ v_la ?_ | refine w_ v_ls ?_ | refine w_ v_lr ?_ | refine w_ v_ln ?_ | refine w_ v_bd ?_ | refine w_ v_ba ?_ | refine w_ v_mf ?_ | refine w_ v_sap ?_ | refine w_ v_pkf ?_ | refine w_ v_pkt ?_ | refine w_ v_nl ?_ | refine w_ v_nn ?_ | refine e_ (f_st ?_) | refine e_ (f_al fun _ => ?_) | refine e_ (f_bx fun _ => ?_))
    repeat refine g_no ?_
    repeat (first | refine r_seq ?_ | refine ri_seq ?_ | refine ri_region ?_ | refine ri_skip ?_ | refine ri_block ?_ | refine xi_ ?_ | refine r_nil ?_ | refine r_region ?_ | refine r_skip ?_ | refine r_block ?_ | refine r_inBlock ?_ | refine x_ ?_ | refine w_ v_p ?_ | refine w_ v_cv ?_ | refine w_ v_and ?_ | refine w_ v_or ?_ | refine w_ v_f ?_ | refine w_ v_b ?_ | refine w_ v_r ?_ | refine w_ v_i ?_ | refine w_ v_a ?_ | refine w_ v_l ?_ | refine w_ v_la ?_ | refine w_ v_ls ?_ | refine w_ v_lr ?_ | refine w_ v_ln ?_ | refine w_ v_bd ?_ | refine w_ v_ba ?_ | refine w_ v_mf ?_ | refine w_ v_sap ?_ | refine w_ v_pkf ?_ | refine w_ v_pkt ?_ | refine w_ v_nl ?_ | refine w_ v_nn ?_ | refine e_ (f_st ?_) | refine e_ (f_al fun _ => ?_) | refine e_ (f_bx fun _ => ?_))
    refine c_ (t := true) (fun _ => ?_) (fun h => by cases h)
    repeat (first | refine e_ (f_st (vs := hdC hdZ) (l' := hdC hdZ) (hl := rfl) ?_) | refine r_seq ?_ | refine ri_seq ?_ | refine ri_region ?_ | refine ri_skip ?_ | refine ri_block ?_ | refine xi_ ?_ | refine r_nil ?_ | refine r_region ?_ | refine r_skip ?_ | refine r_block ?_ | refine r_inBlock ?_ | refine x_ ?_ | refine w_ v_p ?_ | refine w_ v_cv ?_ | refine w_ v_and ?_ | refine w_ v_or ?_ | refine w_ v_f ?_ | refine w_ v_b ?_ | refine w_ v_r ?_ | refine w_ v_i ?_ | refine w_ v_a ?_ | refine w_ v_l ?_ | refine w_ v_la ?_ | refine w_ v_ls ?_ | refine w_ v_lr ?_ | refine w_ v_ln ?_ | refine w_ v_bd ?_ | refine w_ v_ba ?_ | refine w_ v_mf ?_ | refine w_ v_sap ?_ | refine w_ v_pkf ?_ | refine w_ v_pkt ?_ | refine w_ v_nl ?_ | refine w_ v_nn ?_ | refine e_ (f_st ?_) | refine e_ (f_al fun _ => ?_) | refine e_ (f_bx fun _ => ?_))
    exact t2 (L' := mpL M) (.cons _ (List.Sublist.refl _)) ⟨[], by rw [List.append_nil], rfl, rfl⟩ (.cella rfl (.head _) rfl (.tmp rfl (.tmp rfl .nil)))
  | true =>
    obtain ⟨k, rfl, h1, h2⟩ := magOk_lt hm
    have hk : k < 9 := by omega
    cases ho : (M.f k).began with
    | false =>
      have hgo : (mgC (M.f k))[1078]? = some (.bool false) := by rw [mg_began rfl, ho]
      have ho : lastM (absM M l) k = none := by rw [lastM, hm, show ((absM M l).mg (k : Int).toNat).began = false from ho]; rfl
      rw [ho]
      repeat (first | refine w_ (v_l (hv := mc_get (k := k) hk (by omega) hgo (by omega))) ?_ | refine r_seq ?_ | refine ri_seq ?_ | refine ri_region ?_ | refine ri_skip ?_ | refine ri_block ?_ | refine xi_ ?_ | refine r_nil ?_ | refine r_region ?_ | refine r_skip ?_ | refine r_block ?_ | refine r_inBlock ?_ | refine x_ ?_ | refine w_ v_p ?_ | refine w_ v_cv ?_ | refine w_ v_and ?_ | refine w_ v_or ?_ | refine w_ v_f ?_ | refine w_ v_b ?_ | refine w_ v_r ?_ | refine w_ v_i ?_ | refine w_ v_a ?_ | refine w_ v_l ?_ | refine w_ v_la ?_ | refine w_ v_ls ?_ | refine w_ v_lr ?_ | refine w_ v_ln ?_ | refine w_ v_bd ?_ | refine w_ v_ba ?_ | refine w_ v_mf ?_ | refine w_ v_sap ?_ | refine w_ v_pkf ?_ | refine w_ v_pkt ?_ | refine w_ v_nl ?_ | refine w_ v_nn ?_ | refine e_ (f_st ?_) | refine e_ (f_al fun _ => ?_) | refine e_ (f_bx fun _ => ?_))
      refine c_ (t := true) (fun _ => ?_) (fun h => by cases h)
      repeat (first | refine e_ (f_st (vs := hdC hdZ) (l' := hdC hdZ) (hl := rfl) ?_) | refine r_seq ?_ | refine ri_seq ?_ | refine ri_region ?_ | refine ri_skip ?_ | refine ri_block ?_ | refine xi_ ?_ | refine r_nil ?_ | refine r_region ?_ | refine r_skip ?_ | refine r_block ?_ | refine r_inBlock ?_ | refine x_ ?_ | refine w_ v_p ?_ | refine w_ v_cv ?_ | refine w_ v_and ?_ | refine w_ v_or ?_ | refine w_ v_f ?_ | refine w_ v_b ?_ | refine w_ v_r ?_ | refine w_ v_i ?_ | refine w_ v_a ?_ | refine w_ v_l ?_ | refine w_ v_la ?_ | refine w_ v_ls ?_ | refine w_ v_lr ?_ | refine w_ v_ln ?_ | refine w_ v_bd ?_ | refine w_ v_ba ?_ | refine w_ v_mf ?_ | refine w_ v_sap ?_ | refine w_ v_pkf ?_ | refine w_ v_pkt ?_ | refine w_ v_nl ?_ | refine w_ v_nn ?_ | refine e_ (f_st ?_) | refine e_ (f_al fun _ => ?_) | refine e_ (f_bx fun _ => ?_))
      exact t2 (L' := mpL M) (.cons _ (List.Sublist.refl _)) ⟨[], by rw [List.append_nil], rfl, rfl⟩ (.cella rfl (.head _) rfl (.tmp rfl (.tmp rfl .nil)))
    | true =>
      have hgo : (mgC (M.f k))[1078]? = some (.bool true) := by rw [mg_began rfl, ho]
      have ho : lastM (absM M l) k = some ((M.f k).hd, (M.f k).text) := by rw [lastM, hm, show ((absM M l).mg (k : Int).toNat).began = true from ho]; rfl
      rw [ho]
      have htx := hK.p1 _ _ _ (hM.txt k)
      repeat (first | refine w_ (v_l (hv := mc_get (k := k) hk (by omega) hgo (by omega))) ?_ | refine r_seq ?_ | refine ri_seq ?_ | refine ri_region ?_ | refine ri_skip ?_ | refine ri_block ?_ | refine xi_ ?_ | refine r_nil ?_ | refine r_region ?_ | refine r_skip ?_ | refine r_block ?_ | refine r_inBlock ?_ | refine x_ ?_ | refine w_ v_p ?_ | refine w_ v_cv ?_ | refine w_ v_and ?_ | refine w_ v_or ?_ | refine w_ v_f ?_ | refine w_ v_b ?_ | refine w_ v_r ?_ | refine w_ v_i ?_ | refine w_ v_a ?_ | refine w_ v_l ?_ | refine w_ v_la ?_ | refine w_ v_ls ?_ | refine w_ v_lr ?_ | refine w_ v_ln ?_ | refine w_ v_bd ?_ | refine w_ v_ba ?_ | refine w_ v_mf ?_ | refine w_ v_sap ?_ | refine w_ v_pkf ?_ | refine w_ v_pkt ?_ | refine w_ v_nl ?_ | refine w_ v_nn ?_ | refine e_ (f_st ?_) | refine e_ (f_al fun _ => ?_) | refine e_ (f_bx fun _ => ?_))
      refine c_ (t := false) (fun h => by cases h) (fun _ => ?_)
      refine r_skip ?_
      repeat refine r_seq ?_
      refine d_in ([.cells M.bm (mcC M.st.bs M.f M.inf M.told) 128]) [] ?_
      first | (refine dp 0 ?_; first | refine tp (fun _ => v_p) ?_)
      first | (refine dp 1 ?_; first | refine tp (fun _ => v_p) ?_)
      first | (refine dp 2 ?_; first | refine tp (fun _ => v_p) ?_)
      first | (refine dp 3 ?_; first | refine tp (fun _ => v_f) ?_)
      first | (refine dp 4 ?_; first | refine tp (fun _ => v_a) ?_ | refine tp (fun _ => v_i) ?_) | (refine dw 4 ?_; first | refine tw (v_b) ?_ | refine tw (v_r) ?_)
      first | (refine dp 5 ?_; first | refine tp (fun _ => v_f) ?_)
      first | (refine dw 6 ?_; first | refine tw (v_la (hv := mc_sub (k := k) hk (by omega) (mg_head rfl) (by omega))) ?_ | refine tw (v_l) ?_ | refine tw (v_la) ?_ | refine tw (v_ls) ?_ | refine tw (v_lr) ?_ | refine tw ((v_ge hG)) ?_)
      first | (refine dp 7 ?_; first | refine tp (fun _ => v_p) ?_)
      first | (refine dp 8 ?_; first | refine tp (fun _ => v_p) ?_)
      first | (refine dp 9 ?_; first | refine tp (fun _ => v_p) ?_)
      first | (refine dp 10 ?_; first | refine tp (fun _ => v_f) ?_)
      first | (refine dp 11 ?_; first | refine tp (fun _ => v_a) ?_ | refine tp (fun _ => v_i) ?_) | (refine dw 11 ?_; first | refine tw (v_b) ?_ | refine tw (v_r) ?_)
      first | (refine dp 12 ?_; first | refine tp (fun _ => v_f) ?_)
      first | (refine dw 13 ?_; first | refine tw (v_l (hv := mc_get (k := k) hk (by omega) (mg_text rfl) (by omega))) ?_ | refine tw (v_l) ?_ | refine tw (v_la) ?_ | refine tw (v_ls) ?_ | refine tw (v_lr) ?_ | refine tw ((v_ge hG)) ?_)
      refine d_e 14 ?_
      refine f_ce (fun w hw => cloneT_does (M.f k).text _ _ _ w rfl htx.2 (htx.1.now hw)) fun v L' h => ?_
      obtain ⟨q, d, rfl, hL⟩ := h
      refine ⟨?_, ?_⟩
      · first | exact st_n | exact st_l rfl | exact st_s (by repeat (first | exact List.Sublist.refl _ | exact List.nil_sublist _ | exact List.sublist_append_right _ _ | apply List.Sublist.cons_cons | apply List.Sublist.cons))
      refine d_e 15 ?_
      first | refine f_st (vs := hdC (M.f k).hd) (l' := hdC (M.f k).hd) (hl := rfl) ⟨?_, ?_⟩ | refine f_st ⟨?_, ?_⟩
      · first | exact st_n | exact st_l rfl | exact st_s (by repeat (first | exact List.Sublist.refl _ | exact List.nil_sublist _ | exact List.sublist_append_right _ _ | apply List.Sublist.cons_cons | apply List.Sublist.cons))
      first | (refine dp 16 ?_; first | refine tp (fun _ => v_p) ?_)
      first | (refine dp 17 ?_; first | refine tp (fun _ => v_p) ?_)
      refine d_z ?_
      refine r_pl (L1 := .cells b4 (hdC (M.f k).hd) 48 :: (mpL M ++ L')) (List.Sublist.refl _) (List.Perm.refl _) ?_
      repeat (first | refine r_seq ?_ | refine ri_seq ?_ | refine ri_region ?_ | refine ri_skip ?_ | refine ri_block ?_ | refine xi_ ?_ | refine r_nil ?_ | refine r_region ?_ | refine r_skip ?_ | refine r_block ?_ | refine r_inBlock ?_ | refine x_ ?_ | refine w_ v_p ?_ | refine w_ v_cv ?_ | refine w_ v_and ?_ | refine w_ v_or ?_ | refine w_ v_f ?_ | refine w_ v_b ?_ | refine w_ v_r ?_ | refine w_ v_i ?_ | refine w_ v_a ?_ | refine w_ v_l ?_ | refine w_ v_la ?_ | refine w_ v_ls ?_ | refine w_ v_lr ?_ | refine w_ v_ln ?_ | refine w_ v_bd ?_ | refine w_ v_ba ?_ | refine w_ v_mf ?_ | refine w_ v_sap ?_ | refine w_ v_pkf ?_ | refine w_ v_pkt ?_ | refine w_ v_nl ?_ | refine w_ v_nn ?_ | refine e_ (f_st ?_) | refine e_ (f_al fun _ => ?_) | refine e_ (f_bx fun _ => ?_))
      exact t2 (L' := mpL M ++ L') (.cons _ (List.Sublist.refl _)) ⟨L', rfl, q, d, rfl, hL⟩ (.cella rfl (.head _) rfl (.tmp rfl (.tmp rfl .nil)))

theorem infoA_does (M : Mp) (w : World) (hw : (St.mk w (blks (mpL M)) (mpL M)).holds w) :
    Does Tryz.prog 36 [.pointer (some ⟨M.bm, 0, none⟩)] w (blks (mpL M)) (fun v L => v = .tuple #[.agg (infC M.inf).toArray, .bool M.told] ∧ L = mpL M) := by
  refine does_ofM Tryz.func36 rfl rfl hw ?_
  generalize blks (mpL M) = FF at hw ⊢
  repeat (first | refine e_ (f_al fun b4 => ?_) | refine r_seq ?_ | refine ri_seq ?_ | refine ri_region ?_ | refine ri_skip ?_ | refine ri_block ?_ | refine xi_ ?_ | refine r_nil ?_ | refine r_region ?_ | refine r_skip ?_ | refine r_block ?_ | refine r_inBlock ?_ | refine x_ ?_ | refine w_ v_p ?_ | refine w_ v_cv ?_ | refine w_ v_and ?_ | refine w_ v_or ?_ | refine w_ v_f ?_ | refine w_ v_b ?_ | refine w_ v_r ?_ | refine w_ v_i ?_ | refine w_ v_a ?_ | refine w_ v_l ?_ | refine w_ v_la ?_ | refine w_ v_ls ?_ | refine w_ v_lr ?_ | refine w_ v_ln ?_ | refine w_ v_bd ?_ | refine w_ v_ba ?_ | refine w_ v_mf ?_ | refine w_ v_sap ?_ | refine w_ v_pkf ?_ | refine w_ v_pkt ?_ | refine w_ v_nl ?_ | refine w_ v_nn ?_ | refine e_ (f_st ?_) | refine e_ (f_al fun _ => ?_) | refine e_ (f_bx fun _ => ?_))
  repeat refine r_seq ?_
  refine d_in ([.cells M.bm (mcC M.st.bs M.f M.inf M.told) 128]) [] ?_
  first | (refine dp 0 ?_; first | refine tp (fun _ => v_p) ?_)
  first | (refine dp 1 ?_; first | refine tp (fun _ => v_p) ?_)
  first | (refine dp 2 ?_; first | refine tp (fun _ => v_f) ?_)
  first | (refine dw 3 ?_; first | refine tw (v_la (hv := mc_inf rfl)) ?_ | refine tw (v_l) ?_ | refine tw (v_la) ?_ | refine tw (v_ls) ?_ | refine tw (v_lr) ?_ | refine tw ((v_ge hG)) ?_)
  first | (refine dp 4 ?_; first | refine tp (fun _ => v_p) ?_)
  first | (refine dp 5 ?_; first | refine tp (fun _ => v_p) ?_)
  first | (refine dp 6 ?_; first | refine tp (fun _ => v_f) ?_)
  first | (refine dw 7 ?_; first | refine tw (v_l (hv := mc_told rfl)) ?_ | refine tw (v_l) ?_ | refine tw (v_la) ?_ | refine tw (v_ls) ?_ | refine tw (v_lr) ?_ | refine tw ((v_ge hG)) ?_)
  refine d_e 8 ?_
  first | refine f_st (vs := infC M.inf) (l' := infC M.inf) (hl := rfl) ⟨?_, ?_⟩ | refine f_st ⟨?_, ?_⟩
  · first | exact st_n | exact st_l rfl | exact st_s (by repeat (first | exact List.Sublist.refl _ | exact List.nil_sublist _ | exact List.sublist_append_right _ _ | apply List.Sublist.cons_cons | apply List.Sublist.cons))
  first | (refine dp 9 ?_; first | refine tp (fun _ => v_p) ?_)
  refine d_z ?_
  refine r_ord (M := .cells b4 (infC M.inf) 82 :: mpL M) ?_
  repeat (first | refine r_seq ?_ | refine ri_seq ?_ | refine ri_region ?_ | refine ri_skip ?_ | refine ri_block ?_ | refine xi_ ?_ | refine r_nil ?_ | refine r_region ?_ | refine r_skip ?_ | refine r_block ?_ | refine r_inBlock ?_ | refine x_ ?_ | refine w_ v_p ?_ | refine w_ v_cv ?_ | refine w_ v_and ?_ | refine w_ v_or ?_ | refine w_ v_f ?_ | refine w_ v_b ?_ | refine w_ v_r ?_ | refine w_ v_i ?_ | refine w_ v_a ?_ | refine w_ v_l ?_ | refine w_ v_la ?_ | refine w_ v_ls ?_ | refine w_ v_lr ?_ | refine w_ v_ln ?_ | refine w_ v_bd ?_ | refine w_ v_ba ?_ | refine w_ v_mf ?_ | refine w_ v_sap ?_ | refine w_ v_pkf ?_ | refine w_ v_pkt ?_ | refine w_ v_nl ?_ | refine w_ v_nn ?_ | refine e_ (f_st ?_) | refine e_ (f_al fun _ => ?_) | refine e_ (f_bx fun _ => ?_))
  exact t2 (L' := mpL M) (.cons _ (List.Sublist.refl _)) ⟨rfl, rfl⟩ (.cella rfl (.head _) rfl (.tmp rfl .nil))
end Go.Proofs

