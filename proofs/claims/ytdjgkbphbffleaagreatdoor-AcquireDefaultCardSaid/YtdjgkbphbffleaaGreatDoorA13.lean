/-
  Contracts: heads taken.
-/
import Derived.Test.YtdjgkbphbffleaaGreatDoorA12
namespace Go.Proofs
open Go.Cf
set_option maxRecDepth 10000

/-- What a packet leaves. -/
def PkR (E : Nat → Value) (K : Pool) (bm : Nat) (r : Mach × Option Nat) (v : Value) (L : Hp) : Prop := v = errV E r.2 ∧ ∃ M' l' R, L = mpL M' ++ R ∧ MOk (K.add R) M' l' ∧ M'.bm = bm ∧ absM M' l' = r.1

theorem PkR.same {E : Nat → Value} {K : Pool} {M : Mp} {l : List Pp} (hM : MOk K M l) (e : Option Nat) : PkR E K M.bm (absM M l, e) (errV E e) (mpL M) :=
  ⟨rfl, M, l, [], by simp, hM.mono (fun _ _ _ h => .inl h) (fun _ _ _ h => .inl h), rfl, rfl⟩

theorem newG_extra (h : Hd) (t : List UInt8) (old : Pg) (had : Bool) : (newG h t old had).extra = (baseG h old had).extra := rfl
theorem newG_le {h : Hd} {t : List UInt8} {old : Pg} {had : Bool} (hle : old.extra.length ≤ 100000) : (newG h t old had).extra.length ≤ 100000 := by
  rw [newG_extra, baseG]
  split
  · exact hle
  · show ([] : List Tr).length ≤ 100000
    simp

theorem headerP_does (E : Nat → Value) (K : Pool) (M : Mp) (l : List Pp) (kd : Pk) (p : Option Addr) (c m : Nat) (w : World) (hM : MOk K M l) (hw : (St.mk w (blks (mpL M)) (mpL M)).holds w) (hK : PoolAt K w (blks (mpL M))) (hG : Glob w (blks (mpL M)) E)
    (hmg : 1 ≤ kd.mag ∧ kd.mag ≤ 8) (hm : kd.data.length = m) (hs : Sl w (blks (mpL M)) p m 1 (bys kd.data)) :
    Does Tryz.prog 59 [.pointer (some ⟨M.bm, 0, none⟩), .agg (pkC kd.mag kd.row kd.kind kd.code (.slice p m c)).toArray] w (blks (mpL M)) (PkR E K M.bm (headerM (absM M l) kd)) := by
  refine does_ofM Tryz.func59 rfl rfl hw ?_
  have hi : kd.mag < 9 := by omega
  generalize hFF : blks (mpL M) = FF at hw hK hG hs ⊢
  repeat (first | refine e_ (f_bx fun b3 => ?_) | refine r_seq ?_ | refine ri_seq ?_ | refine ri_region ?_ | refine ri_skip ?_ | refine ri_block ?_ | refine xi_ ?_ | refine r_nil ?_ | refine r_region ?_ | refine r_skip ?_ | refine r_block ?_ | refine r_inBlock ?_ | refine x_ ?_ | refine w_ v_p ?_ | refine w_ v_cv ?_ | refine w_ v_and ?_ | refine w_ v_or ?_ | refine w_ v_f ?_ | refine w_ v_b ?_ | refine w_ v_r ?_ | refine w_ v_i ?_ | refine w_ v_a ?_ | refine w_ v_l ?_ | refine w_ v_la ?_ | refine w_ v_ls ?_ | refine w_ v_lr ?_ | refine w_ v_ln ?_ | refine w_ v_bd ?_ | refine w_ v_ba ?_ | refine w_ v_mf ?_ | refine w_ v_sap ?_ | refine w_ v_pkf ?_ | refine w_ v_pkt ?_ | refine w_ v_nl ?_ | refine w_ v_nn ?_ | refine e_ (f_st ?_) | refine e_ (f_al fun _ => ?_) | refine e_ (f_bx fun _ => ?_))
  refine e_ (f_c (fun w hw => head_does E kd p c m w (hG.now hw) hm hmg.2 (hs.now hw)) fun v L' h => ?_)
  cases hr : readH kd with
  | error e =>
    simp only [HeadR, hr] at h
    obtain ⟨rfl, rfl⟩ := h
    have hne : nilOf 0 (E e) = some false := hG.some e
    have hh : headerM (absM M l) kd = (absM M l, some e) := by rw [headerM, hr]
    rw [hh]
    repeat (first | refine w_ (v_nn (hv := hne)) ?_ | refine r_seq ?_ | refine ri_seq ?_ | refine ri_region ?_ | refine ri_skip ?_ | refine ri_block ?_ | refine xi_ ?_ | refine r_nil ?_ | refine r_region ?_ | refine r_skip ?_ | refine r_block ?_ | refine r_inBlock ?_ | refine x_ ?_ | refine w_ v_p ?_ | refine w_ v_cv ?_ | refine w_ v_and ?_ | refine w_ v_or ?_ | refine w_ v_f ?_ | refine w_ v_b ?_ | refine w_ v_r ?_ | refine w_ v_i ?_ | refine w_ v_a ?_ | refine w_ v_l ?_ | refine w_ v_la ?_ | refine w_ v_ls ?_ | refine w_ v_lr ?_ | refine w_ v_ln ?_ | refine w_ v_bd ?_ | refine w_ v_ba ?_ | refine w_ v_mf ?_ | refine w_ v_sap ?_ | refine w_ v_pkf ?_ | refine w_ v_pkt ?_ | refine w_ v_nl ?_ | refine w_ v_nn ?_ | refine e_ (f_st ?_) | refine e_ (f_al fun _ => ?_) | refine e_ (f_bx fun _ => ?_))
    refine c_ (t := true) (fun _ => ?_) (fun h => by cases h)
    repeat (first | refine r_seq ?_ | refine ri_seq ?_ | refine ri_region ?_ | refine ri_skip ?_ | refine ri_block ?_ | refine xi_ ?_ | refine r_nil ?_ | refine r_region ?_ | refine r_skip ?_ | refine r_block ?_ | refine r_inBlock ?_ | refine x_ ?_ | refine w_ v_p ?_ | refine w_ v_cv ?_ | refine w_ v_and ?_ | refine w_ v_or ?_ | refine w_ v_f ?_ | refine w_ v_b ?_ | refine w_ v_r ?_ | refine w_ v_i ?_ | refine w_ v_a ?_ | refine w_ v_l ?_ | refine w_ v_la ?_ | refine w_ v_ls ?_ | refine w_ v_lr ?_ | refine w_ v_ln ?_ | refine w_ v_bd ?_ | refine w_ v_ba ?_ | refine w_ v_mf ?_ | refine w_ v_sap ?_ | refine w_ v_pkf ?_ | refine w_ v_pkt ?_ | refine w_ v_nl ?_ | refine w_ v_nn ?_ | refine e_ (f_st ?_) | refine e_ (f_al fun _ => ?_) | refine e_ (f_bx fun _ => ?_))
    exact t2 (vs := [E e]) (.cons _ (.cons _ (List.Sublist.refl _))) (PkR.same hM (some e))
  | ok ht =>
    obtain ⟨hd, t⟩ := ht
    simp only [HeadR, hr] at h
    obtain ⟨q, rfl, rfl⟩ := h
    have htl : t.length = 32 := by
      rw [readH] at hr
      split at hr
      · cases hr
      · split at hr
        · cases hr; exact partOf_length _ _ _
        · cases hr
    have hh : headerM (absM M l) kd = if hd.pl.page = 255 then (endsM { absM M l with mg := updF (absM M l).mg kd.mag { (absM M l).mg kd.mag with hd := hd, text := t, began := true } } (hd.c 7) kd.mag 8, none) else (beginM (endsM { absM M l with mg := updF (absM M l).mg kd.mag { (absM M l).mg kd.mag with hd := hd, text := t, began := true } } (hd.c 7) kd.mag 8) kd.mag hd t, none) := by rw [headerM, hr]
    rw [hh]
    repeat (first | refine e_ (f_al fun b5 => ?_) | refine e_ (f_st (hl := splice_all (l := hd0) (vs := hdC hd) rfl) ?_) | refine r_seq ?_ | refine ri_seq ?_ | refine ri_region ?_ | refine ri_skip ?_ | refine ri_block ?_ | refine xi_ ?_ | refine r_nil ?_ | refine r_region ?_ | refine r_skip ?_ | refine r_block ?_ | refine r_inBlock ?_ | refine x_ ?_ | refine w_ v_p ?_ | refine w_ v_cv ?_ | refine w_ v_and ?_ | refine w_ v_or ?_ | refine w_ v_f ?_ | refine w_ v_b ?_ | refine w_ v_r ?_ | refine w_ v_i ?_ | refine w_ v_a ?_ | refine w_ v_l ?_ | refine w_ v_la ?_ | refine w_ v_ls ?_ | refine w_ v_lr ?_ | refine w_ v_ln ?_ | refine w_ v_bd ?_ | refine w_ v_ba ?_ | refine w_ v_mf ?_ | refine w_ v_sap ?_ | refine w_ v_pkf ?_ | refine w_ v_pkt ?_ | refine w_ v_nl ?_ | refine w_ v_nn ?_ | refine e_ (f_st ?_) | refine e_ (f_al fun _ => ?_) | refine e_ (f_bx fun _ => ?_))
    refine c_ (t := false) (fun h => by cases h) (fun _ => ?_)
    refine r_skip ?_
    repeat refine r_seq ?_
    refine d_all [] ?_
    first | (refine dp 0 ?_; first | refine tp (fun _ => v_p) ?_)
    first | (refine dp 1 ?_; first | refine tp (fun _ => v_f) ?_)
    first | (refine dw 2 ?_; first | refine tw (v_l) ?_ | refine tw (v_la) ?_ | refine tw (v_ls) ?_ | refine tw (v_lr) ?_ | refine tw ((v_ge hG)) ?_)
    first | (refine dp 3 ?_; first | refine tp (fun _ => v_p) ?_)
    first | (refine dp 4 ?_; first | refine tp (fun _ => v_f) ?_)
    first | (refine dp 5 ?_; first | refine tp (fun _ => v_a) ?_ | refine tp (fun _ => v_i) ?_) | (refine dw 5 ?_; first | refine tw (v_b) ?_ | refine tw (v_r) ?_)
    first | (refine dp 6 ?_; first | refine tp (fun _ => v_p) ?_)
    refine d_z ?_
    repeat (first | refine w_ (v_la (hv := sub_all (hdC_length hd))) ?_ | refine e_ (f_st (vs := hdC hd) (hl := mc_spl (k := kd.mag) hi (by rw [hdC_length]; omega) (mg_sHead rfl) (by omega)) (hr := mcb (by simp; omega)) ?_) | refine e_ (f_st (hl := mc_spl (k := kd.mag) hi (by simp) (mg_sText (t := t) htl.symm rfl) (by omega)) (hr := mcb (by simp; omega)) ?_) | refine e_ (f_st (hl := mc_spl (k := kd.mag) hi (by simp) (mg_sBegan rfl) (by omega)) (hr := mcb (by simp; omega)) ?_) | refine r_seq ?_ | refine ri_seq ?_ | refine ri_region ?_ | refine ri_skip ?_ | refine ri_block ?_ | refine xi_ ?_ | refine r_nil ?_ | refine r_region ?_ | refine r_skip ?_ | refine r_block ?_ | refine r_inBlock ?_ | refine x_ ?_ | refine w_ v_p ?_ | refine w_ v_cv ?_ | refine w_ v_and ?_ | refine w_ v_or ?_ | refine w_ v_f ?_ | refine w_ v_b ?_ | refine w_ v_r ?_ | refine w_ v_i ?_ | refine w_ v_a ?_ | refine w_ v_l ?_ | refine w_ v_la ?_ | refine w_ v_ls ?_ | refine w_ v_lr ?_ | refine w_ v_ln ?_ | refine w_ v_bd ?_ | refine w_ v_ba ?_ | refine w_ v_mf ?_ | refine w_ v_sap ?_ | refine w_ v_pkf ?_ | refine w_ v_pkt ?_ | refine w_ v_nl ?_ | refine w_ v_nn ?_ | refine e_ (f_st ?_) | refine e_ (f_al fun _ => ?_) | refine e_ (f_bx fun _ => ?_))
    repeat (first | rw [updF_twice] | rw [updF_same])
    dsimp only
    obtain ⟨M1, hM1e⟩ : ∃ M1 : Mp, M1 = ⟨M.bm, M.st, updF M.f kd.mag { M.f kd.mag with hd := hd, text := t, tp := q, tc := 32, began := true }, M.inf, M.told⟩ := ⟨_, rfl⟩
    have hM1 : MOk (K.add [.row q 32 32 (bys t) 5 1]) M1 l := by
      subst hM1e
      refine ⟨hM.len, hM.most, hM.ok, hM.kv, fun x hx => .inl (hM.pgs x hx), ?_, ?_, ?_⟩
      · exact upd_all (P := fun m : Mg => (K.add [.row q 32 32 (bys t) 5 1]).p3 m.pg.p m.pg.c m.pg.g.extra) (fun j => .inl (hM.mgs j)) (.inl (hM.mgs kd.mag))
      · refine upd_all (P := fun m : Mg => (K.add [.row q 32 32 (bys t) 5 1]).p1 m.tp m.tc m.text) (fun j => .inl (hM.txt j)) (.inr ⟨by show t.length ≤ 1000; omega, ?_⟩)
        show En.row q t.length 32 (bys t) 5 1 ∈ _
        rw [htl]; exact .head _
      · exact upd_all (P := fun m : Mg => m.region < 16) hM.reg (hM.reg kd.mag)
    have hz1 : (K.add [.row q 32 32 (bys t) 5 1]).p3 .none 0 [] := .inl hK.z
    have habs : absM M1 l = { absM M l with mg := updF (absM M l).mg kd.mag { (absM M l).mg kd.mag with hd := hd, text := t, began := true } } := by
      subst hM1e
      simp only [absM, abs_upd]; rfl
    dsimp only at habs
    rw [← habs]
    refine r_ord (M := mpL M1 ++ [.row q 32 32 (bys t) 5 1, .cells b5 (hdC hd) 48, .cells b3 (pkC kd.mag kd.row kd.kind kd.code (.slice p m c)) 130]) ?_ (by subst hM1e; repeat (first | exact Pick.nil | refine Pick.cons (by repeat (first | exact Rem.head | apply Rem.tail)) ?_))
    have hbm1 : M1.bm = M.bm := by rw [hM1e]
    clear hM1e habs hh
    refine r_loop (τ := Nat × Mp × List Pp) (fun x => x.1 ≤ 8 ∧ MOk (K.add [.row q 32 32 (bys t) 5 1]) x.2.1 x.2.2 ∧ x.2.1.bm = M.bm ∧ absM x.2.1 x.2.2 = endsM (absM M1 l) (hd.c 7) kd.mag x.1) (fun x => 8 - x.1)
      (fun x => [(0, .v (.pointer (some ⟨M.bm, 0, none⟩))), (3, .v (.pointer (some ⟨b3, 0, none⟩))), (5, .v (.pointer (some ⟨b5, 0, none⟩))), (6, .v (.slice q 32 32)), (8, .v (.pointer (some ⟨M.bm, 1 + kd.mag * 1081, none⟩))), (9, .v (.int .i64 (x.1 + 1 : Nat)))])
      (fun x => mpL x.2.1 ++ [.row q 32 32 (bys t) 5 1, .cells b5 (hdC hd) 48, .cells b3 (pkC kd.mag kd.row kd.kind kd.code (.slice p m c)) 130]) (0, M1, l) ⟨by omega, hM1, hbm1, rfl⟩ ⟨rfl, rfl, rfl, rfl, rfl, rfl, trivial⟩ (List.Sublist.refl _) ?_
    rintro ⟨j, ⟨bm', st', f', inf', told'⟩, l'⟩ ⟨hj, hM', hbm', habs'⟩ f
    dsimp only at hj hM' hbm' habs' ⊢
    subst hbm'
    repeat (first | refine r_seq ?_ | refine ri_seq ?_ | refine ri_region ?_ | refine ri_skip ?_ | refine ri_block ?_ | refine xi_ ?_ | refine r_nil ?_ | refine r_region ?_ | refine r_skip ?_ | refine r_block ?_ | refine r_inBlock ?_ | refine x_ ?_ | refine w_ v_p ?_ | refine w_ v_cv ?_ | refine w_ v_and ?_ | refine w_ v_or ?_ | refine w_ v_f ?_ | refine w_ v_b ?_ | refine w_ v_r ?_ | refine w_ v_i ?_ | refine w_ v_a ?_ | refine w_ v_l ?_ | refine w_ v_la ?_ | refine w_ v_ls ?_ | refine w_ v_lr ?_ | refine w_ v_ln ?_ | refine w_ v_bd ?_ | refine w_ v_ba ?_ | refine w_ v_mf ?_ | refine w_ v_sap ?_ | refine w_ v_pkf ?_ | refine w_ v_pkt ?_ | refine w_ v_nl ?_ | refine w_ v_nn ?_ | refine e_ (f_st ?_) | refine e_ (f_al fun _ => ?_) | refine e_ (f_bx fun _ => ?_))
    refine c_ (fun h => ?_) (fun h => ?_)
    · simp only [decide_eq_true_eq] at h
      have hlt : j < 8 := by omega
      repeat (first | refine r_seq ?_ | refine ri_seq ?_ | refine ri_region ?_ | refine ri_skip ?_ | refine ri_block ?_ | refine xi_ ?_ | refine r_nil ?_ | refine r_region ?_ | refine r_skip ?_ | refine r_block ?_ | refine r_inBlock ?_ | refine x_ ?_ | refine w_ v_p ?_ | refine w_ v_cv ?_ | refine w_ v_and ?_ | refine w_ v_or ?_ | refine w_ v_f ?_ | refine w_ v_b ?_ | refine w_ v_r ?_ | refine w_ v_i ?_ | refine w_ v_a ?_ | refine w_ v_l ?_ | refine w_ v_la ?_ | refine w_ v_ls ?_ | refine w_ v_lr ?_ | refine w_ v_ln ?_ | refine w_ v_bd ?_ | refine w_ v_ba ?_ | refine w_ v_mf ?_ | refine w_ v_sap ?_ | refine w_ v_pkf ?_ | refine w_ v_pkt ?_ | refine w_ v_nl ?_ | refine w_ v_nn ?_ | refine e_ (f_st ?_) | refine e_ (f_al fun _ => ?_) | refine e_ (f_bx fun _ => ?_))
      have hcond : (hd.c 7 || (((j + 1 : Nat) : Int) == (kd.mag : Int))) = (hd.c 7 || (j + 1 == kd.mag)) := by
        congr 1; rw [Bool.eq_iff_iff]; simp only [beq_iff_eq]; omega
      refine r_as 50 (congrArg Value.bool hcond) ?_
      refine c_ (fun h1 => ?_) (fun h1 => ?_)
      · repeat (first | refine r_seq ?_ | refine ri_seq ?_ | refine ri_region ?_ | refine ri_skip ?_ | refine ri_block ?_ | refine xi_ ?_ | refine r_nil ?_ | refine r_region ?_ | refine r_skip ?_ | refine r_block ?_ | refine r_inBlock ?_ | refine x_ ?_ | refine w_ v_p ?_ | refine w_ v_cv ?_ | refine w_ v_and ?_ | refine w_ v_or ?_ | refine w_ v_f ?_ | refine w_ v_b ?_ | refine w_ v_r ?_ | refine w_ v_i ?_ | refine w_ v_a ?_ | refine w_ v_l ?_ | refine w_ v_la ?_ | refine w_ v_ls ?_ | refine w_ v_lr ?_ | refine w_ v_ln ?_ | refine w_ v_bd ?_ | refine w_ v_ba ?_ | refine w_ v_mf ?_ | refine w_ v_sap ?_ | refine w_ v_pkf ?_ | refine w_ v_pkt ?_ | refine w_ v_nl ?_ | refine w_ v_nn ?_ | refine e_ (f_st ?_) | refine e_ (f_al fun _ => ?_) | refine e_ (f_bx fun _ => ?_))
        refine e_ (f_cM (mpL ⟨M.bm, st', f', inf', told'⟩) _ (List.Perm.refl _) (fun b hb => hb) (fun w2 hw2 => end_does _ ⟨M.bm, st', f', inf', told'⟩ l' (j + 1) w2 (by omega) hM' (hw2.give (List.Perm.refl _)) hz1) fun v L' h => ?_)
        obtain ⟨M2, l2, rfl, hM2, hbm2, habs2⟩ := h
        dsimp only at hbm2
        have hstep : absM M2 l2 = endsM (absM M1 l) (hd.c 7) kd.mag (j + 1) := by
          rw [habs2, habs']
          show _ = if (hd.c 7 || (j + 1 == kd.mag)) = true then _ else _
          rw [if_pos h1]
        repeat (first | refine r_seq ?_ | refine ri_seq ?_ | refine ri_region ?_ | refine ri_skip ?_ | refine ri_block ?_ | refine xi_ ?_ | refine r_nil ?_ | refine r_region ?_ | refine r_skip ?_ | refine r_block ?_ | refine r_inBlock ?_ | refine x_ ?_ | refine w_ v_p ?_ | refine w_ v_cv ?_ | refine w_ v_and ?_ | refine w_ v_or ?_ | refine w_ v_f ?_ | refine w_ v_b ?_ | refine w_ v_r ?_ | refine w_ v_i ?_ | refine w_ v_a ?_ | refine w_ v_l ?_ | refine w_ v_la ?_ | refine w_ v_ls ?_ | refine w_ v_lr ?_ | refine w_ v_ln ?_ | refine w_ v_bd ?_ | refine w_ v_ba ?_ | refine w_ v_mf ?_ | refine w_ v_sap ?_ | refine w_ v_pkf ?_ | refine w_ v_pkt ?_ | refine w_ v_nl ?_ | refine w_ v_nn ?_ | refine e_ (f_st ?_) | refine e_ (f_al fun _ => ?_) | refine e_ (f_bx fun _ => ?_))
        exact r_again (j + 1, M2, l2) ⟨by dsimp only; omega, hM2, hbm2, hstep⟩ (by dsimp only; omega) ⟨rfl, rfl, rfl, rfl, rfl, rfl, trivial⟩ (List.Sublist.refl _)
      · have hstep : absM ⟨M.bm, st', f', inf', told'⟩ l' = endsM (absM M1 l) (hd.c 7) kd.mag (j + 1) := by
          rw [habs']
          show _ = if (hd.c 7 || (j + 1 == kd.mag)) = true then _ else _
          rw [if_neg (by rw [h1]; decide)]
        repeat (first | refine r_seq ?_ | refine ri_seq ?_ | refine ri_region ?_ | refine ri_skip ?_ | refine ri_block ?_ | refine xi_ ?_ | refine r_nil ?_ | refine r_region ?_ | refine r_skip ?_ | refine r_block ?_ | refine r_inBlock ?_ | refine x_ ?_ | refine w_ v_p ?_ | refine w_ v_cv ?_ | refine w_ v_and ?_ | refine w_ v_or ?_ | refine w_ v_f ?_ | refine w_ v_b ?_ | refine w_ v_r ?_ | refine w_ v_i ?_ | refine w_ v_a ?_ | refine w_ v_l ?_ | refine w_ v_la ?_ | refine w_ v_ls ?_ | refine w_ v_lr ?_ | refine w_ v_ln ?_ | refine w_ v_bd ?_ | refine w_ v_ba ?_ | refine w_ v_mf ?_ | refine w_ v_sap ?_ | refine w_ v_pkf ?_ | refine w_ v_pkt ?_ | refine w_ v_nl ?_ | refine w_ v_nn ?_ | refine e_ (f_st ?_) | refine e_ (f_al fun _ => ?_) | refine e_ (f_bx fun _ => ?_))
        exact r_again (j + 1, ⟨M.bm, st', f', inf', told'⟩, l') ⟨by dsimp only; omega, hM', rfl, hstep⟩ (by dsimp only; omega) ⟨rfl, rfl, rfl, rfl, rfl, rfl, trivial⟩ (List.Sublist.refl _)
    · simp only [decide_eq_false_iff_not] at h
      have hj2 : j = 8 := by omega
      subst hj2
      rw [← habs']
      refine x_ ?_
      clear habs' hM1 hbm1
      clear M1
      repeat (first | refine w_ (v_la (hv := sub_all (hdC_length hd))) ?_ | refine r_seq ?_ | refine ri_seq ?_ | refine ri_region ?_ | refine ri_skip ?_ | refine ri_block ?_ | refine xi_ ?_ | refine r_nil ?_ | refine r_region ?_ | refine r_skip ?_ | refine r_block ?_ | refine r_inBlock ?_ | refine x_ ?_ | refine w_ v_p ?_ | refine w_ v_cv ?_ | refine w_ v_and ?_ | refine w_ v_or ?_ | refine w_ v_f ?_ | refine w_ v_b ?_ | refine w_ v_r ?_ | refine w_ v_i ?_ | refine w_ v_a ?_ | refine w_ v_l ?_ | refine w_ v_la ?_ | refine w_ v_ls ?_ | refine w_ v_lr ?_ | refine w_ v_ln ?_ | refine w_ v_bd ?_ | refine w_ v_ba ?_ | refine w_ v_mf ?_ | refine w_ v_sap ?_ | refine w_ v_pkf ?_ | refine w_ v_pkt ?_ | refine w_ v_nl ?_ | refine w_ v_nn ?_ | refine e_ (f_st ?_) | refine e_ (f_al fun _ => ?_) | refine e_ (f_bx fun _ => ?_))
      refine e_ (f_c (fun w hw => filler_does hd w) fun v L' h => ?_)
      obtain ⟨rfl, rfl⟩ := h
      repeat (first | refine r_seq ?_ | refine ri_seq ?_ | refine ri_region ?_ | refine ri_skip ?_ | refine ri_block ?_ | refine xi_ ?_ | refine r_nil ?_ | refine r_region ?_ | refine r_skip ?_ | refine r_block ?_ | refine r_inBlock ?_ | refine x_ ?_ | refine w_ v_p ?_ | refine w_ v_cv ?_ | refine w_ v_and ?_ | refine w_ v_or ?_ | refine w_ v_f ?_ | refine w_ v_b ?_ | refine w_ v_r ?_ | refine w_ v_i ?_ | refine w_ v_a ?_ | refine w_ v_l ?_ | refine w_ v_la ?_ | refine w_ v_ls ?_ | refine w_ v_lr ?_ | refine w_ v_ln ?_ | refine w_ v_bd ?_ | refine w_ v_ba ?_ | refine w_ v_mf ?_ | refine w_ v_sap ?_ | refine w_ v_pkf ?_ | refine w_ v_pkt ?_ | refine w_ v_nl ?_ | refine w_ v_nn ?_ | refine e_ (f_st ?_) | refine e_ (f_al fun _ => ?_) | refine e_ (f_bx fun _ => ?_))
      refine c_ (fun h1 => ?_) (fun h1 => ?_)
      · have hp : hd.pl.page = 255 := by simpa using h1
        rw [if_pos hp]
        repeat (first | refine r_seq ?_ | refine ri_seq ?_ | refine ri_region ?_ | refine ri_skip ?_ | refine ri_block ?_ | refine xi_ ?_ | refine r_nil ?_ | refine r_region ?_ | refine r_skip ?_ | refine r_block ?_ | refine r_inBlock ?_ | refine x_ ?_ | refine w_ v_p ?_ | refine w_ v_cv ?_ | refine w_ v_and ?_ | refine w_ v_or ?_ | refine w_ v_f ?_ | refine w_ v_b ?_ | refine w_ v_r ?_ | refine w_ v_i ?_ | refine w_ v_a ?_ | refine w_ v_l ?_ | refine w_ v_la ?_ | refine w_ v_ls ?_ | refine w_ v_lr ?_ | refine w_ v_ln ?_ | refine w_ v_bd ?_ | refine w_ v_ba ?_ | refine w_ v_mf ?_ | refine w_ v_sap ?_ | refine w_ v_pkf ?_ | refine w_ v_pkt ?_ | refine w_ v_nl ?_ | refine w_ v_nn ?_ | refine e_ (f_st ?_) | refine e_ (f_al fun _ => ?_) | refine e_ (f_bx fun _ => ?_))
        exact t2 (vs := [.nilIface]) (L' := mpL ⟨M.bm, st', f', inf', told'⟩ ++ [.row q 32 32 (bys t) 5 1]) (show (mpL ⟨M.bm, st', f', inf', told'⟩ ++ [En.row q 32 32 (bys t) 5 1]).Sublist (mpL ⟨M.bm, st', f', inf', told'⟩ ++ [En.row q 32 32 (bys t) 5 1, En.cells b5 (hdC hd) 48, En.cells b3 (pkC kd.mag kd.row kd.kind kd.code (.slice p m c)) 130]) from List.Sublist.append (List.Sublist.refl _) (.cons_cons _ (List.nil_sublist _))) ⟨rfl, ⟨M.bm, st', f', inf', told'⟩, l', [.row q 32 32 (bys t) 5 1], rfl, hM', rfl, rfl⟩
      · have hp : ¬ hd.pl.page = 255 := by simpa using h1
        rw [if_neg hp]
        have hfo := findP_kv l' hd.pl.z
        have hkv' := hM'.kv
        dsimp only at hkv'
        rw [← hkv'] at hfo
        have hspl : sub (hdC hd) 0 3 = some (kzC hd.pl.z) := rfl
        refine r_skip ?_
        generalize hox : findP l' hd.pl.z = ox at hfo
        have hold : (K.add [.row q 32 32 (bys t) 5 1]).p3 (ox.getD pp0).p (ox.getD pp0).c (ox.getD pp0).g.extra := by
          cases ox with
          | none => exact hz1
          | some x => exact hM'.pgs x (findP_mem hox).1
        repeat refine r_seq ?_
        refine r_meet (τ := Nat) (fun _ => True) (fun b => [(0, .v (.pointer (some ⟨M.bm, 0, none⟩))), (5, .v (.pointer (some ⟨b5, 0, none⟩))), (6, .v (.slice q 32 32)), (8, .v (.pointer (some ⟨M.bm, 1 + kd.mag * 1081, none⟩))), (10, .v (.pointer (some ⟨b, 0, none⟩))), (11, .v (.bool ox.isSome))])
          (fun b => .cells M.bm (mcC st'.bs f' inf' told') 128 :: (spL st' ++ [.cells b (ppC (ox.getD pp0)) 55, .row q 32 32 (bys t) 5 1, .cells b5 (hdC hd) 48])) ?_ ?_
        · skip
          repeat refine r_seq ?_
          refine d_in ([.cells M.bm (mcC st'.bs f' inf' told') 128, .cells b5 (hdC hd) 48]) [] ?_
          first | (refine dp 0 ?_; first | refine tp (fun _ => v_p) ?_)
          first | (refine dp 1 ?_; first | refine tp (fun _ => v_p) ?_)
          first | (refine dp 2 ?_; first | refine tp (fun _ => v_f) ?_)
          first | (refine dw 3 ?_; first | refine tw (v_l (hv := mc_s rfl)) ?_ | refine tw (v_l) ?_ | refine tw (v_la) ?_ | refine tw (v_ls) ?_ | refine tw (v_lr) ?_ | refine tw ((v_ge hG)) ?_)
          first | (refine dp 4 ?_; first | refine tp (fun _ => v_f) ?_)
          first | (refine dw 5 ?_; first | refine tw (v_la (hv := hspl)) ?_ | refine tw (v_l) ?_ | refine tw (v_la) ?_ | refine tw (v_ls) ?_ | refine tw (v_lr) ?_ | refine tw ((v_ge hG)) ?_)
          refine d_e2 6 10 ?_ ?_
          · refine f_cs (spL st') (fun b hb => hb) (fun w2 hw2 => get_does' st' hd.pl.z ox w2 hM'.ok hfo (hw2.give (Spl.perm (by repeat (first | exact Spl.nil | exact Rem.head | apply Rem.tail | apply Spl.cons))))) fun v L' h => ?_
            obtain ⟨rfl, rfl⟩ := h
            refine ⟨?_, ?_⟩
            · first | exact st_n | exact st_l rfl | exact st_s (by repeat (first | exact List.Sublist.refl _ | exact List.nil_sublist _ | exact List.sublist_append_right _ _ | apply List.Sublist.cons_cons | apply List.Sublist.cons))
            first | (refine dp 7 ?_; first | refine tp (fun _ => v_p) ?_)
            first | (refine dp 8 ?_; first | refine tp (fun _ => v_p) ?_)
            first | (refine dp 9 ?_; first | refine tp (fun _ => v_p) ?_)
            refine d_e 10 ?_
            refine f_al fun b10 => ?_
            refine ⟨?_, ?_⟩
            · first | exact st_n | exact st_l rfl | exact st_s (by repeat (first | exact List.Sublist.refl _ | exact List.nil_sublist _ | exact List.sublist_append_right _ _ | apply List.Sublist.cons_cons | apply List.Sublist.cons))
            refine d_e 11 ?_
            first | refine f_st (hl := pg_sAll rfl) (hc := pgC_length _ _ _) (hp := pgC_plain _ _ _) (hr := pgb (by omega)) ⟨?_, ?_⟩ | refine f_st ⟨?_, ?_⟩
            · first | exact st_n | exact st_l rfl | exact st_s (by repeat (first | exact List.Sublist.refl _ | exact List.nil_sublist _ | exact List.sublist_append_right _ _ | apply List.Sublist.cons_cons | apply List.Sublist.cons))
            first | (refine dp 12 ?_; first | refine tp (fun _ => v_p) ?_)
            refine d_z ?_
            exact r_ord (r_met b10 trivial ⟨rfl, rfl, rfl, rfl, rfl, rfl, trivial⟩ (List.Sublist.refl _))
          · refine f_al fun b10 => ?_
            refine ⟨?_, ?_⟩
            · first | exact st_n | exact st_l rfl | exact st_s (by repeat (first | exact List.Sublist.refl _ | exact List.nil_sublist _ | exact List.sublist_append_right _ _ | apply List.Sublist.cons_cons | apply List.Sublist.cons))
            refine d_e 6 ?_
            refine f_cs (spL st') (fun b hb => hb) (fun w2 hw2 => get_does' st' hd.pl.z ox w2 hM'.ok hfo (hw2.give (Spl.perm (by repeat (first | exact Spl.nil | exact Rem.head | apply Rem.tail | apply Spl.cons))))) fun v L' h => ?_
            obtain ⟨rfl, rfl⟩ := h
            refine ⟨?_, ?_⟩
            · first | exact st_n | exact st_l rfl | exact st_s (by repeat (first | exact List.Sublist.refl _ | exact List.nil_sublist _ | exact List.sublist_append_right _ _ | apply List.Sublist.cons_cons | apply List.Sublist.cons))
            first | (refine dp 7 ?_; first | refine tp (fun _ => v_p) ?_)
            first | (refine dp 8 ?_; first | refine tp (fun _ => v_p) ?_)
            first | (refine dp 9 ?_; first | refine tp (fun _ => v_p) ?_)
            refine d_e 11 ?_
            first | refine f_st (hl := pg_sAll rfl) (hc := pgC_length _ _ _) (hp := pgC_plain _ _ _) (hr := pgb (by omega)) ⟨?_, ?_⟩ | refine f_st ⟨?_, ?_⟩
            · first | exact st_n | exact st_l rfl | exact st_s (by repeat (first | exact List.Sublist.refl _ | exact List.nil_sublist _ | exact List.sublist_append_right _ _ | apply List.Sublist.cons_cons | apply List.Sublist.cons))
            first | (refine dp 12 ?_; first | refine tp (fun _ => v_p) ?_)
            refine d_z ?_
            exact r_ord (r_met b10 trivial ⟨rfl, rfl, rfl, rfl, rfl, rfl, trivial⟩ (List.Sublist.refl _))
        rintro b10 - f
        repeat (first | refine w_ (v_la (hv := sub_all (hdC_length hd))) ?_ | refine w_ (v_la (hv := pg_all rfl)) ?_ | refine r_seq ?_ | refine ri_seq ?_ | refine ri_region ?_ | refine ri_skip ?_ | refine ri_block ?_ | refine xi_ ?_ | refine r_nil ?_ | refine r_region ?_ | refine r_skip ?_ | refine r_block ?_ | refine r_inBlock ?_ | refine x_ ?_ | refine w_ v_p ?_ | refine w_ v_cv ?_ | refine w_ v_and ?_ | refine w_ v_or ?_ | refine w_ v_f ?_ | refine w_ v_b ?_ | refine w_ v_r ?_ | refine w_ v_i ?_ | refine w_ v_a ?_ | refine w_ v_l ?_ | refine w_ v_la ?_ | refine w_ v_ls ?_ | refine w_ v_lr ?_ | refine w_ v_ln ?_ | refine w_ v_bd ?_ | refine w_ v_ba ?_ | refine w_ v_mf ?_ | refine w_ v_sap ?_ | refine w_ v_pkf ?_ | refine w_ v_pkt ?_ | refine w_ v_nl ?_ | refine w_ v_nn ?_ | refine e_ (f_st ?_) | refine e_ (f_al fun _ => ?_) | refine e_ (f_bx fun _ => ?_))
        refine e_ (f_ce (fun w2 hw2 => newP_does hd t (ox.getD pp0).g ox.isSome (ox.getD pp0).p (ox.getD pp0).c q 32 32 w2 htl (by omega) ((hK.add hw2 (C := []) (List.Perm.refl _) (F' := []) (fun b hb => hb) (R' := [.row q 32 32 (bys t) 5 1]) (fun e he => by rw [List.mem_singleton] at he; subst he; exact (by repeat (first | exact List.Mem.head _ | apply List.Mem.tail)))).p3 _ _ _ hold) (sl_of_row hw2 (by repeat (first | exact List.Mem.head _ | apply List.Mem.tail)))) fun v L' h => ?_)
        obtain ⟨q2, d2, rfl, hL2⟩ := h
        dsimp only [List.cons_append, List.nil_append, List.append_assoc]
        repeat (first | refine e_ (f_st (hl := mc_spl (k := kd.mag) hi (by simp) (mg_sOpen rfl) (by omega)) (hr := mcb (by omega)) ?_) | refine e_ (f_st (hl := mc_spl (k := kd.mag) hi (by rw [pgC_length]; omega) (mg_sPage (x := ⟨newG hd t (ox.getD pp0).g ox.isSome, q2, d2⟩) rfl) (by omega)) (hc := pgC_length _ _ _) (hp := pgC_plain _ _ _) (hr := mcb (by omega)) ?_) | refine r_seq ?_ | refine ri_seq ?_ | refine ri_region ?_ | refine ri_skip ?_ | refine ri_block ?_ | refine xi_ ?_ | refine r_nil ?_ | refine r_region ?_ | refine r_skip ?_ | refine r_block ?_ | refine r_inBlock ?_ | refine x_ ?_ | refine w_ v_p ?_ | refine w_ v_cv ?_ | refine w_ v_and ?_ | refine w_ v_or ?_ | refine w_ v_f ?_ | refine w_ v_b ?_ | refine w_ v_r ?_ | refine w_ v_i ?_ | refine w_ v_a ?_ | refine w_ v_l ?_ | refine w_ v_la ?_ | refine w_ v_ls ?_ | refine w_ v_lr ?_ | refine w_ v_ln ?_ | refine w_ v_bd ?_ | refine w_ v_ba ?_ | refine w_ v_mf ?_ | refine w_ v_sap ?_ | refine w_ v_pkf ?_ | refine w_ v_pkt ?_ | refine w_ v_nl ?_ | refine w_ v_nn ?_ | refine e_ (f_st ?_) | refine e_ (f_al fun _ => ?_) | refine e_ (f_bx fun _ => ?_))
        repeat (first | rw [updF_twice] | rw [updF_same])
        dsimp only
        have hreg := hM'.reg kd.mag
        dsimp only at hreg
        have hsm : ∀ m2 : Mg, updF f' kd.mag m2 kd.mag = m2 := fun m2 => updF_same _ _ _
        have hq3 : (K.add (L' ++ [.row q 32 32 (bys t) 5 1])).p3 q2 d2 (newG hd t (ox.getD pp0).g ox.isSome).extra := by
          rcases hL2 with ⟨h1, h2, h3, rfl⟩ | ⟨h1, rfl⟩
          · rw [h1, h2, h3]; exact .inl hK.z
          · refine .inr ⟨h1, newG_le ?_, .head _⟩
            exact ((PoolAt.add hK hw (C := mpL M) (R := []) (by rw [List.append_nil]) (F' := FF) (fun b hb => by rw [hFF]; exact hb) (R' := []) (fun e he => by cases he)).p3 _ _ _ (.inl (hold.elim id fun h => by
              obtain ⟨_, _, h3⟩ := h
              simp at h3)) ).le
        have hfin : ∀ g2 : Pg, g2.extra = (newG hd t (ox.getD pp0).g ox.isSome).extra → g2 = dfltM (f' kd.mag).told (f' kd.mag).region (newG hd t (ox.getD pp0).g ox.isSome) →
            PkR E K M.bm (beginM (absM ⟨M.bm, st', f', inf', told'⟩ l') kd.mag hd t, none) .nilIface (mpL ⟨M.bm, st', updF f' kd.mag { f' kd.mag with opn := true, pg := ⟨g2, q2, d2⟩ }, inf', told'⟩ ++ (L' ++ [.row q 32 32 (bys t) 5 1])) := by
          intro g2 hg2 hg2e
          have hmono3 : ∀ p c l, (K.add [.row q 32 32 (bys t) 5 1]).p3 p c l → (K.add (L' ++ [.row q 32 32 (bys t) 5 1])).p3 p c l := fun p c l h => h.imp id fun ⟨a, b, c⟩ => ⟨a, b, List.mem_append_right _ c⟩
          have hmono1 : ∀ p c l, (K.add [.row q 32 32 (bys t) 5 1]).p1 p c l → (K.add (L' ++ [.row q 32 32 (bys t) 5 1])).p1 p c l := fun p c l h => h.imp id fun ⟨a, b⟩ => ⟨a, List.mem_append_right _ b⟩
          refine ⟨rfl, ⟨M.bm, st', updF f' kd.mag { f' kd.mag with opn := true, pg := ⟨g2, q2, d2⟩ }, inf', told'⟩, l', L' ++ [.row q 32 32 (bys t) 5 1], rfl, ⟨hM'.len, hM'.most, hM'.ok, hM'.kv, fun x hx => hmono3 _ _ _ (hM'.pgs x hx), ?_, ?_, ?_⟩, rfl, ?_⟩
          · refine upd_all (P := fun m : Mg => (K.add (L' ++ [.row q 32 32 (bys t) 5 1])).p3 m.pg.p m.pg.c m.pg.g.extra) (fun j => hmono3 _ _ _ (hM'.mgs j)) ?_
            show (K.add (L' ++ [.row q 32 32 (bys t) 5 1])).p3 q2 d2 g2.extra
            rw [hg2]; exact hq3
          · refine upd_all (P := fun m : Mg => (K.add (L' ++ [.row q 32 32 (bys t) 5 1])).p1 m.tp m.tc m.text) (fun j => hmono1 _ _ _ (hM'.txt j)) ?_
            exact hmono1 _ _ _ (hM'.txt kd.mag)
          · exact upd_all (P := fun m : Mg => m.region < 16) hM'.reg hreg
          · have hfg := findP_g l' hd.pl.z
            rw [hox] at hfg
            have ho1 : (findG (l'.map (·.g)) hd.pl.z).getD pg0 = (ox.getD pp0).g := by rw [← hfg]; cases ox <;> rfl
            have ho2 : (findG (l'.map (·.g)) hd.pl.z).isSome = ox.isSome := by rw [← hfg]; cases ox <;> rfl
            simp only [beginM, absM, abs_upd, ho1, ho2]
            rw [hg2e]; rfl
        generalize hgn : newG hd t (ox.getD pp0).g ox.isSome = gn at *
        repeat (first | refine w_ (v_l (v := .bool (f' kd.mag).told) (hv := mc_get (k := kd.mag) (j := 1080) hi (by omega) (by rw [updF_same]; exact mg_told rfl) rfl)) ?_ | refine w_ (v_l (v := .int .i64 gn.dflt) (hv := mc_get (k := kd.mag) (j := 1061) hi (by omega) (by rw [updF_same]; exact mg_pgGet (j := 1060) (pg_dflt rfl) rfl) rfl)) ?_ | refine r_seq ?_ | refine ri_seq ?_ | refine ri_region ?_ | refine ri_skip ?_ | refine ri_block ?_ | refine xi_ ?_ | refine r_nil ?_ | refine r_region ?_ | refine r_skip ?_ | refine r_block ?_ | refine r_inBlock ?_ | refine x_ ?_ | refine w_ v_p ?_ | refine w_ v_cv ?_ | refine w_ v_and ?_ | refine w_ v_or ?_ | refine w_ v_f ?_ | refine w_ v_b ?_ | refine w_ v_r ?_ | refine w_ v_i ?_ | refine w_ v_a ?_ | refine w_ v_l ?_ | refine w_ v_la ?_ | refine w_ v_ls ?_ | refine w_ v_lr ?_ | refine w_ v_ln ?_ | refine w_ v_bd ?_ | refine w_ v_ba ?_ | refine w_ v_mf ?_ | refine w_ v_sap ?_ | refine w_ v_pkf ?_ | refine w_ v_pkt ?_ | refine w_ v_nl ?_ | refine w_ v_nn ?_ | refine e_ (f_st ?_) | refine e_ (f_al fun _ => ?_) | refine e_ (f_bx fun _ => ?_))
        refine r_as 88 (v' := .bool ((f' kd.mag).told && gn.dflt == 0)) ?_ ?_
        · show Value.bool ((f' kd.mag).told && ((gn.dflt : Int) == 0)) = _
          congr 2; rw [Bool.eq_iff_iff]; simp only [beq_iff_eq]; omega
        refine c_ (fun h9 => ?_) (fun h9 => ?_)
        · have hd1 : dfltM (f' kd.mag).told (f' kd.mag).region gn = { gn with dflt := 1 + (f' kd.mag).region } := by rw [dfltM, if_pos h9]
          repeat (first | refine w_ (v_l (v := .int .i64 (f' kd.mag).region) (hv := mc_get (k := kd.mag) (j := 1079) hi (by omega) (by rw [updF_same]; exact mg_region rfl) rfl)) ?_ | refine e_ (f_st (hl := mc_spl (k := kd.mag) hi (by simp) (mg_sPg (x := ⟨{ gn with dflt := 1 + (f' kd.mag).region }, q2, d2⟩) (j := 1060) (by rw [updF_same]; exact pg_sDflt (by omega) rfl) (by simp) rfl) (by omega)) (hr := mcb (by omega)) ?_) | refine r_seq ?_ | refine ri_seq ?_ | refine ri_region ?_ | refine ri_skip ?_ | refine ri_block ?_ | refine xi_ ?_ | refine r_nil ?_ | refine r_region ?_ | refine r_skip ?_ | refine r_block ?_ | refine r_inBlock ?_ | refine x_ ?_ | refine w_ v_p ?_ | refine w_ v_cv ?_ | refine w_ v_and ?_ | refine w_ v_or ?_ | refine w_ v_f ?_ | refine w_ v_b ?_ | refine w_ v_r ?_ | refine w_ v_i ?_ | refine w_ v_a ?_ | refine w_ v_l ?_ | refine w_ v_la ?_ | refine w_ v_ls ?_ | refine w_ v_lr ?_ | refine w_ v_ln ?_ | refine w_ v_bd ?_ | refine w_ v_ba ?_ | refine w_ v_mf ?_ | refine w_ v_sap ?_ | refine w_ v_pkf ?_ | refine w_ v_pkt ?_ | refine w_ v_nl ?_ | refine w_ v_nn ?_ | refine e_ (f_st ?_) | refine e_ (f_al fun _ => ?_) | refine e_ (f_bx fun _ => ?_))
          repeat (first | rw [updF_twice] | rw [updF_same])
          dsimp only
          refine r_pl (L1 := mpL ⟨M.bm, st', updF f' kd.mag { f' kd.mag with opn := true, pg := ⟨{ gn with dflt := 1 + (f' kd.mag).region }, q2, d2⟩ }, inf', told'⟩ ++ (L' ++ [.row q 32 32 (bys t) 5 1])) (L2 := mpL ⟨M.bm, st', updF f' kd.mag { f' kd.mag with opn := true, pg := ⟨{ gn with dflt := 1 + (f' kd.mag).region }, q2, d2⟩ }, inf', told'⟩ ++ ([.row q 32 32 (bys t) 5 1] ++ L'))
            (.cons_cons _ (.cons_cons _ (.cons_cons _ (.cons_cons _ (.cons _ (.cons_cons _ (.cons _ (List.Sublist.refl _)))))))) (List.Perm.append_left _ List.perm_append_comm) ?_
          exact t2 (vs := [.nilIface]) (List.Sublist.refl _) (hfin _ rfl hd1.symm)
        · have hd1 : dfltM (f' kd.mag).told (f' kd.mag).region gn = gn := by rw [dfltM, if_neg (by rw [h9]; decide)]
          repeat (first | refine r_seq ?_ | refine ri_seq ?_ | refine ri_region ?_ | refine ri_skip ?_ | refine ri_block ?_ | refine xi_ ?_ | refine r_nil ?_ | refine r_region ?_ | refine r_skip ?_ | refine r_block ?_ | refine r_inBlock ?_ | refine x_ ?_ | refine w_ v_p ?_ | refine w_ v_cv ?_ | refine w_ v_and ?_ | refine w_ v_or ?_ | refine w_ v_f ?_ | refine w_ v_b ?_ | refine w_ v_r ?_ | refine w_ v_i ?_ | refine w_ v_a ?_ | refine w_ v_l ?_ | refine w_ v_la ?_ | refine w_ v_ls ?_ | refine w_ v_lr ?_ | refine w_ v_ln ?_ | refine w_ v_bd ?_ | refine w_ v_ba ?_ | refine w_ v_mf ?_ | refine w_ v_sap ?_ | refine w_ v_pkf ?_ | refine w_ v_pkt ?_ | refine w_ v_nl ?_ | refine w_ v_nn ?_ | refine e_ (f_st ?_) | refine e_ (f_al fun _ => ?_) | refine e_ (f_bx fun _ => ?_))
          refine r_pl (L1 := mpL ⟨M.bm, st', updF f' kd.mag { f' kd.mag with opn := true, pg := ⟨gn, q2, d2⟩ }, inf', told'⟩ ++ (L' ++ [.row q 32 32 (bys t) 5 1])) (L2 := mpL ⟨M.bm, st', updF f' kd.mag { f' kd.mag with opn := true, pg := ⟨gn, q2, d2⟩ }, inf', told'⟩ ++ ([.row q 32 32 (bys t) 5 1] ++ L'))
            (.cons_cons _ (.cons_cons _ (.cons_cons _ (.cons_cons _ (.cons _ (.cons_cons _ (.cons _ (List.Sublist.refl _)))))))) (List.Perm.append_left _ List.perm_append_comm) ?_
          exact t2 (vs := [.nilIface]) (List.Sublist.refl _) (hfin _ rfl hd1.symm)
end Go.Proofs

