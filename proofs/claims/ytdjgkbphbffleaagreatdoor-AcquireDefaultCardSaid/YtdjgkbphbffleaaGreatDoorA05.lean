/-
  Contracts: triplets, links, bytes made.
-/
import Derived.Test.YtdjgkbphbffleaaGreatDoorA04
namespace Go.Cf

theorem anz (z : Int) (k : Nat) (hk : k ≤ 60) : bw .and .i64 z ((2 ^ k - 1 : Nat) : Int) = z % 2 ^ k := by
  have h3 : 2 ^ k ≤ 2 ^ 60 := Nat.pow_le_pow_right (by omega) hk
  have h0 : 0 < 2 ^ k := Nat.pos_of_ne_zero (by simp)
  unfold bw
  have h1 : (BitVec.ofInt IntKind.i64.bits z).toNat = (z % ((2 ^ 64 : Nat) : Int)).toNat := BitVec.toNat_ofInt ..
  have h : ((BitVec.ofInt IntKind.i64.bits z) &&& (BitVec.ofInt IntKind.i64.bits ((2 ^ k - 1 : Nat) : Int))).toNat = (z % ((2 ^ 64 : Nat) : Int)).toNat % 2 ^ k := by
    rw [BitVec.toNat_and, h1, bvi _ (2 ^ k - 1) (by show 2 ^ k - 1 < 2 ^ 64; omega), Nat.and_two_pow_sub_one_eq_mod]
  simp only [h]
  have h4 : (z % ((2 ^ 64 : Nat) : Int)).toNat % 2 ^ k < 2 ^ k := Nat.mod_lt _ h0
  rw [wrap_i64 (by omega)]
  have h5 : (((z % ((2 ^ 64 : Nat) : Int)).toNat : Nat) : Int) = z % ((2 ^ 64 : Nat) : Int) := Int.toNat_of_nonneg (Int.emod_nonneg _ (by decide))
  rw [Int.natCast_emod, h5]
  have h6 : ((2 ^ k : Nat) : Int) ∣ ((2 ^ 64 : Nat) : Int) := Int.natCast_dvd_natCast.2 (Nat.pow_dvd_pow 2 (by omega))
  rw [Int.emod_emod_of_dvd _ h6]
  simp

structure Tr where
  addr : Nat
  mode : Nat
  data : Nat

abbrev trC (t : Tr) : List Value := [.int .i64 t.addr, .int .i64 t.mode, .int .i64 t.data]

/-- A number's triplet. -/
def trOf (z : Int) : Tr := ⟨(z % 64).toNat, (z / 64 % 32).toNat, (z / 2048 % 128).toNat⟩
def trNum (t : Tr) : Nat := t.addr % 64 + t.mode % 32 * 64 + t.data % 128 * 2048
end Go.Cf

namespace Go.Cf
section
variable {P : Program} {n : Nat} {f : Nat → Value} {σ : Bd} {s : St} {all : List Oper} {dst : Option Tmp} {ty : TypeId} {pos : String} {after : Array Edge} {guard : Option (Nat × Bool)}
/-- An operation that hands on a value, taken in its turn. -/
theorem f_val {K : Bd → St → Prop} {o : Oper} {d : Nat} {v : Value} (hv : Val P n f σ all s o d none v) (h : K ((d, .v v) :: σ) s) (hg : o.guard = none := by exact rfl) : Ef P n f σ s o K :=
  ⟨hg, fun Q a w hrep hs N hN => by
    have := hv.hr a w hrep rfl hs
    unfold Oper.wp
    rw [this]
    simp only [Oper.upon, hv.hd]
    exact hN _ _ _ _ h (hrep.put (Nat.le_of_ble_eq_true hv.hn) (.v v)) hs⟩

theorem fs_n {sz : Nat} {l : List Value} : fillS sz l [] = some l := rfl
theorem fs_c {sz i q : Nat} {l l1 l' vs : List Value} {v : Value} {r : List (Nat × Value)} (hq : i * sz = q) (hc : cellsOf v = vs) (hs : splice l q vs = l1) (h1 : Nat.beq vs.length sz = true)
    (h2 : Nat.ble (q + sz) l.length = true) (h3 : fillS sz l1 r = some l') : fillS sz l ((i, v) :: r) = some l' := by
  subst hq hc hs
  simp only [fillS, h1, h2, h3]

theorem evd_all {parts : List (Nat × Operand)} (hcc : cndl f σ (parts.map (·.2)) = true) : ∀ x ∈ parts, ev f (degs f σ (tmpsOf (parts.map (·.2))) σ) x.2 = evd f σ x.2 := by
  intro x hx
  have hc : ∀ (l : List Operand), cndl f σ l = true → ∀ y ∈ l, ∃ v, evo f σ y = some v := by
    intro l
    induction l with
    | nil => intro _ y hy; simp at hy
    | cons a r ih =>
      intro hc y hy
      simp only [cndl] at hc
      cases h1 : (sv f σ a).cnd with
      | false => simp [h1] at hc
      | true =>
        cases h2 : evo f σ a with
        | none => simp [h1, h2] at hc
        | some v =>
          simp only [h1, h2] at hc
          rcases List.mem_cons.1 hy with rfl | hy
          · exact ⟨v, h2⟩
          · exact ih hc y hy
  obtain ⟨v, hv'⟩ := hc _ hcc x.2 (List.mem_map.2 ⟨x, hx, rfl⟩)
  rw [evd, hv', ev_evo hv' (List.mem_map.2 ⟨x, hx, rfl⟩)]

/-- An array's literal. -/
theorem v_ba {T e : TypeId} {len : Nat} [ht : TyArr P T len e] {agg : Bool} {sz : Nat} [ha : TyA P e agg sz] {z : List Value} [hz : TyZ P T z] {parts : List (Nat × Operand)} {vals : List (Nat × Value)} {l : List Value} {d : Nat} {gd : Option Bool}
    (hv : vals = parts.map (fun x => (x.1, evd f σ x.2)) := by repeat (first | exact pm_n | apply pm_c (by exact rfl))) (hcc : cndl f σ (parts.map (·.2)) = true := by exact rfl) (hl : fillS sz z vals = some l := by repeat (first | exact fs_n | apply fs_c (by first | exact Nat.mul_one _ | (simp only [Nat.reduceMul]; done) | exact rfl) (by first | exact co1 | exact co2 rfl | exact rfl) (by repeat (first | with_reducible exact sp0 _ | with_reducible apply sp1 | with_reducible apply sp2 | exact rfl)) (by exact rfl) (by exact rfl)))
    (hd : dst = some d := by exact rfl) (hn : Nat.ble (d + 1) n = true := by exact rfl) (hg : gdOf f σ all guard = some gd := by exact rfl) (hgo : gob f σ (gdc gd) (tmpsOf (parts.map (·.2))) := by exact trivial) :
    Val P n f σ all s ⟨dst, .build T parts.toArray, ty, pos, after, guard⟩ d gd (.agg l.toArray) := by
  have hops : (Op.build T parts.toArray).operands.toList = parts.map (·.2) := by simp [Op.operands]
  refine .of hd hn hg (fun W _ => ?_) (by rw [hops]; exact hgo)
  simp only [hops]
  obtain ⟨zv, hzv, hzc⟩ := run_zeroValue (P := P) (T := T) (z := z) W
  have hsz := run_sizeOf ha.knows W
  rw [ha.sz] at hsz
  have hvals : parts.map (fun x => (x.1, ev f (degs f σ (tmpsOf (parts.map (·.2))) σ) x.2)) = vals := by
    rw [hv]; exact List.map_congr_left fun x hx => by rw [evd_all hcc x hx]
  have hfill := fill_fillS sz vals z l hl
  have hzt : zv.cells = z.toArray := by rw [← hzc]
  simp only [execOp, Instr.build, Sem.run_bind, hzv, Result.andThen_ok, run_underArr (P := P) (T := T) (e := e) (len := len), hsz, List.map_toArray, hvals, hzt, hfill, Sem.run_pure]
end

def spotsL : List Nat := [3, 5, 6, 7, 9, 10, 11, 12, 13, 14, 15, 17, 18, 19, 20, 21, 22, 23]
def spot (i : Nat) : Nat := spotsL.getD i 0
theorem spot_get : ∀ i, i < 18 → spotsL[i]? = some (spot i) := by decide
theorem spot_le : ∀ i, i < 18 → 1 ≤ spot i ∧ spot i ≤ 23 := by decide
theorem spot_next : ∀ i, i < 17 → spot i ≤ spot (i + 1) - 1 := by decide

def bitN (n i : Nat) : Nat := n / 2 ^ i % 2
theorem bitN_le (n i : Nat) : bitN n i ≤ 1 := by
  have : bitN n i < 2 := Nat.mod_lt _ (by decide)
  omega

/-- The data's places. -/
def d24 (n : Nat) : Nat → Nat
  | 0 => 0
  | i + 1 => d24 n i + bitN n i * 2 ^ (spot i - 1)

theorem d24_lt (n : Nat) : ∀ i, i < 18 → d24 n (i + 1) < 2 ^ spot i ∧ d24 n i < 2 ^ (spot i - 1)
  | 0, _ => by
    have h1 := bitN_le n 0
    have h3 : spot 0 = 3 := rfl
    simp only [d24, h3]
    omega
  | i + 1, h => by
    obtain ⟨h1, h2⟩ := d24_lt n i (by omega)
    have h3 := spot_next i (by omega)
    have h4 : 2 ^ spot i ≤ 2 ^ (spot (i + 1) - 1) := Nat.pow_le_pow_right (by omega) h3
    have h5 := bitN_le n (i + 1)
    have h6 : bitN n (i + 1) * 2 ^ (spot (i + 1) - 1) ≤ 1 * 2 ^ (spot (i + 1) - 1) := Nat.mul_le_mul_right _ h5
    have h7 := (spot_le (i + 1) h).1
    have h8 : 2 ^ spot (i + 1) = 2 * 2 ^ (spot (i + 1) - 1) := by
      rw [show spot (i + 1) = (spot (i + 1) - 1) + 1 from by omega, Nat.pow_succ]; simp only [Nat.add_sub_cancel]; omega
    refine ⟨?_, by omega⟩
    show d24 n (i + 1) + bitN n (i + 1) * 2 ^ (spot (i + 1) - 1) < 2 ^ spot (i + 1)
    omega

/-- What a watch sees, up to a place. -/
def ox (w k : Nat) : Nat → Nat
  | 0 => 0
  | j + 1 => if flagB (j + 1) k then ox w k j ^^^ bitN w j else ox w k j
theorem ox_le (w k : Nat) : ∀ j, ox w k j ≤ 1
  | 0 => by show (0 : Nat) ≤ 1; omega
  | j + 1 => by
    have h1 := ox_le w k j
    have h2 := bitN_le w j
    rw [ox]
    split
    · have := xor_lt (a := ox w k j) (b := bitN w j) (k := 1) (by omega) (by omega)
      omega
    · exact h1

def watch (w : Nat) (k : Nat) : Nat := if ox w k 23 = 0 then w ||| 2 ^ (2 ^ k - 1) else w
def watches (w : Nat) : Nat → Nat
  | 0 => w
  | k + 1 => watch (watches w k) k
theorem watches_lt (w : Nat) (h : w < 2 ^ 23) : ∀ k, k ≤ 5 → watches w k < 2 ^ 23
  | 0, _ => h
  | k + 1, hk => by
    have h1 := watches_lt w h k (by omega)
    have h2 : 2 ^ (2 ^ k - 1) < 2 ^ 23 := by
      have : k = 0 ∨ k = 1 ∨ k = 2 ∨ k = 3 ∨ k = 4 := by omega
      rcases this with rfl | rfl | rfl | rfl | rfl <;> decide
    rw [watches, watch]
    split
    · exact or_lt h1 h2
    · exact h1

/-- A place of few. -/
def pagesL : List Nat := [0, 1, 2, 35, 153, 255, 26, 16]
def subsL : List Nat := [0, 1, 2, 16255]
def placeM (mag page sub : Int) : Pl := ⟨(mag % 3).toNat + 1, pagesL.getD (page % 8).toNat 0, subsL.getD (sub % 4).toNat 0⟩
theorem pages_get (i : Int) (h : 0 ≤ i ∧ i < 8) : (nums pagesL)[i.toNat * 1]? = some (.int .i64 (pagesL.getD i.toNat 0 : Nat)) := by
  have : ∀ j, j < 8 → pagesL[j]? = some (pagesL.getD j 0) := by decide
  simpa using nums_get (this i.toNat (by omega))
theorem subs_get (i : Int) (h : 0 ≤ i ∧ i < 4) : (nums subsL)[i.toNat * 1]? = some (.int .i64 (subsL.getD i.toNat 0 : Nat)) := by
  have : ∀ j, j < 4 → subsL[j]? = some (subsL.getD j 0) := by decide
  simpa using nums_get (this i.toNat (by omega))

/-- Eighteen bits in 24. -/
def put24M (n : Nat) : Nat := let w := watches (d24 n 18) 5; if pop w % 2 = 0 then w ||| 8388608 else w
theorem put24_lt (n : Nat) : put24M n < 2 ^ 24 := by
  have h1 := watches_lt (d24 n 18) (d24_lt n 17 (by omega)).1 5 (by omega)
  simp only [put24M]
  split
  · exact or_lt (by omega) (by decide)
  · omega
theorem wrap8 (w : Nat) : IntKind.u8.wrap (w : Int) = ((UInt8.ofNat w).toNat : Int) := by
  have e1 : (2 : Int) ^ IntKind.u8.bits = 256 := by decide
  rw [UInt8.toNat_ofNat']
  simp only [IntKind.wrap, IntKind.signed, e1, Bool.false_and, Bool.false_eq_true, if_false]
  omega

/-- A number of 24 bits as three bytes. -/
def b24 (w : Nat) : List UInt8 := [UInt8.ofNat w, UInt8.ofNat (w / 256), UInt8.ofNat (w / 65536)]
end Go.Cf

namespace Go.Proofs
open Go.Cf
set_option maxRecDepth 10000

theorem trOf_does (z : Int) (w : World) : Does Tryz.prog 66 [.int .i64 z] w [] (fun v L => v = .agg (trC (trOf z)).toArray ∧ L = []) := by
  refine does_of Tryz.func66 rfl rfl ?_
  have e0 : bw .and .i64 z 63 = ((z % 64).toNat : Int) := by
    have := anz z 6 (by omega)
    rw [Int.toNat_of_nonneg (by omega)]; exact this
  have e1 : bw .and .i64 (z / 2 ^ Int.toNat 6) 31 = ((z / 64 % 32).toNat : Int) := by
    have := anz (z / 64) 5 (by omega)
    rw [Int.toNat_of_nonneg (by omega)]; exact this
  have e2 : bw .and .i64 (z / 2 ^ Int.toNat 11) 127 = ((z / 2048 % 128).toNat : Int) := by
    have := anz (z / 2048) 7 (by omega)
    rw [Int.toNat_of_nonneg (by omega)]; exact this
  repeat (first | refine r_seq ?_ | refine r_nil ?_ | refine r_region ?_ | refine r_skip ?_ | refine r_block ?_ | refine r_inBlock ?_ | refine x_ ?_ | refine w_ v_p ?_ | refine w_ v_cv ?_ | refine w_ v_and ?_ | refine w_ v_or ?_ | refine w_ v_f ?_ | refine w_ v_b ?_ | refine w_ v_r ?_ | refine w_ v_i ?_ | refine w_ v_a ?_ | refine w_ v_l ?_ | refine w_ v_la ?_ | refine w_ v_ls ?_ | refine w_ v_lr ?_ | refine w_ v_ln ?_ | refine w_ v_bd ?_ | refine w_ v_ba ?_ | refine w_ v_mf ?_ | refine e_ (f_st ?_) | refine e_ (f_al fun _ => ?_) | refine e_ (f_bx fun _ => ?_))
  refine t2 (List.nil_sublist _) ⟨?_, rfl⟩
  show Value.agg #[.int .i64 _, .int .i64 _, .int .i64 _] = _
  rw [trOf, trC, ← e0, ← e1, ← e2]

theorem trNum_does (t : Tr) (w : World) (h1 : t.addr < 2 ^ 62) (h2 : t.mode < 2 ^ 62) (h3 : t.data < 2 ^ 62) : Does Tryz.prog 140 [.agg (trC t).toArray] w [] (fun v L => v = .int .i64 (trNum t) ∧ L = []) := by
  refine does_of Tryz.func140 rfl rfl ?_
  have e0 : bw .and .i64 (t.addr : Int) 63 = ((t.addr % 64 : Nat) : Int) := an _ 6 h1 (by omega)
  have e1 : bw .and .i64 (t.mode : Int) 31 = ((t.mode % 32 : Nat) : Int) := an _ 5 h2 (by omega)
  have e2 : bw .and .i64 (t.data : Int) 127 = ((t.data % 128 : Nat) : Int) := an _ 7 h3 (by omega)
  have e3 : bw .or .i64 ((t.addr % 64 : Nat) : Int) (shl .i64 ((t.mode % 32 : Nat) : Int) 6) = ((t.addr % 64 + t.mode % 32 * 64 : Nat) : Int) := os _ _ 6 (by omega) (by omega) (by omega)
  have e4 : bw .or .i64 ((t.addr % 64 + t.mode % 32 * 64 : Nat) : Int) (shl .i64 ((t.data % 128 : Nat) : Int) 11) = ((trNum t : Nat) : Int) := os _ _ 11 (by omega) (by omega) (by omega)
  rw [← e3, ← e0, ← e1, ← e2] at e4
  repeat (first | refine r_seq ?_ | refine r_nil ?_ | refine r_region ?_ | refine r_skip ?_ | refine r_block ?_ | refine r_inBlock ?_ | refine x_ ?_ | refine w_ v_p ?_ | refine w_ v_cv ?_ | refine w_ v_and ?_ | refine w_ v_or ?_ | refine w_ v_f ?_ | refine w_ v_b ?_ | refine w_ v_r ?_ | refine w_ v_i ?_ | refine w_ v_a ?_ | refine w_ v_l ?_ | refine w_ v_la ?_ | refine w_ v_ls ?_ | refine w_ v_lr ?_ | refine w_ v_ln ?_ | refine w_ v_bd ?_ | refine w_ v_ba ?_ | refine w_ v_mf ?_ | refine e_ (f_st ?_) | refine e_ (f_al fun _ => ?_) | refine e_ (f_bx fun _ => ?_))
  exact t_ rfl (.tmp rfl .nil) (List.nil_sublist _) ⟨congrArg (Value.int .i64) e4, rfl⟩

theorem spots_does (w : World) : Does Tryz.prog 233 [] w [] (fun v L => ∃ b, v = .slice (some ⟨b, 0, none⟩) 18 18 ∧ L = [.row (some ⟨b, 0, none⟩) 18 18 (nums spotsL) 3 1]) := by
  refine does_of Tryz.func233 rfl rfl ?_
  repeat (first | refine r_seq ?_ | refine r_nil ?_ | refine r_region ?_ | refine r_skip ?_ | refine r_block ?_ | refine r_inBlock ?_ | refine x_ ?_ | refine w_ v_p ?_ | refine w_ v_cv ?_ | refine w_ v_and ?_ | refine w_ v_or ?_ | refine w_ v_f ?_ | refine w_ v_b ?_ | refine w_ v_r ?_ | refine w_ v_i ?_ | refine w_ v_a ?_ | refine w_ v_l ?_ | refine w_ v_la ?_ | refine w_ v_ls ?_ | refine w_ v_lr ?_ | refine w_ v_ln ?_ | refine w_ v_bd ?_ | refine w_ v_ba ?_ | refine w_ v_mf ?_ | refine e_ (f_st ?_) | refine e_ (f_al fun _ => ?_) | refine e_ (f_bx fun _ => ?_))
  refine e_ (f_bs (l := nums spotsL) fun b => ?_)
  refine r_cr 18 1 ?_
  repeat (first | refine r_seq ?_ | refine r_nil ?_ | refine r_region ?_ | refine r_skip ?_ | refine r_block ?_ | refine r_inBlock ?_ | refine x_ ?_ | refine w_ v_p ?_ | refine w_ v_cv ?_ | refine w_ v_and ?_ | refine w_ v_or ?_ | refine w_ v_f ?_ | refine w_ v_b ?_ | refine w_ v_r ?_ | refine w_ v_i ?_ | refine w_ v_a ?_ | refine w_ v_l ?_ | refine w_ v_la ?_ | refine w_ v_ls ?_ | refine w_ v_lr ?_ | refine w_ v_ln ?_ | refine w_ v_bd ?_ | refine w_ v_ba ?_ | refine w_ v_mf ?_ | refine e_ (f_st ?_) | refine e_ (f_al fun _ => ?_) | refine e_ (f_bx fun _ => ?_))
  exact t_ rfl (.tmp rfl .nil) (.cons_cons _ (List.nil_sublist _)) ⟨b, rfl, rfl⟩
end Go.Proofs

namespace Go.Proofs
open Go.Cf
set_option maxRecDepth 10000

theorem put24_does (n : Nat) (w : World) (hn : n < 2 ^ 18) : Does Tryz.prog 199 [.int .i64 n] w [] (fun v L => v = .int .i64 (put24M n) ∧ L = []) := by
  refine does_of Tryz.func199 rfl rfl ?_
  repeat (first | refine r_seq ?_ | refine r_nil ?_ | refine r_region ?_ | refine r_skip ?_ | refine r_block ?_ | refine r_inBlock ?_ | refine x_ ?_ | refine w_ v_p ?_ | refine w_ v_cv ?_ | refine w_ v_and ?_ | refine w_ v_or ?_ | refine w_ v_f ?_ | refine w_ v_b ?_ | refine w_ v_r ?_ | refine w_ v_i ?_ | refine w_ v_a ?_ | refine w_ v_l ?_ | refine w_ v_la ?_ | refine w_ v_ls ?_ | refine w_ v_lr ?_ | refine w_ v_ln ?_ | refine w_ v_bd ?_ | refine w_ v_ba ?_ | refine w_ v_mf ?_ | refine e_ (f_st ?_) | refine e_ (f_al fun _ => ?_) | refine e_ (f_bx fun _ => ?_))
  refine e_ (f_c (fun w _ => spots_does w) fun v L' h => ?_)
  obtain ⟨b, rfl, rfl⟩ := h
  repeat (first | refine r_seq ?_ | refine r_nil ?_ | refine r_region ?_ | refine r_skip ?_ | refine r_block ?_ | refine r_inBlock ?_ | refine x_ ?_ | refine w_ v_p ?_ | refine w_ v_cv ?_ | refine w_ v_and ?_ | refine w_ v_or ?_ | refine w_ v_f ?_ | refine w_ v_b ?_ | refine w_ v_r ?_ | refine w_ v_i ?_ | refine w_ v_a ?_ | refine w_ v_l ?_ | refine w_ v_la ?_ | refine w_ v_ls ?_ | refine w_ v_lr ?_ | refine w_ v_ln ?_ | refine w_ v_bd ?_ | refine w_ v_ba ?_ | refine w_ v_mf ?_ | refine e_ (f_st ?_) | refine e_ (f_al fun _ => ?_) | refine e_ (f_bx fun _ => ?_))
  refine r_loop (τ := Nat) (fun i => i ≤ 18) (fun i => 18 - i) (fun i => [(0, .v (.int .i64 n)), (3, .v (.int .i64 (d24 n i))), (4, .v (.slice (some ⟨b, 0, none⟩) 18 18)), (5, .v (.int .i64 i))])
    (fun _ => [.row (some ⟨b, 0, none⟩) 18 18 (nums spotsL) 3 1]) 0 (by omega) ⟨rfl, rfl, rfl, rfl, trivial⟩ (List.Sublist.refl _) ?_
  rintro i hi f
  repeat (first | refine r_seq ?_ | refine r_nil ?_ | refine r_region ?_ | refine r_skip ?_ | refine r_block ?_ | refine r_inBlock ?_ | refine x_ ?_ | refine w_ v_p ?_ | refine w_ v_cv ?_ | refine w_ v_and ?_ | refine w_ v_or ?_ | refine w_ v_f ?_ | refine w_ v_b ?_ | refine w_ v_r ?_ | refine w_ v_i ?_ | refine w_ v_a ?_ | refine w_ v_l ?_ | refine w_ v_la ?_ | refine w_ v_ls ?_ | refine w_ v_lr ?_ | refine w_ v_ln ?_ | refine w_ v_bd ?_ | refine w_ v_ba ?_ | refine w_ v_mf ?_ | refine e_ (f_st ?_) | refine e_ (f_al fun _ => ?_) | refine e_ (f_bx fun _ => ?_))
  refine c_ (fun h => ?_) (fun h => ?_)
  · simp only [decide_eq_true_eq] at h
    have hlt : i < 18 := by omega
    have hload : (nums spotsL)[((i : Nat) : Int).toNat * 1]? = some (.int .i64 (spot i : Nat)) := by simpa using nums_get (spot_get i hlt)
    have hsp := spot_le i hlt
    have hd := (d24_lt n i hlt).2
    have hpw : 2 ^ (spot i - 1) ≤ 2 ^ 22 := Nat.pow_le_pow_right (by omega) (by omega)
    have hbt := bitN_le n i
    have hs1 : ((spot i : Nat) : Int) - 1 = ((spot i - 1 : Nat) : Int) := by omega
    have hdv : n / 2 ^ i ≤ n := Nat.div_le_self _ _
    have s1 : (n : Int) / 2 ^ ((i : Nat) : Int).toNat = ((n / 2 ^ i : Nat) : Int) := by simp
    have a1 : bw .and .i64 ((n / 2 ^ i : Nat) : Int) 1 = ((bitN n i : Nat) : Int) := an (n / 2 ^ i) 1 (by omega) (by omega)
    have hm : bitN n i * 2 ^ (spot i - 1) ≤ 1 * 2 ^ (spot i - 1) := Nat.mul_le_mul_right _ hbt
    have e : bw .or .i64 (d24 n i : Int) (shl .i64 ((bitN n i : Nat) : Int) ((spot i - 1 : Nat) : Int)) = ((d24 n (i + 1) : Nat) : Int) := os (d24 n i) (bitN n i) (spot i - 1) hd (by omega) (by omega)
    rw [← a1, ← s1, ← hs1] at e
    repeat (first | refine w_ (v_cv (hc := wrap_u64 (by omega))) ?_ | refine w_ (v_lr (hv := hload)) ?_ | refine r_seq ?_ | refine r_nil ?_ | refine r_region ?_ | refine r_skip ?_ | refine r_block ?_ | refine r_inBlock ?_ | refine x_ ?_ | refine w_ v_p ?_ | refine w_ v_cv ?_ | refine w_ v_and ?_ | refine w_ v_or ?_ | refine w_ v_f ?_ | refine w_ v_b ?_ | refine w_ v_r ?_ | refine w_ v_i ?_ | refine w_ v_a ?_ | refine w_ v_l ?_ | refine w_ v_la ?_ | refine w_ v_ls ?_ | refine w_ v_lr ?_ | refine w_ v_ln ?_ | refine w_ v_bd ?_ | refine w_ v_ba ?_ | refine w_ v_mf ?_ | refine e_ (f_st ?_) | refine e_ (f_al fun _ => ?_) | refine e_ (f_bx fun _ => ?_))
    exact r_again (i + 1) (by omega) (by omega) ⟨rfl, congrArg (Value.int .i64) e, rfl, rfl, trivial⟩ (List.Sublist.refl _)
  · simp only [decide_eq_false_iff_not] at h
    have hi2 : i = 18 := by omega
    subst hi2
    have hw0 := (d24_lt n 17 (by omega)).1
    have hw0' : d24 n 18 < 2 ^ 23 := hw0
    have hwl := watches_lt (d24 n 18) hw0'
    repeat (first | refine r_seq ?_ | refine r_nil ?_ | refine r_region ?_ | refine r_skip ?_ | refine r_block ?_ | refine r_inBlock ?_ | refine x_ ?_ | refine w_ v_p ?_ | refine w_ v_cv ?_ | refine w_ v_and ?_ | refine w_ v_or ?_ | refine w_ v_f ?_ | refine w_ v_b ?_ | refine w_ v_r ?_ | refine w_ v_i ?_ | refine w_ v_a ?_ | refine w_ v_l ?_ | refine w_ v_la ?_ | refine w_ v_ls ?_ | refine w_ v_lr ?_ | refine w_ v_ln ?_ | refine w_ v_bd ?_ | refine w_ v_ba ?_ | refine w_ v_mf ?_ | refine e_ (f_st ?_) | refine e_ (f_al fun _ => ?_) | refine e_ (f_bx fun _ => ?_))
    refine r_loop (τ := Nat) (fun k => k ≤ 5) (fun k => 5 - k) (fun k => [(3, .v (.int .i64 (watches (d24 n 18) k))), (6, .v (.int .i64 k))]) (fun _ => []) 0 (by omega) ⟨rfl, rfl, trivial⟩ (List.nil_sublist _) ?_
    rintro k hk f
    have hwk := hwl k hk
    generalize hwe : watches (d24 n 18) k = wk at hwk
    repeat (first | refine r_seq ?_ | refine r_nil ?_ | refine r_region ?_ | refine r_skip ?_ | refine r_block ?_ | refine r_inBlock ?_ | refine x_ ?_ | refine w_ v_p ?_ | refine w_ v_cv ?_ | refine w_ v_and ?_ | refine w_ v_or ?_ | refine w_ v_f ?_ | refine w_ v_b ?_ | refine w_ v_r ?_ | refine w_ v_i ?_ | refine w_ v_a ?_ | refine w_ v_l ?_ | refine w_ v_la ?_ | refine w_ v_ls ?_ | refine w_ v_lr ?_ | refine w_ v_ln ?_ | refine w_ v_bd ?_ | refine w_ v_ba ?_ | refine w_ v_mf ?_ | refine e_ (f_st ?_) | refine e_ (f_al fun _ => ?_) | refine e_ (f_bx fun _ => ?_))
    refine c_ (fun h1 => ?_) (fun h1 => ?_)
    · simp only [decide_eq_true_eq] at h1
      have hk5 : k < 5 := by omega
      repeat (first | refine r_seq ?_ | refine r_nil ?_ | refine r_region ?_ | refine r_skip ?_ | refine r_block ?_ | refine r_inBlock ?_ | refine x_ ?_ | refine w_ v_p ?_ | refine w_ v_cv ?_ | refine w_ v_and ?_ | refine w_ v_or ?_ | refine w_ v_f ?_ | refine w_ v_b ?_ | refine w_ v_r ?_ | refine w_ v_i ?_ | refine w_ v_a ?_ | refine w_ v_l ?_ | refine w_ v_la ?_ | refine w_ v_ls ?_ | refine w_ v_lr ?_ | refine w_ v_ln ?_ | refine w_ v_bd ?_ | refine w_ v_ba ?_ | refine w_ v_mf ?_ | refine e_ (f_st ?_) | refine e_ (f_al fun _ => ?_) | refine e_ (f_bx fun _ => ?_))
      refine r_loop (τ := Nat) (fun j => j ≤ 23) (fun j => 23 - j) (fun j => [(3, .v (.int .i64 wk)), (6, .v (.int .i64 k)), (7, .v (.int .i64 (ox wk k j))), (8, .v (.int .i64 (j + 1 : Nat)))]) (fun _ => []) 0 (by omega) ⟨rfl, rfl, rfl, rfl, trivial⟩ (List.nil_sublist _) ?_
      rintro j hj f
      repeat (first | refine r_seq ?_ | refine r_nil ?_ | refine r_region ?_ | refine r_skip ?_ | refine r_block ?_ | refine r_inBlock ?_ | refine x_ ?_ | refine w_ v_p ?_ | refine w_ v_cv ?_ | refine w_ v_and ?_ | refine w_ v_or ?_ | refine w_ v_f ?_ | refine w_ v_b ?_ | refine w_ v_r ?_ | refine w_ v_i ?_ | refine w_ v_a ?_ | refine w_ v_l ?_ | refine w_ v_la ?_ | refine w_ v_ls ?_ | refine w_ v_lr ?_ | refine w_ v_ln ?_ | refine w_ v_bd ?_ | refine w_ v_ba ?_ | refine w_ v_mf ?_ | refine e_ (f_st ?_) | refine e_ (f_al fun _ => ?_) | refine e_ (f_bx fun _ => ?_))
      refine c_ (fun h2 => ?_) (fun h2 => ?_)
      · simp only [decide_eq_true_eq] at h2
        have hox := ox_le wk k j
        repeat (first | refine w_ (v_cv (hc := wrap_u64 (by omega))) ?_ | refine r_seq ?_ | refine r_nil ?_ | refine r_region ?_ | refine r_skip ?_ | refine r_block ?_ | refine r_inBlock ?_ | refine x_ ?_ | refine w_ v_p ?_ | refine w_ v_cv ?_ | refine w_ v_and ?_ | refine w_ v_or ?_ | refine w_ v_f ?_ | refine w_ v_b ?_ | refine w_ v_r ?_ | refine w_ v_i ?_ | refine w_ v_a ?_ | refine w_ v_l ?_ | refine w_ v_la ?_ | refine w_ v_ls ?_ | refine w_ v_lr ?_ | refine w_ v_ln ?_ | refine w_ v_bd ?_ | refine w_ v_ba ?_ | refine w_ v_mf ?_ | refine e_ (f_st ?_) | refine e_ (f_al fun _ => ?_) | refine e_ (f_bx fun _ => ?_))
        refine r_as 41 (v' := .bool (flagB (j + 1) k)) (congrArg Value.bool (flagB_bw (j + 1) k (by omega))) ?_
        refine c_ (fun h3 => ?_) (fun h3 => ?_)
        · have hj1 : ((j + 1 : Nat) : Int) - 1 = (j : Int) := by omega
          have s1 : (wk : Int) / 2 ^ (((j + 1 : Nat) : Int) - 1).toNat = ((wk / 2 ^ j : Nat) : Int) := by rw [hj1]; simp
          have hdv : wk / 2 ^ j ≤ wk := Nat.div_le_self _ _
          have a1 : bw .and .i64 ((wk / 2 ^ j : Nat) : Int) 1 = ((bitN wk j : Nat) : Int) := an (wk / 2 ^ j) 1 (by omega) (by omega)
          have hbt := bitN_le wk j
          have e : bw .xor .i64 (ox wk k j : Int) ((bitN wk j : Nat) : Int) = ((ox wk k (j + 1) : Nat) : Int) := by
            rw [bw_xor _ _ (by omega) (by omega), ox, if_pos h3]
          rw [← a1, ← s1] at e
          repeat (first | refine w_ (v_cv (hc := wrap_u64 (by omega))) ?_ | refine r_seq ?_ | refine r_nil ?_ | refine r_region ?_ | refine r_skip ?_ | refine r_block ?_ | refine r_inBlock ?_ | refine x_ ?_ | refine w_ v_p ?_ | refine w_ v_cv ?_ | refine w_ v_and ?_ | refine w_ v_or ?_ | refine w_ v_f ?_ | refine w_ v_b ?_ | refine w_ v_r ?_ | refine w_ v_i ?_ | refine w_ v_a ?_ | refine w_ v_l ?_ | refine w_ v_la ?_ | refine w_ v_ls ?_ | refine w_ v_lr ?_ | refine w_ v_ln ?_ | refine w_ v_bd ?_ | refine w_ v_ba ?_ | refine w_ v_mf ?_ | refine e_ (f_st ?_) | refine e_ (f_al fun _ => ?_) | refine e_ (f_bx fun _ => ?_))
          exact r_again (j + 1) (by omega) (by omega) ⟨rfl, rfl, congrArg (Value.int .i64) e, congrArg (Value.int .i64) (by omega), trivial⟩ (List.nil_sublist _)
        · repeat (first | refine r_seq ?_ | refine r_nil ?_ | refine r_region ?_ | refine r_skip ?_ | refine r_block ?_ | refine r_inBlock ?_ | refine x_ ?_ | refine w_ v_p ?_ | refine w_ v_cv ?_ | refine w_ v_and ?_ | refine w_ v_or ?_ | refine w_ v_f ?_ | refine w_ v_b ?_ | refine w_ v_r ?_ | refine w_ v_i ?_ | refine w_ v_a ?_ | refine w_ v_l ?_ | refine w_ v_la ?_ | refine w_ v_ls ?_ | refine w_ v_lr ?_ | refine w_ v_ln ?_ | refine w_ v_bd ?_ | refine w_ v_ba ?_ | refine w_ v_mf ?_ | refine e_ (f_st ?_) | refine e_ (f_al fun _ => ?_) | refine e_ (f_bx fun _ => ?_))
          exact r_again (j + 1) (by omega) (by omega) ⟨rfl, rfl, by rw [ox, if_neg (by rw [h3]; decide)]; rfl, congrArg (Value.int .i64) (by omega), trivial⟩ (List.nil_sublist _)
      · simp only [decide_eq_false_iff_not] at h2
        have hj23 : j = 23 := by omega
        subst hj23
        have hwn : watches (d24 n 18) (k + 1) = if ox wk k 23 = 0 then wk ||| 2 ^ (2 ^ k - 1) else wk := by rw [watches, hwe, watch]
        repeat (first | refine r_seq ?_ | refine r_nil ?_ | refine r_region ?_ | refine r_skip ?_ | refine r_block ?_ | refine r_inBlock ?_ | refine x_ ?_ | refine w_ v_p ?_ | refine w_ v_cv ?_ | refine w_ v_and ?_ | refine w_ v_or ?_ | refine w_ v_f ?_ | refine w_ v_b ?_ | refine w_ v_r ?_ | refine w_ v_i ?_ | refine w_ v_a ?_ | refine w_ v_l ?_ | refine w_ v_la ?_ | refine w_ v_ls ?_ | refine w_ v_lr ?_ | refine w_ v_ln ?_ | refine w_ v_bd ?_ | refine w_ v_ba ?_ | refine w_ v_mf ?_ | refine e_ (f_st ?_) | refine e_ (f_al fun _ => ?_) | refine e_ (f_bx fun _ => ?_))
        refine c_ (fun h3 => ?_) (fun h3 => ?_)
        · have h3' : ox wk k 23 = 0 := by simp only [beq_iff_eq] at h3; omega
          rw [if_pos h3'] at hwn
          repeat (first | refine w_ (v_cv (hc := wrap_u64 (by omega))) ?_ | refine r_seq ?_ | refine r_nil ?_ | refine r_region ?_ | refine r_skip ?_ | refine r_block ?_ | refine r_inBlock ?_ | refine x_ ?_ | refine w_ v_p ?_ | refine w_ v_cv ?_ | refine w_ v_and ?_ | refine w_ v_or ?_ | refine w_ v_f ?_ | refine w_ v_b ?_ | refine w_ v_r ?_ | refine w_ v_i ?_ | refine w_ v_a ?_ | refine w_ v_l ?_ | refine w_ v_la ?_ | refine w_ v_ls ?_ | refine w_ v_lr ?_ | refine w_ v_ln ?_ | refine w_ v_bd ?_ | refine w_ v_ba ?_ | refine w_ v_mf ?_ | refine e_ (f_st ?_) | refine e_ (f_al fun _ => ?_) | refine e_ (f_bx fun _ => ?_))
          have hk5' : k = 0 ∨ k = 1 ∨ k = 2 ∨ k = 3 ∨ k = 4 := by omega
          refine r_as 56 (v' := .int .u64 (2 ^ k - 1 : Nat)) ?_ ?_
          · rcases hk5' with rfl | rfl | rfl | rfl | rfl <;> rfl
          have hp5 : 2 ^ k - 1 ≤ 15 := by rcases hk5' with rfl | rfl | rfl | rfl | rfl <;> decide
          have hpp : 2 ^ (2 ^ k - 1) ≤ 2 ^ 15 := Nat.pow_le_pow_right (by omega) hp5
          have e1 : shl .i64 1 ((2 ^ k - 1 : Nat) : Int) = ((1 * 2 ^ (2 ^ k - 1) : Nat) : Int) := shl_nat 1 (2 ^ k - 1) (by omega) (by omega)
          have e2 : bw .or .i64 (wk : Int) ((2 ^ (2 ^ k - 1) : Nat) : Int) = ((wk ||| 2 ^ (2 ^ k - 1) : Nat) : Int) := bw_or wk _ (by omega) (by omega)
          rw [Nat.one_mul] at e1
          rw [← e1] at e2
          repeat (first | refine r_seq ?_ | refine r_nil ?_ | refine r_region ?_ | refine r_skip ?_ | refine r_block ?_ | refine r_inBlock ?_ | refine x_ ?_ | refine w_ v_p ?_ | refine w_ v_cv ?_ | refine w_ v_and ?_ | refine w_ v_or ?_ | refine w_ v_f ?_ | refine w_ v_b ?_ | refine w_ v_r ?_ | refine w_ v_i ?_ | refine w_ v_a ?_ | refine w_ v_l ?_ | refine w_ v_la ?_ | refine w_ v_ls ?_ | refine w_ v_lr ?_ | refine w_ v_ln ?_ | refine w_ v_bd ?_ | refine w_ v_ba ?_ | refine w_ v_mf ?_ | refine e_ (f_st ?_) | refine e_ (f_al fun _ => ?_) | refine e_ (f_bx fun _ => ?_))
          exact r_again (k + 1) (by omega) (by omega) ⟨by rw [hwn]; exact congrArg (Value.int .i64) e2, rfl, trivial⟩ (List.nil_sublist _)
        · have h3' : ¬ ox wk k 23 = 0 := by simp only [beq_eq_false_iff_ne, ne_eq] at h3; omega
          rw [if_neg h3'] at hwn
          repeat (first | refine r_seq ?_ | refine r_nil ?_ | refine r_region ?_ | refine r_skip ?_ | refine r_block ?_ | refine r_inBlock ?_ | refine x_ ?_ | refine w_ v_p ?_ | refine w_ v_cv ?_ | refine w_ v_and ?_ | refine w_ v_or ?_ | refine w_ v_f ?_ | refine w_ v_b ?_ | refine w_ v_r ?_ | refine w_ v_i ?_ | refine w_ v_a ?_ | refine w_ v_l ?_ | refine w_ v_la ?_ | refine w_ v_ls ?_ | refine w_ v_lr ?_ | refine w_ v_ln ?_ | refine w_ v_bd ?_ | refine w_ v_ba ?_ | refine w_ v_mf ?_ | refine e_ (f_st ?_) | refine e_ (f_al fun _ => ?_) | refine e_ (f_bx fun _ => ?_))
          exact r_again (k + 1) (by omega) (by omega) ⟨by rw [hwn]; rfl, rfl, trivial⟩ (List.nil_sublist _)
    · simp only [decide_eq_false_iff_not] at h1
      have hk5 : k = 5 := by omega
      subst hk5
      repeat (first | refine r_seq ?_ | refine r_nil ?_ | refine r_region ?_ | refine r_skip ?_ | refine r_block ?_ | refine r_inBlock ?_ | refine x_ ?_ | refine w_ v_p ?_ | refine w_ v_cv ?_ | refine w_ v_and ?_ | refine w_ v_or ?_ | refine w_ v_f ?_ | refine w_ v_b ?_ | refine w_ v_r ?_ | refine w_ v_i ?_ | refine w_ v_a ?_ | refine w_ v_l ?_ | refine w_ v_la ?_ | refine w_ v_ls ?_ | refine w_ v_lr ?_ | refine w_ v_ln ?_ | refine w_ v_bd ?_ | refine w_ v_ba ?_ | refine w_ v_mf ?_ | refine e_ (f_st ?_) | refine e_ (f_al fun _ => ?_) | refine e_ (f_bx fun _ => ?_))
      refine e_ (f_c (fun w _ => ones_does wk w (by omega)) fun v L' h => ?_)
      obtain ⟨rfl, rfl⟩ := h
      repeat (first | refine r_seq ?_ | refine r_nil ?_ | refine r_region ?_ | refine r_skip ?_ | refine r_block ?_ | refine r_inBlock ?_ | refine x_ ?_ | refine w_ v_p ?_ | refine w_ v_cv ?_ | refine w_ v_and ?_ | refine w_ v_or ?_ | refine w_ v_f ?_ | refine w_ v_b ?_ | refine w_ v_r ?_ | refine w_ v_i ?_ | refine w_ v_a ?_ | refine w_ v_l ?_ | refine w_ v_la ?_ | refine w_ v_ls ?_ | refine w_ v_lr ?_ | refine w_ v_ln ?_ | refine w_ v_bd ?_ | refine w_ v_ba ?_ | refine w_ v_mf ?_ | refine e_ (f_st ?_) | refine e_ (f_al fun _ => ?_) | refine e_ (f_bx fun _ => ?_))
      refine c_ (fun h3 => ?_) (fun h3 => ?_)
      · have h3' : pop wk % 2 = 0 := by simp only [beq_iff_eq] at h3; omega
        have e : bw .or .i64 (wk : Int) 8388608 = ((wk ||| 8388608 : Nat) : Int) := bw_or wk 8388608 (by omega) (by decide)
        repeat (first | refine r_seq ?_ | refine r_nil ?_ | refine r_region ?_ | refine r_skip ?_ | refine r_block ?_ | refine r_inBlock ?_ | refine x_ ?_ | refine w_ v_p ?_ | refine w_ v_cv ?_ | refine w_ v_and ?_ | refine w_ v_or ?_ | refine w_ v_f ?_ | refine w_ v_b ?_ | refine w_ v_r ?_ | refine w_ v_i ?_ | refine w_ v_a ?_ | refine w_ v_l ?_ | refine w_ v_la ?_ | refine w_ v_ls ?_ | refine w_ v_lr ?_ | refine w_ v_ln ?_ | refine w_ v_bd ?_ | refine w_ v_ba ?_ | refine w_ v_mf ?_ | refine e_ (f_st ?_) | refine e_ (f_al fun _ => ?_) | refine e_ (f_bx fun _ => ?_))
        refine t_ rfl (.tmp rfl .nil) (List.nil_sublist _) ⟨?_, rfl⟩
        simp only [put24M, hwe, h3', if_true]
        exact congrArg (Value.int .i64) e
      · have h3' : ¬ pop wk % 2 = 0 := by simp only [beq_eq_false_iff_ne, ne_eq] at h3; omega
        repeat (first | refine r_seq ?_ | refine r_nil ?_ | refine r_region ?_ | refine r_skip ?_ | refine r_block ?_ | refine r_inBlock ?_ | refine x_ ?_ | refine w_ v_p ?_ | refine w_ v_cv ?_ | refine w_ v_and ?_ | refine w_ v_or ?_ | refine w_ v_f ?_ | refine w_ v_b ?_ | refine w_ v_r ?_ | refine w_ v_i ?_ | refine w_ v_a ?_ | refine w_ v_l ?_ | refine w_ v_la ?_ | refine w_ v_ls ?_ | refine w_ v_lr ?_ | refine w_ v_ln ?_ | refine w_ v_bd ?_ | refine w_ v_ba ?_ | refine w_ v_mf ?_ | refine e_ (f_st ?_) | refine e_ (f_al fun _ => ?_) | refine e_ (f_bx fun _ => ?_))
        refine t_ rfl (.tmp rfl .nil) (List.nil_sublist _) ⟨?_, rfl⟩
        simp only [put24M, hwe, h3', if_false]
        rfl
end Go.Proofs

namespace Go.Proofs
open Go.Cf
set_option maxRecDepth 10000

theorem b24_does (n : Nat) (w : World) (hn : n < 2 ^ 18) : Does Tryz.prog 139 [.int .i64 n] w [] (fun v L => v = .agg (bys (b24 (put24M n))).toArray ∧ L = []) := by
  refine does_of Tryz.func139 rfl rfl ?_
  repeat (first | refine e_ (f_al fun b0 => ?_) | refine r_seq ?_ | refine r_nil ?_ | refine r_region ?_ | refine r_skip ?_ | refine r_block ?_ | refine r_inBlock ?_ | refine x_ ?_ | refine w_ v_p ?_ | refine w_ v_cv ?_ | refine w_ v_and ?_ | refine w_ v_or ?_ | refine w_ v_f ?_ | refine w_ v_b ?_ | refine w_ v_r ?_ | refine w_ v_i ?_ | refine w_ v_a ?_ | refine w_ v_l ?_ | refine w_ v_la ?_ | refine w_ v_ls ?_ | refine w_ v_lr ?_ | refine w_ v_ln ?_ | refine w_ v_bd ?_ | refine w_ v_ba ?_ | refine w_ v_mf ?_ | refine e_ (f_st ?_) | refine e_ (f_al fun _ => ?_) | refine e_ (f_bx fun _ => ?_))
  refine e_ (f_c (fun w _ => put24_does n w hn) fun v L' h => ?_)
  obtain ⟨rfl, rfl⟩ := h
  generalize put24M n = m
  have s1 : (m : Int) / 2 ^ Int.toNat 8 = ((m / 256 : Nat) : Int) := shr_nat m 8
  have s2 : (m : Int) / 2 ^ Int.toNat 16 = ((m / 65536 : Nat) : Int) := shr_nat m 16
  repeat (first | refine w_ (v_cv (a := (m : Int)) (hc := wrap8 m)) ?_ | refine w_ (v_cv (hc := (congrArg IntKind.u8.wrap s1).trans (wrap8 (m / 256)))) ?_ | refine w_ (v_cv (hc := (congrArg IntKind.u8.wrap s2).trans (wrap8 (m / 65536)))) ?_ | refine r_seq ?_ | refine r_nil ?_ | refine r_region ?_ | refine r_skip ?_ | refine r_block ?_ | refine r_inBlock ?_ | refine x_ ?_ | refine w_ v_p ?_ | refine w_ v_cv ?_ | refine w_ v_and ?_ | refine w_ v_or ?_ | refine w_ v_f ?_ | refine w_ v_b ?_ | refine w_ v_r ?_ | refine w_ v_i ?_ | refine w_ v_a ?_ | refine w_ v_l ?_ | refine w_ v_la ?_ | refine w_ v_ls ?_ | refine w_ v_lr ?_ | refine w_ v_ln ?_ | refine w_ v_bd ?_ | refine w_ v_ba ?_ | refine w_ v_mf ?_ | refine e_ (f_st ?_) | refine e_ (f_al fun _ => ?_) | refine e_ (f_bx fun _ => ?_))
  refine t2 (List.nil_sublist _) ?_
  exact ⟨rfl, rfl⟩
end Go.Proofs

namespace Go.Proofs
open Go.Cf
set_option maxRecDepth 10000

theorem place_does (mag page sub : Int) (w : World) : Does Tryz.prog 27 [.int .i64 mag, .int .i64 page, .int .i64 sub] w [] (fun v L => v = .agg (plC (placeM mag page sub)).toArray ∧ L = []) := by
  refine does_of Tryz.func27 rfl rfl ?_
  have hp : (nums pagesL)[0 + (page % 8).toNat * 1]? = some (.int .i64 (pagesL.getD (page % 8).toNat 0 : Nat)) := by rw [Nat.zero_add]; exact pages_get (page % 8) (by omega)
  have hsu : (nums subsL)[0 + (sub % 4).toNat * 1]? = some (.int .i64 (subsL.getD (sub % 4).toNat 0 : Nat)) := by rw [Nat.zero_add]; exact subs_get (sub % 4) (by omega)
  repeat (first | refine e_ (f_al fun b6 => ?_) | refine r_seq ?_ | refine r_nil ?_ | refine r_region ?_ | refine r_skip ?_ | refine r_block ?_ | refine r_inBlock ?_ | refine x_ ?_ | refine w_ v_p ?_ | refine w_ v_cv ?_ | refine w_ v_and ?_ | refine w_ v_or ?_ | refine w_ v_f ?_ | refine w_ v_b ?_ | refine w_ v_r ?_ | refine w_ v_i ?_ | refine w_ v_a ?_ | refine w_ v_l ?_ | refine w_ v_la ?_ | refine w_ v_ls ?_ | refine w_ v_lr ?_ | refine w_ v_ln ?_ | refine w_ v_bd ?_ | refine w_ v_ba ?_ | refine w_ v_mf ?_ | refine e_ (f_st ?_) | refine e_ (f_al fun _ => ?_) | refine e_ (f_bx fun _ => ?_))
  refine e_ (f_bs (l := nums pagesL) fun b7 => ?_)
  repeat (first | refine r_seq ?_ | refine r_nil ?_ | refine r_region ?_ | refine r_skip ?_ | refine r_block ?_ | refine r_inBlock ?_ | refine x_ ?_ | refine w_ v_p ?_ | refine w_ v_cv ?_ | refine w_ v_and ?_ | refine w_ v_or ?_ | refine w_ v_f ?_ | refine w_ v_b ?_ | refine w_ v_r ?_ | refine w_ v_i ?_ | refine w_ v_a ?_ | refine w_ v_l ?_ | refine w_ v_la ?_ | refine w_ v_ls ?_ | refine w_ v_lr ?_ | refine w_ v_ln ?_ | refine w_ v_bd ?_ | refine w_ v_ba ?_ | refine w_ v_mf ?_ | refine e_ (f_st ?_) | refine e_ (f_al fun _ => ?_) | refine e_ (f_bx fun _ => ?_))
  refine d_in ([.cells b7 (nums pagesL) 3]) [] ?_
  first | (refine dp 0 ?_; first | refine tp (fun _ => v_p) ?_)
  first | (refine dp 3 ?_; first | refine tp (fun _ => v_p) ?_)
  first | (refine dp 4 ?_; first | refine tp (fun _ => v_p) ?_)
  first | (refine dp 9 ?_; first | refine tp (fun _ => v_p) ?_)
  refine d_e2 1 8 ?_ ?_
  · refine f_c (fun w _ => number_does mag 3 w (by omega) (by omega)) fun v L' h => ?_
    obtain ⟨rfl, rfl⟩ := h
    refine ⟨?_, ?_⟩
    · first | exact st_n | exact st_l rfl | exact st_s (by repeat (first | exact List.Sublist.refl _ | exact List.nil_sublist _ | exact List.sublist_append_right _ _ | apply List.Sublist.cons_cons | apply List.Sublist.cons))
    first | (refine dp 2 ?_; first | refine tp (fun _ => v_p) ?_ | refine tp (fun _ => v_nl) ?_ | refine tp (fun _ => v_nn) ?_ | refine tp (fun _ => v_bq) ?_)
    refine d_e2 5 8 ?_ ?_
    · refine f_c (fun w _ => number_does page 8 w (by omega) (by omega)) fun v L' h => ?_
      obtain ⟨rfl, rfl⟩ := h
      refine ⟨?_, ?_⟩
      · first | exact st_n | exact st_l rfl | exact st_s (by repeat (first | exact List.Sublist.refl _ | exact List.nil_sublist _ | exact List.sublist_append_right _ _ | apply List.Sublist.cons_cons | apply List.Sublist.cons))
      first | (refine dp 6 ?_; first | refine tp (fun _ => v_a) ?_ | refine tp (fun _ => v_i) ?_) | (refine dw 6 ?_; first | refine tw (v_b) ?_ | refine tw (v_r) ?_)
      first | (refine dw 7 ?_; first | refine tw (v_l (hv := hp)) ?_ | refine tw (v_l) ?_ | refine tw (v_la) ?_ | refine tw (v_ls) ?_ | refine tw (v_lr) ?_ | refine tw ((v_ge hG)) ?_)
      refine d_e2 8 10 ?_ ?_
      · refine f_bs (l := nums subsL) fun b8 => ?_
        refine ⟨?_, ?_⟩
        · first | exact st_n | exact st_l rfl | exact st_s (by repeat (first | exact List.Sublist.refl _ | exact List.nil_sublist _ | exact List.sublist_append_right _ _ | apply List.Sublist.cons_cons | apply List.Sublist.cons))
        refine d_e 10 ?_
        refine f_c (fun w _ => number_does sub 4 w (by omega) (by omega)) fun v L' h => ?_
        obtain ⟨rfl, rfl⟩ := h
        refine ⟨?_, ?_⟩
        · first | exact st_n | exact st_l rfl | exact st_s (by repeat (first | exact List.Sublist.refl _ | exact List.nil_sublist _ | exact List.sublist_append_right _ _ | apply List.Sublist.cons_cons | apply List.Sublist.cons))
        first | (refine dp 11 ?_; first | refine tp (fun _ => v_a) ?_ | refine tp (fun _ => v_i) ?_) | (refine dw 11 ?_; first | refine tw (v_b) ?_ | refine tw (v_r) ?_)
        refine d_e 12 ?_
        refine f_val (all := []) (v_l (hv := hsu)) ?_
        refine ⟨?_, ?_⟩
        · first | exact st_n | exact st_l rfl | exact st_s (by repeat (first | exact List.Sublist.refl _ | exact List.nil_sublist _ | exact List.sublist_append_right _ _ | apply List.Sublist.cons_cons | apply List.Sublist.cons))
        first | (refine dp 13 ?_; first | refine tp (fun _ => v_bd) ?_ | refine tp (fun _ => v_ba) ?_)
        refine d_e 14 ?_
        first | refine f_st ⟨?_, ?_⟩
        · first | exact st_n | exact st_l rfl | exact st_s (by repeat (first | exact List.Sublist.refl _ | exact List.nil_sublist _ | exact List.sublist_append_right _ _ | apply List.Sublist.cons_cons | apply List.Sublist.cons))
        refine d_z ?_
        refine t2 (List.nil_sublist _) ⟨?_, rfl⟩
        have hm : mag % 3 + 1 = (((mag % 3).toNat + 1 : Nat) : Int) := by omega
        rw [placeM, plC, ← hm]
        rfl
      · refine f_c (fun w _ => number_does sub 4 w (by omega) (by omega)) fun v L' h => ?_
        obtain ⟨rfl, rfl⟩ := h
        refine ⟨?_, ?_⟩
        · first | exact st_n | exact st_l rfl | exact st_s (by repeat (first | exact List.Sublist.refl _ | exact List.nil_sublist _ | exact List.sublist_append_right _ _ | apply List.Sublist.cons_cons | apply List.Sublist.cons))
        refine d_e 8 ?_
        refine f_bs (l := nums subsL) fun b8 => ?_
        refine ⟨?_, ?_⟩
        · first | exact st_n | exact st_l rfl | exact st_s (by repeat (first | exact List.Sublist.refl _ | exact List.nil_sublist _ | exact List.sublist_append_right _ _ | apply List.Sublist.cons_cons | apply List.Sublist.cons))
        first | (refine dp 11 ?_; first | refine tp (fun _ => v_a) ?_ | refine tp (fun _ => v_i) ?_) | (refine dw 11 ?_; first | refine tw (v_b) ?_ | refine tw (v_r) ?_)
        refine d_e 12 ?_
        refine f_val (all := []) (v_l (hv := hsu)) ?_
        refine ⟨?_, ?_⟩
        · first | exact st_n | exact st_l rfl | exact st_s (by repeat (first | exact List.Sublist.refl _ | exact List.nil_sublist _ | exact List.sublist_append_right _ _ | apply List.Sublist.cons_cons | apply List.Sublist.cons))
        first | (refine dp 13 ?_; first | refine tp (fun _ => v_bd) ?_ | refine tp (fun _ => v_ba) ?_)
        refine d_e 14 ?_
        first | refine f_st ⟨?_, ?_⟩
        · first | exact st_n | exact st_l rfl | exact st_s (by repeat (first | exact List.Sublist.refl _ | exact List.nil_sublist _ | exact List.sublist_append_right _ _ | apply List.Sublist.cons_cons | apply List.Sublist.cons))
        refine d_z ?_
        refine t2 (List.nil_sublist _) ⟨?_, rfl⟩
        have hm : mag % 3 + 1 = (((mag % 3).toNat + 1 : Nat) : Int) := by omega
        rw [placeM, plC, ← hm]
        rfl
    · refine f_bs (l := nums subsL) fun b8 => ?_
      refine ⟨?_, ?_⟩
      · first | exact st_n | exact st_l rfl | exact st_s (by repeat (first | exact List.Sublist.refl _ | exact List.nil_sublist _ | exact List.sublist_append_right _ _ | apply List.Sublist.cons_cons | apply List.Sublist.cons))
      refine d_e 5 ?_
      refine f_c (fun w _ => number_does page 8 w (by omega) (by omega)) fun v L' h => ?_
      obtain ⟨rfl, rfl⟩ := h
      refine ⟨?_, ?_⟩
      · first | exact st_n | exact st_l rfl | exact st_s (by repeat (first | exact List.Sublist.refl _ | exact List.nil_sublist _ | exact List.sublist_append_right _ _ | apply List.Sublist.cons_cons | apply List.Sublist.cons))
      first | (refine dp 6 ?_; first | refine tp (fun _ => v_a) ?_ | refine tp (fun _ => v_i) ?_) | (refine dw 6 ?_; first | refine tw (v_b) ?_ | refine tw (v_r) ?_)
      first | (refine dw 7 ?_; first | refine tw (v_l (hv := hp)) ?_ | refine tw (v_l) ?_ | refine tw (v_la) ?_ | refine tw (v_ls) ?_ | refine tw (v_lr) ?_ | refine tw ((v_ge hG)) ?_)
      refine d_e 10 ?_
      refine f_c (fun w _ => number_does sub 4 w (by omega) (by omega)) fun v L' h => ?_
      obtain ⟨rfl, rfl⟩ := h
      refine ⟨?_, ?_⟩
      · first | exact st_n | exact st_l rfl | exact st_s (by repeat (first | exact List.Sublist.refl _ | exact List.nil_sublist _ | exact List.sublist_append_right _ _ | apply List.Sublist.cons_cons | apply List.Sublist.cons))
      first | (refine dp 11 ?_; first | refine tp (fun _ => v_a) ?_ | refine tp (fun _ => v_i) ?_) | (refine dw 11 ?_; first | refine tw (v_b) ?_ | refine tw (v_r) ?_)
      refine d_e 12 ?_
      refine f_val (all := []) (v_l (hv := hsu)) ?_
      refine ⟨?_, ?_⟩
      · first | exact st_n | exact st_l rfl | exact st_s (by repeat (first | exact List.Sublist.refl _ | exact List.nil_sublist _ | exact List.sublist_append_right _ _ | apply List.Sublist.cons_cons | apply List.Sublist.cons))
      first | (refine dp 13 ?_; first | refine tp (fun _ => v_bd) ?_ | refine tp (fun _ => v_ba) ?_)
      refine d_e 14 ?_
      first | refine f_st ⟨?_, ?_⟩
      · first | exact st_n | exact st_l rfl | exact st_s (by repeat (first | exact List.Sublist.refl _ | exact List.nil_sublist _ | exact List.sublist_append_right _ _ | apply List.Sublist.cons_cons | apply List.Sublist.cons))
      refine d_z ?_
      refine t2 (List.nil_sublist _) ⟨?_, rfl⟩
      have hm : mag % 3 + 1 = (((mag % 3).toNat + 1 : Nat) : Int) := by omega
      rw [placeM, plC, ← hm]
      rfl
  · refine f_bs (l := nums subsL) fun b8 => ?_
    refine ⟨?_, ?_⟩
    · first | exact st_n | exact st_l rfl | exact st_s (by repeat (first | exact List.Sublist.refl _ | exact List.nil_sublist _ | exact List.sublist_append_right _ _ | apply List.Sublist.cons_cons | apply List.Sublist.cons))
    refine d_e 1 ?_
    refine f_c (fun w _ => number_does mag 3 w (by omega) (by omega)) fun v L' h => ?_
    obtain ⟨rfl, rfl⟩ := h
    refine ⟨?_, ?_⟩
    · first | exact st_n | exact st_l rfl | exact st_s (by repeat (first | exact List.Sublist.refl _ | exact List.nil_sublist _ | exact List.sublist_append_right _ _ | apply List.Sublist.cons_cons | apply List.Sublist.cons))
    first | (refine dp 2 ?_; first | refine tp (fun _ => v_p) ?_ | refine tp (fun _ => v_nl) ?_ | refine tp (fun _ => v_nn) ?_ | refine tp (fun _ => v_bq) ?_)
    refine d_e 5 ?_
    refine f_c (fun w _ => number_does page 8 w (by omega) (by omega)) fun v L' h => ?_
    obtain ⟨rfl, rfl⟩ := h
    refine ⟨?_, ?_⟩
    · first | exact st_n | exact st_l rfl | exact st_s (by repeat (first | exact List.Sublist.refl _ | exact List.nil_sublist _ | exact List.sublist_append_right _ _ | apply List.Sublist.cons_cons | apply List.Sublist.cons))
    first | (refine dp 6 ?_; first | refine tp (fun _ => v_a) ?_ | refine tp (fun _ => v_i) ?_) | (refine dw 6 ?_; first | refine tw (v_b) ?_ | refine tw (v_r) ?_)
    first | (refine dw 7 ?_; first | refine tw (v_l (hv := hp)) ?_ | refine tw (v_l) ?_ | refine tw (v_la) ?_ | refine tw (v_ls) ?_ | refine tw (v_lr) ?_ | refine tw ((v_ge hG)) ?_)
    refine d_e 10 ?_
    refine f_c (fun w _ => number_does sub 4 w (by omega) (by omega)) fun v L' h => ?_
    obtain ⟨rfl, rfl⟩ := h
    refine ⟨?_, ?_⟩
    · first | exact st_n | exact st_l rfl | exact st_s (by repeat (first | exact List.Sublist.refl _ | exact List.nil_sublist _ | exact List.sublist_append_right _ _ | apply List.Sublist.cons_cons | apply List.Sublist.cons))
    first | (refine dp 11 ?_; first | refine tp (fun _ => v_a) ?_ | refine tp (fun _ => v_i) ?_) | (refine dw 11 ?_; first | refine tw (v_b) ?_ | refine tw (v_r) ?_)
    refine d_e 12 ?_
    refine f_val (all := []) (v_l (hv := hsu)) ?_
    refine ⟨?_, ?_⟩
    · first | exact st_n | exact st_l rfl | exact st_s (by repeat (first | exact List.Sublist.refl _ | exact List.nil_sublist _ | exact List.sublist_append_right _ _ | apply List.Sublist.cons_cons | apply List.Sublist.cons))
    first | (refine dp 13 ?_; first | refine tp (fun _ => v_bd) ?_ | refine tp (fun _ => v_ba) ?_)
    refine d_e 14 ?_
    first | refine f_st ⟨?_, ?_⟩
    · first | exact st_n | exact st_l rfl | exact st_s (by repeat (first | exact List.Sublist.refl _ | exact List.nil_sublist _ | exact List.sublist_append_right _ _ | apply List.Sublist.cons_cons | apply List.Sublist.cons))
    refine d_z ?_
    refine t2 (List.nil_sublist _) ⟨?_, rfl⟩
    have hm : mag % 3 + 1 = (((mag % 3).toNat + 1 : Nat) : Int) := by omega
    rw [placeM, plC, ← hm]
    rfl
end Go.Proofs

namespace Go.Cf

def trsC (l : List Tr) : List Value := l.flatMap trC
theorem trsC_length (l : List Tr) : (trsC l).length = l.length * 3 := by
  induction l with
  | nil => rfl
  | cons t r ih => simp only [trsC, List.flatMap_cons, List.length_append] at ih ⊢; rw [ih]; simp only [List.length_cons, List.length_nil]; omega
theorem trsC_get {l : List Tr} {i : Nat} {t : Tr} (h : l[i]? = some t) (j : Nat) (v : Value) (hj : (trC t)[j]? = some v) : (trsC l)[i * 3 + j]? = some v := by
  induction l generalizing i with
  | nil => simp at h
  | cons u r ih =>
    cases i with
    | zero =>
      simp only [List.getElem?_cons_zero, Option.some.injEq] at h
      subst h
      have hlt : j < 3 := by
        have := (List.getElem?_eq_some_iff.1 hj).1
        simpa using this
      simp only [trsC, List.flatMap_cons, Nat.zero_mul, Nat.zero_add]
      rw [List.getElem?_append_left (by simpa using hlt)]; exact hj
    | succ i =>
      simp only [List.getElem?_cons_succ] at h
      have := ih h
      simp only [trsC, List.flatMap_cons] at this ⊢
      rw [List.getElem?_append_right (by simp; omega)]
      rw [show (i + 1) * 3 + j - (trC u).length = i * 3 + j from by simp; omega]
      exact this

/-- The bytes of triplets. -/
def trB (l : List Tr) : List UInt8 := l.flatMap fun t => b24 (put24M (trNum t))
theorem trB_length (l : List Tr) : (trB l).length = 3 * l.length := by
  induction l with
  | nil => rfl
  | cons t r ih => simp only [trB, List.flatMap_cons, List.length_append] at ih ⊢; rw [ih]; simp only [b24, List.length_cons, List.length_nil]; omega
theorem trB_snoc (l : List Tr) (t : Tr) : trB (l ++ [t]) = trB l ++ b24 (put24M (trNum t)) := by simp [trB]
def tripB (mag row code : Nat) (l : List Tr) : List UInt8 := packB mag row (hamPut code :: trB l)
theorem trNum_lt (t : Tr) : trNum t < 2 ^ 18 := by simp only [trNum]; omega
end Go.Cf

namespace Go.Proofs
open Go.Cf
set_option maxRecDepth 10000

theorem tripB_does (mag row code : Nat) (l : List Tr) (p : Option Addr) (c : Nat) (w : World) (hm : 1 ≤ mag ∧ mag ≤ 8) (hr : row = 26 ∨ row = 28 ∨ row = 29) (hc : code < 16) (hl : l.length = 13)
    (hb : ∀ t ∈ l, t.addr < 2 ^ 62 ∧ t.mode < 2 ^ 62 ∧ t.data < 2 ^ 62) (hs : Sl w [] p 13 3 (trsC l)) :
    Does Tryz.prog 67 [.int .i64 mag, .int .i64 row, .int .i64 code, .slice p 13 c] w [] (fun v L => ∃ q c', v = .tuple #[.slice q 42 c', .int .i64 0] ∧ L = [.row q 42 c' (bys (tripB mag row code l)) 5 1]) := by
  refine does_of Tryz.func67 rfl rfl ?_
  repeat (first | refine r_seq ?_ | refine r_nil ?_ | refine r_region ?_ | refine r_skip ?_ | refine r_block ?_ | refine r_inBlock ?_ | refine x_ ?_ | refine w_ v_p ?_ | refine w_ v_cv ?_ | refine w_ v_and ?_ | refine w_ v_or ?_ | refine w_ v_f ?_ | refine w_ v_b ?_ | refine w_ v_r ?_ | refine w_ v_i ?_ | refine w_ v_a ?_ | refine w_ v_l ?_ | refine w_ v_la ?_ | refine w_ v_ls ?_ | refine w_ v_lr ?_ | refine w_ v_ln ?_ | refine w_ v_bd ?_ | refine w_ v_ba ?_ | refine w_ v_mf ?_ | refine e_ (f_st ?_) | refine e_ (f_al fun _ => ?_) | refine e_ (f_bx fun _ => ?_))
  refine c_ (fun h => ?_) (fun _ => ?_)
  · exfalso
    simp only [Bool.or_eq_true, Bool.and_eq_true, decide_eq_true_eq, bne_iff_ne, ne_eq] at h
    omega
  repeat (first | refine r_seq ?_ | refine r_nil ?_ | refine r_region ?_ | refine r_skip ?_ | refine r_block ?_ | refine r_inBlock ?_ | refine x_ ?_ | refine w_ v_p ?_ | refine w_ v_cv ?_ | refine w_ v_and ?_ | refine w_ v_or ?_ | refine w_ v_f ?_ | refine w_ v_b ?_ | refine w_ v_r ?_ | refine w_ v_i ?_ | refine w_ v_a ?_ | refine w_ v_l ?_ | refine w_ v_la ?_ | refine w_ v_ls ?_ | refine w_ v_lr ?_ | refine w_ v_ln ?_ | refine w_ v_bd ?_ | refine w_ v_ba ?_ | refine w_ v_mf ?_ | refine e_ (f_st ?_) | refine e_ (f_al fun _ => ?_) | refine e_ (f_bx fun _ => ?_))
  refine c_ (t := false) (fun h => by cases h) (fun _ => ?_)
  repeat (first | refine r_seq ?_ | refine r_nil ?_ | refine r_region ?_ | refine r_skip ?_ | refine r_block ?_ | refine r_inBlock ?_ | refine x_ ?_ | refine w_ v_p ?_ | refine w_ v_cv ?_ | refine w_ v_and ?_ | refine w_ v_or ?_ | refine w_ v_f ?_ | refine w_ v_b ?_ | refine w_ v_r ?_ | refine w_ v_i ?_ | refine w_ v_a ?_ | refine w_ v_l ?_ | refine w_ v_la ?_ | refine w_ v_ls ?_ | refine w_ v_lr ?_ | refine w_ v_ln ?_ | refine w_ v_bd ?_ | refine w_ v_ba ?_ | refine w_ v_mf ?_ | refine e_ (f_st ?_) | refine e_ (f_al fun _ => ?_) | refine e_ (f_bx fun _ => ?_))
  refine e_ (f_c (fun w _ => put_does code w hc) fun v L' h => ?_)
  obtain ⟨rfl, rfl⟩ := h
  refine e_ (f_bs (l := bys [hamPut code]) fun b0 => ?_)
  refine r_cr 1 1 ?_
  repeat (first | refine r_seq ?_ | refine r_nil ?_ | refine r_region ?_ | refine r_skip ?_ | refine r_block ?_ | refine r_inBlock ?_ | refine x_ ?_ | refine w_ v_p ?_ | refine w_ v_cv ?_ | refine w_ v_and ?_ | refine w_ v_or ?_ | refine w_ v_f ?_ | refine w_ v_b ?_ | refine w_ v_r ?_ | refine w_ v_i ?_ | refine w_ v_a ?_ | refine w_ v_l ?_ | refine w_ v_la ?_ | refine w_ v_ls ?_ | refine w_ v_lr ?_ | refine w_ v_ln ?_ | refine w_ v_bd ?_ | refine w_ v_ba ?_ | refine w_ v_mf ?_ | refine e_ (f_st ?_) | refine e_ (f_al fun _ => ?_) | refine e_ (f_bx fun _ => ?_))
  refine r_loop (τ := Nat × Option Addr × Nat) (fun t => t.1 ≤ 13) (fun t => 13 - t.1)
    (fun t => [(0, .v (.int .i64 mag)), (1, .v (.int .i64 row)), (3, .v (.slice p 13 c)), (10, .v (.slice t.2.1 (1 + 3 * t.1) t.2.2)), (11, .v (.int .i64 t.1))])
    (fun t => [.row t.2.1 (1 + 3 * t.1) t.2.2 (bys (hamPut code :: trB (l.take t.1))) 5 1]) (0, some ⟨b0, 0, none⟩, 1) (by dsimp only; omega) ⟨rfl, rfl, rfl, rfl, rfl, trivial⟩ (List.Sublist.refl _) ?_
  rintro ⟨i, q, c'⟩ hi f
  dsimp only at hi
  repeat (first | refine r_seq ?_ | refine r_nil ?_ | refine r_region ?_ | refine r_skip ?_ | refine r_block ?_ | refine r_inBlock ?_ | refine x_ ?_ | refine w_ v_p ?_ | refine w_ v_cv ?_ | refine w_ v_and ?_ | refine w_ v_or ?_ | refine w_ v_f ?_ | refine w_ v_b ?_ | refine w_ v_r ?_ | refine w_ v_i ?_ | refine w_ v_a ?_ | refine w_ v_l ?_ | refine w_ v_la ?_ | refine w_ v_ls ?_ | refine w_ v_lr ?_ | refine w_ v_ln ?_ | refine w_ v_bd ?_ | refine w_ v_ba ?_ | refine w_ v_mf ?_ | refine e_ (f_st ?_) | refine e_ (f_al fun _ => ?_) | refine e_ (f_bx fun _ => ?_))
  refine c_ (fun h => ?_) (fun h => ?_)
  · simp only [decide_eq_true_eq] at h
    have ht : l[i]? = some l[i] := List.getElem?_eq_getElem (by omega)
    have hbt := hb l[i] (List.getElem_mem _)
    generalize l[i] = t at ht hbt
    have hrd : ∀ j v, (trC t)[j]? = some v → Rd w [] (pb p) (po p + ((i : Nat) : Int).toNat * 3 + j) v := fun j v hj => by
      have := hs.rd _ _ (trsC_get ht j v hj)
      rw [← Nat.add_assoc] at this
      exact this
    repeat (first | refine w_ (v_lba (l' := trC t) rfl hrd) ?_ | refine r_seq ?_ | refine r_nil ?_ | refine r_region ?_ | refine r_skip ?_ | refine r_block ?_ | refine r_inBlock ?_ | refine x_ ?_ | refine w_ v_p ?_ | refine w_ v_cv ?_ | refine w_ v_and ?_ | refine w_ v_or ?_ | refine w_ v_f ?_ | refine w_ v_b ?_ | refine w_ v_r ?_ | refine w_ v_i ?_ | refine w_ v_a ?_ | refine w_ v_l ?_ | refine w_ v_la ?_ | refine w_ v_ls ?_ | refine w_ v_lr ?_ | refine w_ v_ln ?_ | refine w_ v_bd ?_ | refine w_ v_ba ?_ | refine w_ v_mf ?_ | refine e_ (f_st ?_) | refine e_ (f_al fun _ => ?_) | refine e_ (f_bx fun _ => ?_))
    refine e_ (f_c (fun w _ => trNum_does t w hbt.1 hbt.2.1 hbt.2.2) fun v L' h => ?_)
    obtain ⟨rfl, rfl⟩ := h
    refine e_ (f_c (fun w _ => b24_does (trNum t) w (trNum_lt t)) fun v L' h => ?_)
    obtain ⟨rfl, rfl⟩ := h
    generalize hx : put24M (trNum t) = x
    repeat (first | refine e_ (f_al fun b12 => ?_) | refine r_seq ?_ | refine r_nil ?_ | refine r_region ?_ | refine r_skip ?_ | refine r_block ?_ | refine r_inBlock ?_ | refine x_ ?_ | refine w_ v_p ?_ | refine w_ v_cv ?_ | refine w_ v_and ?_ | refine w_ v_or ?_ | refine w_ v_f ?_ | refine w_ v_b ?_ | refine w_ v_r ?_ | refine w_ v_i ?_ | refine w_ v_a ?_ | refine w_ v_l ?_ | refine w_ v_la ?_ | refine w_ v_ls ?_ | refine w_ v_lr ?_ | refine w_ v_ln ?_ | refine w_ v_bd ?_ | refine w_ v_ba ?_ | refine w_ v_mf ?_ | refine e_ (f_st ?_) | refine e_ (f_al fun _ => ?_) | refine e_ (f_bx fun _ => ?_))
    refine e_ (f_bs (l := bys (b24 x)) fun b13 => ?_)
    refine e_ (f_a (fun w hw => sl_of_cells hw (.head _) rfl) (bys_plain _) fun q' c'' => ?_)
    repeat (first | refine r_seq ?_ | refine r_nil ?_ | refine r_region ?_ | refine r_skip ?_ | refine r_block ?_ | refine r_inBlock ?_ | refine x_ ?_ | refine w_ v_p ?_ | refine w_ v_cv ?_ | refine w_ v_and ?_ | refine w_ v_or ?_ | refine w_ v_f ?_ | refine w_ v_b ?_ | refine w_ v_r ?_ | refine w_ v_i ?_ | refine w_ v_a ?_ | refine w_ v_l ?_ | refine w_ v_la ?_ | refine w_ v_ls ?_ | refine w_ v_lr ?_ | refine w_ v_ln ?_ | refine w_ v_bd ?_ | refine w_ v_ba ?_ | refine w_ v_mf ?_ | refine e_ (f_st ?_) | refine e_ (f_al fun _ => ?_) | refine e_ (f_bx fun _ => ?_))
    refine r_again (i + 1, q', c'') (by dsimp only; omega) (by dsimp only; omega) ⟨rfl, rfl, rfl, rfl, rfl, trivial⟩ (.cons _ (.cons _ ?_))
    dsimp only
    rw [take_snoc ht, trB_snoc, hx, ← List.cons_append, bys_append]
    exact List.Sublist.refl _
  · simp only [decide_eq_false_iff_not] at h
    have hi2 : i = 13 := by omega
    subst hi2
    rw [List.take_of_length_le (by omega)]
    repeat (first | refine r_seq ?_ | refine r_nil ?_ | refine r_region ?_ | refine r_skip ?_ | refine r_block ?_ | refine r_inBlock ?_ | refine x_ ?_ | refine w_ v_p ?_ | refine w_ v_cv ?_ | refine w_ v_and ?_ | refine w_ v_or ?_ | refine w_ v_f ?_ | refine w_ v_b ?_ | refine w_ v_r ?_ | refine w_ v_i ?_ | refine w_ v_a ?_ | refine w_ v_l ?_ | refine w_ v_la ?_ | refine w_ v_ls ?_ | refine w_ v_lr ?_ | refine w_ v_ln ?_ | refine w_ v_bd ?_ | refine w_ v_ba ?_ | refine w_ v_mf ?_ | refine e_ (f_st ?_) | refine e_ (f_al fun _ => ?_) | refine e_ (f_bx fun _ => ?_))
    refine e_ (f_c (fun w hw => packed_does mag row (hamPut code :: trB l) q c' (1 + 3 * 13) w (by omega) (by omega) (by rw [List.length_cons, trB_length, hl]) (by omega) (sl_of_row hw (.head _))) fun v L' h => ?_)
    obtain ⟨q2, c2, rfl, rfl⟩ := h
    repeat (first | refine r_seq ?_ | refine r_nil ?_ | refine r_region ?_ | refine r_skip ?_ | refine r_block ?_ | refine r_inBlock ?_ | refine x_ ?_ | refine w_ v_p ?_ | refine w_ v_cv ?_ | refine w_ v_and ?_ | refine w_ v_or ?_ | refine w_ v_f ?_ | refine w_ v_b ?_ | refine w_ v_r ?_ | refine w_ v_i ?_ | refine w_ v_a ?_ | refine w_ v_l ?_ | refine w_ v_la ?_ | refine w_ v_ls ?_ | refine w_ v_lr ?_ | refine w_ v_ln ?_ | refine w_ v_bd ?_ | refine w_ v_ba ?_ | refine w_ v_mf ?_ | refine e_ (f_st ?_) | refine e_ (f_al fun _ => ?_) | refine e_ (f_bx fun _ => ?_))
    exact t_ rfl (.tmp rfl (.tmp rfl .nil)) (.cons_cons _ (List.nil_sublist _)) ⟨q2, c2, rfl, rfl⟩
end Go.Proofs

namespace Go.Cf

def plsC (l : List Pl) : List Value := l.flatMap plC
theorem plsC_length (l : List Pl) : (plsC l).length = l.length * 3 := by
  induction l with
  | nil => rfl
  | cons t r ih => simp only [plsC, List.flatMap_cons, List.length_append] at ih ⊢; rw [ih]; simp only [List.length_cons, List.length_nil]; omega
theorem plsC_get {l : List Pl} {i : Nat} {t : Pl} (h : l[i]? = some t) (j : Nat) (v : Value) (hj : (plC t)[j]? = some v) : (plsC l)[i * 3 + j]? = some v := by
  induction l generalizing i with
  | nil => simp at h
  | cons u r ih =>
    cases i with
    | zero =>
      simp only [List.getElem?_cons_zero, Option.some.injEq] at h
      subst h
      have hlt : j < 3 := by
        have := (List.getElem?_eq_some_iff.1 hj).1
        simpa using this
      simp only [plsC, List.flatMap_cons, Nat.zero_mul, Nat.zero_add]
      rw [List.getElem?_append_left (by simpa using hlt)]; exact hj
    | succ i =>
      simp only [List.getElem?_cons_succ] at h
      have := ih h
      simp only [plsC, List.flatMap_cons] at this ⊢
      rw [List.getElem?_append_right (by simp; omega)]
      rw [show (i + 1) * 3 + j - (plC u).length = i * 3 + j from by simp; omega]
      exact this

theorem sub_of {l l' : List Value} {off n : Nat} (hl : l'.length = n) (hle : off + n ≤ l.length) (h : ∀ j v, l'[j]? = some v → l[off + j]? = some v) : sub l off n = some l' := by
  rw [sb_def, if_pos hle]
  congr 1
  apply List.ext_getElem?
  intro j
  rw [List.getElem?_take, List.getElem?_drop]
  by_cases hj : j < n
  · rw [if_pos hj]
    have := h j l'[j] (List.getElem?_eq_getElem (by omega))
    rw [this, List.getElem?_eq_getElem (by omega)]
  · rw [if_neg hj, List.getElem?_eq_none (by omega)]

/-- The bytes of links. -/
def lnB (mag : Nat) (l : List Pl) : List UInt8 := l.flatMap fun p => hams (nib6 p.page p.sub (mag % 8 ^^^ p.mag % 8))
theorem lnB_snoc (mag : Nat) (l : List Pl) (t : Pl) : lnB mag (l ++ [t]) = lnB mag l ++ hams (nib6 t.page t.sub (mag % 8 ^^^ t.mag % 8)) := by simp [lnB]
theorem lnB_length (mag : Nat) (l : List Pl) : (lnB mag l).length = 6 * l.length := by
  induction l with
  | nil => rfl
  | cons t r ih => simp only [lnB, List.flatMap_cons, List.length_append] at ih ⊢; rw [ih]; simp only [hams, nib6, List.map_cons, List.map_nil, List.length_cons, List.length_nil]; omega
def linkB (mag code : Nat) (l : List Pl) (ctl : Nat) : List UInt8 := packB mag 27 ((hamPut code :: lnB mag l) ++ [hamPut ctl, 0, 0])
end Go.Cf

namespace Go.Proofs
open Go.Cf
set_option maxRecDepth 10000

theorem placed_does' {page sub bits : Nat} {z : Int} (hz : z = (bits : Int)) (w : World) (h1 : page < 256) (h2 : sub < 16384) (h3 : bits < 8) :
    Does Tryz.prog 136 [.int .i64 page, .int .i64 sub, .int .i64 z] w [] (fun v L => ∃ b, v = .slice (some ⟨b, 0, none⟩) 6 6 ∧ L = [.row (some ⟨b, 0, none⟩) 6 6 (bys (hams (nib6 page sub bits))) 5 1]) := by subst hz; exact placed_does page sub bits w h1 h2 h3

theorem linkB_does (mag code ctl : Nat) (l : List Pl) (w : World) (hm : 1 ≤ mag ∧ mag ≤ 8) (hc : code < 4) (hctl : ctl < 16) (hl : l.length = 6) (hb : ∀ t ∈ l, Right t) :
    Does Tryz.prog 68 [.int .i64 mag, .int .i64 code, .agg (plsC l).toArray, .int .i64 ctl] w [] (fun v L => ∃ q c', v = .tuple #[.slice q 42 c', .int .i64 0] ∧ L = [.row q 42 c' (bys (linkB mag code l ctl)) 5 1]) := by
  refine does_of Tryz.func68 rfl rfl ?_
  repeat (first | refine e_ (f_bx fun b6 => ?_) | refine r_seq ?_ | refine r_nil ?_ | refine r_region ?_ | refine r_skip ?_ | refine r_block ?_ | refine r_inBlock ?_ | refine x_ ?_ | refine w_ v_p ?_ | refine w_ v_cv ?_ | refine w_ v_and ?_ | refine w_ v_or ?_ | refine w_ v_f ?_ | refine w_ v_b ?_ | refine w_ v_r ?_ | refine w_ v_i ?_ | refine w_ v_a ?_ | refine w_ v_l ?_ | refine w_ v_la ?_ | refine w_ v_ls ?_ | refine w_ v_lr ?_ | refine w_ v_ln ?_ | refine w_ v_bd ?_ | refine w_ v_ba ?_ | refine w_ v_mf ?_ | refine e_ (f_st ?_) | refine e_ (f_al fun _ => ?_) | refine e_ (f_bx fun _ => ?_))
  refine c_ (fun h => ?_) (fun _ => ?_)
  · exfalso
    simp only [Bool.or_eq_true, decide_eq_true_eq] at h
    omega
  repeat (first | refine r_seq ?_ | refine r_nil ?_ | refine r_region ?_ | refine r_skip ?_ | refine r_block ?_ | refine r_inBlock ?_ | refine x_ ?_ | refine w_ v_p ?_ | refine w_ v_cv ?_ | refine w_ v_and ?_ | refine w_ v_or ?_ | refine w_ v_f ?_ | refine w_ v_b ?_ | refine w_ v_r ?_ | refine w_ v_i ?_ | refine w_ v_a ?_ | refine w_ v_l ?_ | refine w_ v_la ?_ | refine w_ v_ls ?_ | refine w_ v_lr ?_ | refine w_ v_ln ?_ | refine w_ v_bd ?_ | refine w_ v_ba ?_ | refine w_ v_mf ?_ | refine e_ (f_st ?_) | refine e_ (f_al fun _ => ?_) | refine e_ (f_bx fun _ => ?_))
  refine e_ (f_c (fun w _ => put_does code w (by omega)) fun v L' h => ?_)
  obtain ⟨rfl, rfl⟩ := h
  refine e_ (f_bs (l := bys [hamPut code]) fun b0 => ?_)
  refine r_cr 1 1 ?_
  repeat (first | refine r_seq ?_ | refine r_nil ?_ | refine r_region ?_ | refine r_skip ?_ | refine r_block ?_ | refine r_inBlock ?_ | refine x_ ?_ | refine w_ v_p ?_ | refine w_ v_cv ?_ | refine w_ v_and ?_ | refine w_ v_or ?_ | refine w_ v_f ?_ | refine w_ v_b ?_ | refine w_ v_r ?_ | refine w_ v_i ?_ | refine w_ v_a ?_ | refine w_ v_l ?_ | refine w_ v_la ?_ | refine w_ v_ls ?_ | refine w_ v_lr ?_ | refine w_ v_ln ?_ | refine w_ v_bd ?_ | refine w_ v_ba ?_ | refine w_ v_mf ?_ | refine e_ (f_st ?_) | refine e_ (f_al fun _ => ?_) | refine e_ (f_bx fun _ => ?_))
  refine r_loop (τ := Nat × Option Addr × Nat) (fun t => t.1 ≤ 6) (fun t => 6 - t.1)
    (fun t => [(0, .v (.int .i64 mag)), (3, .v (.int .i64 ctl)), (6, .v (.pointer (some ⟨b6, 0, none⟩))), (10, .v (.slice t.2.1 (1 + 6 * t.1) t.2.2)), (11, .v (.int .i64 t.1))])
    (fun t => [.row t.2.1 (1 + 6 * t.1) t.2.2 (bys (hamPut code :: lnB mag (l.take t.1))) 5 1, .cells b6 (plsC l) 53]) (0, some ⟨b0, 0, none⟩, 1) (by dsimp only; omega) ⟨rfl, rfl, rfl, rfl, rfl, trivial⟩ (List.Sublist.refl _) ?_
  rintro ⟨i, q, c'⟩ hi f
  dsimp only at hi
  repeat (first | refine r_seq ?_ | refine r_nil ?_ | refine r_region ?_ | refine r_skip ?_ | refine r_block ?_ | refine r_inBlock ?_ | refine x_ ?_ | refine w_ v_p ?_ | refine w_ v_cv ?_ | refine w_ v_and ?_ | refine w_ v_or ?_ | refine w_ v_f ?_ | refine w_ v_b ?_ | refine w_ v_r ?_ | refine w_ v_i ?_ | refine w_ v_a ?_ | refine w_ v_l ?_ | refine w_ v_la ?_ | refine w_ v_ls ?_ | refine w_ v_lr ?_ | refine w_ v_ln ?_ | refine w_ v_bd ?_ | refine w_ v_ba ?_ | refine w_ v_mf ?_ | refine e_ (f_st ?_) | refine e_ (f_al fun _ => ?_) | refine e_ (f_bx fun _ => ?_))
  refine c_ (fun h => ?_) (fun h => ?_)
  · simp only [decide_eq_true_eq] at h
    have ht : l[i]? = some l[i] := List.getElem?_eq_getElem (by omega)
    have hbt := hb l[i] (List.getElem_mem _)
    generalize l[i] = t at ht hbt
    have hg : ∀ j v, (plC t)[j]? = some v → (plsC l)[0 + ((i : Nat) : Int).toNat * 3 + j]? = some v := fun j v hj => by
      have := plsC_get ht j v hj
      rw [Nat.zero_add]; exact this
    have hg' : ∀ j v, (plC t)[j]? = some v → (plsC l)[((i : Nat) : Int).toNat * 3 + j]? = some v := fun j v hj => plsC_get ht j v hj
    have hsub : sub (plsC l) (0 + ((i : Nat) : Int).toNat * 3) 3 = some (plC t) := sub_of rfl (by rw [plsC_length, hl]; simp; omega) hg
    repeat (first | refine w_ (v_la (hv := hsub)) ?_ | refine r_seq ?_ | refine r_nil ?_ | refine r_region ?_ | refine r_skip ?_ | refine r_block ?_ | refine r_inBlock ?_ | refine x_ ?_ | refine w_ v_p ?_ | refine w_ v_cv ?_ | refine w_ v_and ?_ | refine w_ v_or ?_ | refine w_ v_f ?_ | refine w_ v_b ?_ | refine w_ v_r ?_ | refine w_ v_i ?_ | refine w_ v_a ?_ | refine w_ v_l ?_ | refine w_ v_la ?_ | refine w_ v_ls ?_ | refine w_ v_lr ?_ | refine w_ v_ln ?_ | refine w_ v_bd ?_ | refine w_ v_ba ?_ | refine w_ v_mf ?_ | refine e_ (f_st ?_) | refine e_ (f_al fun _ => ?_) | refine e_ (f_bx fun _ => ?_))
    refine e_ (f_c (fun w _ => right_does t w hbt) fun v L' h => ?_)
    obtain ⟨rfl, rfl⟩ := h
    obtain ⟨h1, h2, h3, h4, -⟩ := hbt
    repeat (first | refine r_seq ?_ | refine r_nil ?_ | refine r_region ?_ | refine r_skip ?_ | refine r_block ?_ | refine r_inBlock ?_ | refine x_ ?_ | refine w_ v_p ?_ | refine w_ v_cv ?_ | refine w_ v_and ?_ | refine w_ v_or ?_ | refine w_ v_f ?_ | refine w_ v_b ?_ | refine w_ v_r ?_ | refine w_ v_i ?_ | refine w_ v_a ?_ | refine w_ v_l ?_ | refine w_ v_la ?_ | refine w_ v_ls ?_ | refine w_ v_lr ?_ | refine w_ v_ln ?_ | refine w_ v_bd ?_ | refine w_ v_ba ?_ | refine w_ v_mf ?_ | refine e_ (f_st ?_) | refine e_ (f_al fun _ => ?_) | refine e_ (f_bx fun _ => ?_))
    refine c_ (t := false) (fun h => by cases h) (fun _ => ?_)
    refine r_skip ?_
    have hx := bw_xor (mag % 8) (t.mag % 8) (by omega) (by omega)
    have hx8 : mag % 8 ^^^ t.mag % 8 < 8 := xor_lt (k := 3) (by omega) (by omega)
    refine d_in ([.cells b6 (plsC l) 53]) [] ?_
    first | (refine dp 0 ?_; first | refine tp (fun _ => v_p) ?_)
    first | (refine dp 1 ?_; first | refine tp (fun _ => v_p) ?_)
    first | (refine dp 2 ?_; first | refine tp (fun _ => v_a) ?_ | refine tp (fun _ => v_i) ?_) | (refine dw 2 ?_; first | refine tw (v_b) ?_ | refine tw (v_r) ?_)
    first | (refine dp 3 ?_; first | refine tp (fun _ => v_f) ?_)
    first | (refine dw 4 ?_; first | refine tw (v_l (hv := hg 1 _ rfl)) ?_ | refine tw (v_l (hv := hg' 1 _ rfl)) ?_ | refine tw (v_l) ?_ | refine tw (v_la) ?_ | refine tw (v_ls) ?_ | refine tw (v_lr) ?_ | refine tw ((v_ge hG)) ?_)
    first | (refine dp 5 ?_; first | refine tp (fun _ => v_p) ?_)
    first | (refine dp 6 ?_; first | refine tp (fun _ => v_a) ?_ | refine tp (fun _ => v_i) ?_) | (refine dw 6 ?_; first | refine tw (v_b) ?_ | refine tw (v_r) ?_)
    first | (refine dp 7 ?_; first | refine tp (fun _ => v_f) ?_)
    first | (refine dw 8 ?_; first | refine tw (v_l (hv := hg 2 _ rfl)) ?_ | refine tw (v_l (hv := hg' 2 _ rfl)) ?_ | refine tw (v_l) ?_ | refine tw (v_la) ?_ | refine tw (v_ls) ?_ | refine tw (v_lr) ?_ | refine tw ((v_ge hG)) ?_)
    first | (refine dp 9 ?_; first | refine tp (fun _ => v_p) ?_)
    first | (refine dp 10 ?_; first | refine tp (fun _ => v_p) ?_ | refine tp (fun _ => v_nl) ?_ | refine tp (fun _ => v_nn) ?_ | refine tp (fun _ => v_bq) ?_)
    first | (refine dp 11 ?_; first | refine tp (fun _ => v_p) ?_)
    first | (refine dp 12 ?_; first | refine tp (fun _ => v_a) ?_ | refine tp (fun _ => v_i) ?_) | (refine dw 12 ?_; first | refine tw (v_b) ?_ | refine tw (v_r) ?_)
    first | (refine dp 13 ?_; first | refine tp (fun _ => v_f) ?_)
    first | (refine dw 14 ?_; first | refine tw (v_l (hv := hg 0 _ rfl)) ?_ | refine tw (v_l (hv := hg' 0 _ rfl)) ?_ | refine tw (v_l) ?_ | refine tw (v_la) ?_ | refine tw (v_ls) ?_ | refine tw (v_lr) ?_ | refine tw ((v_ge hG)) ?_)
    first | (refine dp 15 ?_; first | refine tp (fun _ => v_p) ?_ | refine tp (fun _ => v_nl) ?_ | refine tp (fun _ => v_nn) ?_ | refine tp (fun _ => v_bq) ?_)
    first | (refine dp 16 ?_; first | refine tp (fun _ => v_p) ?_ | refine tp (fun _ => v_nl) ?_ | refine tp (fun _ => v_nn) ?_ | refine tp (fun _ => v_bq) ?_)
    refine d_e 17 ?_
    refine f_c (fun w _ => placed_does' hx w h3 h4 hx8) fun v L' h => ?_
    obtain ⟨b8, rfl, rfl⟩ := h
    refine ⟨?_, ?_⟩
    · first | exact st_n | exact st_l rfl | exact st_s (by repeat (first | exact List.Sublist.refl _ | exact List.nil_sublist _ | exact List.sublist_append_right _ _ | apply List.Sublist.cons_cons | apply List.Sublist.cons))
    
    refine d_e 18 ?_
    refine f_a (fun w hw => sl_of_row hw (.head _)) (bys_plain _) fun q' c'' => ⟨?_, ?_⟩
    · first | exact st_n | exact st_l rfl | exact st_s (by repeat (first | exact List.Sublist.refl _ | exact List.nil_sublist _ | exact List.sublist_append_right _ _ | apply List.Sublist.cons_cons | apply List.Sublist.cons))
    first | (refine dp 19 ?_; first | refine tp (fun _ => v_p) ?_)
    refine d_z ?_
    repeat (first | refine r_seq ?_ | refine r_nil ?_ | refine r_region ?_ | refine r_skip ?_ | refine r_block ?_ | refine r_inBlock ?_ | refine x_ ?_ | refine w_ v_p ?_ | refine w_ v_cv ?_ | refine w_ v_and ?_ | refine w_ v_or ?_ | refine w_ v_f ?_ | refine w_ v_b ?_ | refine w_ v_r ?_ | refine w_ v_i ?_ | refine w_ v_a ?_ | refine w_ v_l ?_ | refine w_ v_la ?_ | refine w_ v_ls ?_ | refine w_ v_lr ?_ | refine w_ v_ln ?_ | refine w_ v_bd ?_ | refine w_ v_ba ?_ | refine w_ v_mf ?_ | refine e_ (f_st ?_) | refine e_ (f_al fun _ => ?_) | refine e_ (f_bx fun _ => ?_))
    refine r_again (i + 1, q', c'') (by dsimp only; omega) (by dsimp only; omega) ⟨rfl, rfl, rfl, rfl, rfl, trivial⟩ (.cons _ ?_)
    dsimp only
    rw [take_snoc ht, lnB_snoc, ← List.cons_append, bys_append]
    exact List.Sublist.refl _
  · simp only [decide_eq_false_iff_not] at h
    have hi2 : i = 6 := by omega
    subst hi2
    rw [List.take_of_length_le (by omega)]
    repeat (first | refine r_seq ?_ | refine r_nil ?_ | refine r_region ?_ | refine r_skip ?_ | refine r_block ?_ | refine r_inBlock ?_ | refine x_ ?_ | refine w_ v_p ?_ | refine w_ v_cv ?_ | refine w_ v_and ?_ | refine w_ v_or ?_ | refine w_ v_f ?_ | refine w_ v_b ?_ | refine w_ v_r ?_ | refine w_ v_i ?_ | refine w_ v_a ?_ | refine w_ v_l ?_ | refine w_ v_la ?_ | refine w_ v_ls ?_ | refine w_ v_lr ?_ | refine w_ v_ln ?_ | refine w_ v_bd ?_ | refine w_ v_ba ?_ | refine w_ v_mf ?_ | refine e_ (f_st ?_) | refine e_ (f_al fun _ => ?_) | refine e_ (f_bx fun _ => ?_))
    refine e_ (f_c (fun w _ => put_does ctl w hctl) fun v L' h => ?_)
    obtain ⟨rfl, rfl⟩ := h
    refine e_ (f_bs (l := bys [hamPut ctl, 0, 0]) fun b9 => ?_)
    refine e_ (f_a (fun w hw => sl_of_cells hw (.head _) rfl) (bys_plain _) fun q2 c2 => ?_)
    refine e_ (f_c (fun w hw => packed_does mag 27 ((hamPut code :: lnB mag l) ++ [hamPut ctl, 0, 0]) q2 c2 (1 + 6 * 6 + 3) w (by omega) (by omega) (by simp [lnB_length, hl]) (by omega) (by
      rw [bys_append]; exact sl_of_row hw (by repeat (first | exact List.Mem.head _ | apply List.Mem.tail)))) fun v L' h => ?_)
    obtain ⟨q3, c3, rfl, rfl⟩ := h
    repeat (first | refine r_seq ?_ | refine r_nil ?_ | refine r_region ?_ | refine r_skip ?_ | refine r_block ?_ | refine r_inBlock ?_ | refine x_ ?_ | refine w_ v_p ?_ | refine w_ v_cv ?_ | refine w_ v_and ?_ | refine w_ v_or ?_ | refine w_ v_f ?_ | refine w_ v_b ?_ | refine w_ v_r ?_ | refine w_ v_i ?_ | refine w_ v_a ?_ | refine w_ v_l ?_ | refine w_ v_la ?_ | refine w_ v_ls ?_ | refine w_ v_lr ?_ | refine w_ v_ln ?_ | refine w_ v_bd ?_ | refine w_ v_ba ?_ | refine w_ v_mf ?_ | refine e_ (f_st ?_) | refine e_ (f_al fun _ => ?_) | refine e_ (f_bx fun _ => ?_))
    exact t_ rfl (.tmp rfl (.tmp rfl .nil)) (.cons_cons _ (List.nil_sublist _)) ⟨q3, c3, rfl, rfl⟩
end Go.Proofs

namespace Go.Proofs
open Go.Cf
set_option maxRecDepth 10000

theorem bytes_does (l : List UInt8) (p : Option Addr) (c m : Nat) (w : World) (hm : l.length = m) (hl : m ≤ 1000) (hs : Sl w [] p m 1 (bys l)) :
    Does Tryz.prog 70 [.slice p m c] w [] (fun v L => ∃ q c', v = .slice q m c' ∧ L = [.row q m c' (bys l) 5 1]) := by
  refine does_of Tryz.func70 rfl rfl ?_
  repeat (first | refine r_seq ?_ | refine r_nil ?_ | refine r_region ?_ | refine r_skip ?_ | refine r_block ?_ | refine r_inBlock ?_ | refine x_ ?_ | refine w_ v_p ?_ | refine w_ v_cv ?_ | refine w_ v_and ?_ | refine w_ v_or ?_ | refine w_ v_f ?_ | refine w_ v_b ?_ | refine w_ v_r ?_ | refine w_ v_i ?_ | refine w_ v_a ?_ | refine w_ v_l ?_ | refine w_ v_la ?_ | refine w_ v_ls ?_ | refine w_ v_lr ?_ | refine w_ v_ln ?_ | refine w_ v_bd ?_ | refine w_ v_ba ?_ | refine w_ v_mf ?_ | refine e_ (f_st ?_) | refine e_ (f_al fun _ => ?_) | refine e_ (f_bx fun _ => ?_))
  refine e_ (f_m0 m fun b => ?_)
  repeat (first | refine r_seq ?_ | refine r_nil ?_ | refine r_region ?_ | refine r_skip ?_ | refine r_block ?_ | refine r_inBlock ?_ | refine x_ ?_ | refine w_ v_p ?_ | refine w_ v_cv ?_ | refine w_ v_and ?_ | refine w_ v_or ?_ | refine w_ v_f ?_ | refine w_ v_b ?_ | refine w_ v_r ?_ | refine w_ v_i ?_ | refine w_ v_a ?_ | refine w_ v_l ?_ | refine w_ v_la ?_ | refine w_ v_ls ?_ | refine w_ v_lr ?_ | refine w_ v_ln ?_ | refine w_ v_bd ?_ | refine w_ v_ba ?_ | refine w_ v_mf ?_ | refine e_ (f_st ?_) | refine e_ (f_al fun _ => ?_) | refine e_ (f_bx fun _ => ?_))
  refine r_loop (τ := Nat × Option Addr × Nat) (fun t => t.1 ≤ m) (fun t => m - t.1)
    (fun t => [(0, .v (.slice p m c)), (3, .v (.slice t.2.1 t.1 t.2.2)), (4, .v (.int .i64 t.1))])
    (fun t => [.row t.2.1 t.1 t.2.2 (bys (l.take t.1)) 5 1]) (0, some ⟨b, 0, none⟩, m) (by dsimp only; omega) ⟨rfl, rfl, rfl, trivial⟩ (List.Sublist.refl _) ?_
  rintro ⟨i, q, c'⟩ hi f
  dsimp only at hi
  repeat (first | refine r_seq ?_ | refine r_nil ?_ | refine r_region ?_ | refine r_skip ?_ | refine r_block ?_ | refine r_inBlock ?_ | refine x_ ?_ | refine w_ v_p ?_ | refine w_ v_cv ?_ | refine w_ v_and ?_ | refine w_ v_or ?_ | refine w_ v_f ?_ | refine w_ v_b ?_ | refine w_ v_r ?_ | refine w_ v_i ?_ | refine w_ v_a ?_ | refine w_ v_l ?_ | refine w_ v_la ?_ | refine w_ v_ls ?_ | refine w_ v_lr ?_ | refine w_ v_ln ?_ | refine w_ v_bd ?_ | refine w_ v_ba ?_ | refine w_ v_mf ?_ | refine e_ (f_st ?_) | refine e_ (f_al fun _ => ?_) | refine e_ (f_bx fun _ => ?_))
  refine c_ (fun h => ?_) (fun h => ?_)
  · simp only [decide_eq_true_eq] at h
    have ht : l[i]? = some l[i] := List.getElem?_eq_getElem (by omega)
    generalize l[i] = x at ht
    have hload : (bys l)[((i : Nat) : Int).toNat * 1]? = some (.int .u8 x.toNat) := by simpa using bys_get ht
    repeat (first | refine w_ (v_ls (hv := hload)) ?_ | refine r_seq ?_ | refine r_nil ?_ | refine r_region ?_ | refine r_skip ?_ | refine r_block ?_ | refine r_inBlock ?_ | refine x_ ?_ | refine w_ v_p ?_ | refine w_ v_cv ?_ | refine w_ v_and ?_ | refine w_ v_or ?_ | refine w_ v_f ?_ | refine w_ v_b ?_ | refine w_ v_r ?_ | refine w_ v_i ?_ | refine w_ v_a ?_ | refine w_ v_l ?_ | refine w_ v_la ?_ | refine w_ v_ls ?_ | refine w_ v_lr ?_ | refine w_ v_ln ?_ | refine w_ v_bd ?_ | refine w_ v_ba ?_ | refine w_ v_mf ?_ | refine e_ (f_st ?_) | refine e_ (f_al fun _ => ?_) | refine e_ (f_bx fun _ => ?_))
    refine e_ (f_bs (l := bys [x]) fun _ => ?_)
    refine e_ (f_a (fun w hw => sl_of_cells hw (.head _) rfl) (bys_plain _) fun q' c'' => ?_)
    repeat (first | refine r_seq ?_ | refine r_nil ?_ | refine r_region ?_ | refine r_skip ?_ | refine r_block ?_ | refine r_inBlock ?_ | refine x_ ?_ | refine w_ v_p ?_ | refine w_ v_cv ?_ | refine w_ v_and ?_ | refine w_ v_or ?_ | refine w_ v_f ?_ | refine w_ v_b ?_ | refine w_ v_r ?_ | refine w_ v_i ?_ | refine w_ v_a ?_ | refine w_ v_l ?_ | refine w_ v_la ?_ | refine w_ v_ls ?_ | refine w_ v_lr ?_ | refine w_ v_ln ?_ | refine w_ v_bd ?_ | refine w_ v_ba ?_ | refine w_ v_mf ?_ | refine e_ (f_st ?_) | refine e_ (f_al fun _ => ?_) | refine e_ (f_bx fun _ => ?_))
    refine r_again (i + 1, q', c'') (by dsimp only; omega) (by dsimp only; omega) ⟨rfl, rfl, rfl, trivial⟩ (.cons _ ?_)
    dsimp only
    rw [take_snoc ht, bys_append]
    exact List.Sublist.refl _
  · simp only [decide_eq_false_iff_not] at h
    have hi2 : i = m := by omega
    subst hi2
    rw [List.take_of_length_le (by omega)]
    repeat (first | refine r_seq ?_ | refine r_nil ?_ | refine r_region ?_ | refine r_skip ?_ | refine r_block ?_ | refine r_inBlock ?_ | refine x_ ?_ | refine w_ v_p ?_ | refine w_ v_cv ?_ | refine w_ v_and ?_ | refine w_ v_or ?_ | refine w_ v_f ?_ | refine w_ v_b ?_ | refine w_ v_r ?_ | refine w_ v_i ?_ | refine w_ v_a ?_ | refine w_ v_l ?_ | refine w_ v_la ?_ | refine w_ v_ls ?_ | refine w_ v_lr ?_ | refine w_ v_ln ?_ | refine w_ v_bd ?_ | refine w_ v_ba ?_ | refine w_ v_mf ?_ | refine e_ (f_st ?_) | refine e_ (f_al fun _ => ?_) | refine e_ (f_bx fun _ => ?_))
    exact t_ rfl (.tmp rfl .nil) (List.Sublist.refl _) ⟨q, c', rfl, rfl⟩
end Go.Proofs

namespace Go.Proofs
open Go.Cf
set_option maxRecDepth 10000

def twoB (n : Nat) : UInt8 := UInt8.ofNat ((n / 10 % 10 + 1) * 16 + n % 10 + 1)

theorem two_does (n : Nat) (w : World) (hn : n < 2 ^ 32) : Does Tryz.prog 142 [.int .i64 n] w [] (fun v L => v = .int .u8 (twoB n).toNat ∧ L = []) := by
  refine does_of Tryz.func142 rfl rfl ?_
  have e : bw .or .i64 (shl .i64 ((n : Int) / 10 % 10 + 1) 4) ((n : Int) % 10) = (((n / 10 % 10 + 1) * 16 + n % 10 : Nat) : Int) := by
    have h1 : (n : Int) / 10 % 10 + 1 = ((n / 10 % 10 + 1 : Nat) : Int) := by omega
    have h2 : shl .i64 ((n / 10 % 10 + 1 : Nat) : Int) 4 = (((n / 10 % 10 + 1) * 2 ^ 4 : Nat) : Int) := shl_nat (n / 10 % 10 + 1) 4 (by omega) (by omega)
    have h3 : (n : Int) % 10 = ((n % 10 : Nat) : Int) := by omega
    rw [h1, h2, h3, bw_or _ _ (by omega) (by omega), Nat.or_comm, or_add (n % 10) (n / 10 % 10 + 1) 4 (by omega)]
    omega
  have hlt := (twoB n).toNat_lt
  have hv : (twoB n).toNat = (n / 10 % 10 + 1) * 16 + n % 10 + 1 := by rw [twoB, UInt8.toNat_ofNat']; omega
  repeat (first | refine r_seq ?_ | refine r_nil ?_ | refine r_region ?_ | refine r_skip ?_ | refine r_block ?_ | refine r_inBlock ?_ | refine x_ ?_ | refine w_ v_p ?_ | refine w_ v_cv ?_ | refine w_ v_and ?_ | refine w_ v_or ?_ | refine w_ v_f ?_ | refine w_ v_b ?_ | refine w_ v_r ?_ | refine w_ v_i ?_ | refine w_ v_a ?_ | refine w_ v_l ?_ | refine w_ v_la ?_ | refine w_ v_ls ?_ | refine w_ v_lr ?_ | refine w_ v_ln ?_ | refine w_ v_bd ?_ | refine w_ v_ba ?_ | refine w_ v_mf ?_ | refine e_ (f_st ?_) | refine e_ (f_al fun _ => ?_) | refine e_ (f_bx fun _ => ?_))
  refine t_ rfl (.tmp rfl .nil) (List.nil_sublist _) ⟨congrArg (Value.int .u8) ?_, rfl⟩
  show bw .or .i64 (shl .i64 ((n : Int) / 10 % 10 + 1) 4) ((n : Int) % 10) + 1 = _
  omega
end Go.Proofs

namespace Go.Proofs
open Go.Cf
set_option maxRecDepth 10000

def turnN (b : Nat) : Nat → Nat
  | 0 => 0
  | i + 1 => turnN b i ||| (b / 2 ^ i % 2) * 2 ^ (7 - i)
def turnB (b : UInt8) : UInt8 := UInt8.ofNat (turnN b.toNat 8)
theorem turnN_lt (b : Nat) : ∀ i, turnN b i < 256
  | 0 => by show 0 < 256; omega
  | i + 1 => by
    have h1 := turnN_lt b i
    have h2 : b / 2 ^ i % 2 ≤ 1 := by have : b / 2 ^ i % 2 < 2 := Nat.mod_lt _ (by decide); omega
    have h3 : 2 ^ (7 - i) ≤ 2 ^ 7 := Nat.pow_le_pow_right (by omega) (by omega)
    have h4 : (b / 2 ^ i % 2) * 2 ^ (7 - i) ≤ 1 * 2 ^ (7 - i) := Nat.mul_le_mul_right _ h2
    exact or_lt (k := 8) (by omega) (by omega)

theorem bw_or8n (a b : Nat) (ha : a < 256) (hb : b < 256) : bw .or .u8 (a : Int) (b : Int) = ((a ||| b : Nat) : Int) := by
  unfold bw
  have h : ((BitVec.ofInt IntKind.u8.bits (a : Int)) ||| (BitVec.ofInt IntKind.u8.bits (b : Int))).toNat = a ||| b := by
    rw [BitVec.toNat_or, bvi _ a (by show a < 2 ^ 8; omega), bvi _ b (by show b < 2 ^ 8; omega)]
  simp only [h]
  have := or_lt (a := a) (b := b) (k := 8) (by omega) (by omega)
  exact wrap_u8 (by omega)
theorem bw_and8n (a : Nat) (ha : a < 256) : bw .and .u8 (a : Int) 1 = ((a % 2 : Nat) : Int) := by
  unfold bw
  have h : ((BitVec.ofInt IntKind.u8.bits (a : Int)) &&& (BitVec.ofInt IntKind.u8.bits 1)).toNat = a % 2 := by
    rw [BitVec.toNat_and, bvi _ a (by show a < 2 ^ 8; omega)]
    exact Nat.and_one_is_mod a
  simp only [h]
  exact wrap_u8 (by omega)
theorem shl8n (a k : Nat) (hk : k ≤ 8) (h : a * 2 ^ k < 256) : shl .u8 (a : Int) (k : Int) = ((a * 2 ^ k : Nat) : Int) := by
  unfold shl
  have h1 : min ((k : Int)).toNat IntKind.u8.bits = k := by show min ((k : Int)).toNat 8 = k; omega
  rw [h1]
  have h2 : ((a : Int) * 2 ^ k) = ((a * 2 ^ k : Nat) : Int) := by simp
  rw [h2]
  exact wrap_u8 (by omega)

theorem turn_does (b : UInt8) (w : World) : Does Tryz.prog 141 [.int .u8 b.toNat] w [] (fun v L => v = .int .u8 (turnB b).toNat ∧ L = []) := by
  refine does_of Tryz.func141 rfl rfl ?_
  have hb := b.toNat_lt
  repeat (first | refine r_seq ?_ | refine r_nil ?_ | refine r_region ?_ | refine r_skip ?_ | refine r_block ?_ | refine r_inBlock ?_ | refine x_ ?_ | refine w_ v_p ?_ | refine w_ v_cv ?_ | refine w_ v_and ?_ | refine w_ v_or ?_ | refine w_ v_f ?_ | refine w_ v_b ?_ | refine w_ v_r ?_ | refine w_ v_i ?_ | refine w_ v_a ?_ | refine w_ v_l ?_ | refine w_ v_la ?_ | refine w_ v_ls ?_ | refine w_ v_lr ?_ | refine w_ v_ln ?_ | refine w_ v_bd ?_ | refine w_ v_ba ?_ | refine w_ v_mf ?_ | refine e_ (f_st ?_) | refine e_ (f_al fun _ => ?_) | refine e_ (f_bx fun _ => ?_))
  refine r_loop (τ := Nat) (fun i => i ≤ 8) (fun i => 8 - i) (fun i => [(0, .v (.int .u8 b.toNat)), (3, .v (.int .u8 (turnN b.toNat i))), (4, .v (.int .i64 i))]) (fun _ => []) 0 (by omega) ⟨rfl, rfl, rfl, trivial⟩ (List.Sublist.refl _) ?_
  rintro i hi f
  repeat (first | refine r_seq ?_ | refine r_nil ?_ | refine r_region ?_ | refine r_skip ?_ | refine r_block ?_ | refine r_inBlock ?_ | refine x_ ?_ | refine w_ v_p ?_ | refine w_ v_cv ?_ | refine w_ v_and ?_ | refine w_ v_or ?_ | refine w_ v_f ?_ | refine w_ v_b ?_ | refine w_ v_r ?_ | refine w_ v_i ?_ | refine w_ v_a ?_ | refine w_ v_l ?_ | refine w_ v_la ?_ | refine w_ v_ls ?_ | refine w_ v_lr ?_ | refine w_ v_ln ?_ | refine w_ v_bd ?_ | refine w_ v_ba ?_ | refine w_ v_mf ?_ | refine e_ (f_st ?_) | refine e_ (f_al fun _ => ?_) | refine e_ (f_bx fun _ => ?_))
  refine c_ (fun h => ?_) (fun h => ?_)
  · simp only [decide_eq_true_eq] at h
    have ht := turnN_lt b.toNat i
    have hdv : b.toNat / 2 ^ i ≤ b.toNat := Nat.div_le_self _ _
    have hm2 : b.toNat / 2 ^ i % 2 ≤ 1 := by have : b.toNat / 2 ^ i % 2 < 2 := Nat.mod_lt _ (by decide); omega
    have hpw : 2 ^ (7 - i) ≤ 2 ^ 7 := Nat.pow_le_pow_right (by omega) (by omega)
    have hmul : (b.toNat / 2 ^ i % 2) * 2 ^ (7 - i) ≤ 1 * 2 ^ (7 - i) := Nat.mul_le_mul_right _ hm2
    have s1 : (b.toNat : Int) / 2 ^ ((i : Nat) : Int).toNat = ((b.toNat / 2 ^ i : Nat) : Int) := by simp
    have a1 := bw_and8n (b.toNat / 2 ^ i) (by omega)
    have h7 : (7 : Int) - (i : Int) = ((7 - i : Nat) : Int) := by omega
    have l1 := shl8n (b.toNat / 2 ^ i % 2) (7 - i) (by omega) (by omega)
    have e : bw .or .u8 (turnN b.toNat i : Int) (((b.toNat / 2 ^ i % 2) * 2 ^ (7 - i) : Nat) : Int) = ((turnN b.toNat (i + 1) : Nat) : Int) := bw_or8n _ _ ht (by omega)
    rw [← l1, ← a1, ← s1, ← h7] at e
    repeat (first | refine w_ (v_cv (hc := wrap_u64 (by omega))) ?_ | refine r_seq ?_ | refine r_nil ?_ | refine r_region ?_ | refine r_skip ?_ | refine r_block ?_ | refine r_inBlock ?_ | refine x_ ?_ | refine w_ v_p ?_ | refine w_ v_cv ?_ | refine w_ v_and ?_ | refine w_ v_or ?_ | refine w_ v_f ?_ | refine w_ v_b ?_ | refine w_ v_r ?_ | refine w_ v_i ?_ | refine w_ v_a ?_ | refine w_ v_l ?_ | refine w_ v_la ?_ | refine w_ v_ls ?_ | refine w_ v_lr ?_ | refine w_ v_ln ?_ | refine w_ v_bd ?_ | refine w_ v_ba ?_ | refine w_ v_mf ?_ | refine e_ (f_st ?_) | refine e_ (f_al fun _ => ?_) | refine e_ (f_bx fun _ => ?_))
    exact r_again (i + 1) (by omega) (by omega) ⟨rfl, congrArg (Value.int .u8) e, rfl, trivial⟩ (List.nil_sublist _)
  · simp only [decide_eq_false_iff_not] at h
    have hi2 : i = 8 := by omega
    subst hi2
    have hlt := turnN_lt b.toNat 8
    have hv : (turnB b).toNat = turnN b.toNat 8 := by rw [turnB, UInt8.toNat_ofNat']; omega
    repeat (first | refine r_seq ?_ | refine r_nil ?_ | refine r_region ?_ | refine r_skip ?_ | refine r_block ?_ | refine r_inBlock ?_ | refine x_ ?_ | refine w_ v_p ?_ | refine w_ v_cv ?_ | refine w_ v_and ?_ | refine w_ v_or ?_ | refine w_ v_f ?_ | refine w_ v_b ?_ | refine w_ v_r ?_ | refine w_ v_i ?_ | refine w_ v_a ?_ | refine w_ v_l ?_ | refine w_ v_la ?_ | refine w_ v_ls ?_ | refine w_ v_lr ?_ | refine w_ v_ln ?_ | refine w_ v_bd ?_ | refine w_ v_ba ?_ | refine w_ v_mf ?_ | refine e_ (f_st ?_) | refine e_ (f_al fun _ => ?_) | refine e_ (f_bx fun _ => ?_))
    exact t_ rfl (.tmp rfl .nil) (List.nil_sublist _) ⟨by rw [hv]; rfl, rfl⟩
end Go.Proofs

