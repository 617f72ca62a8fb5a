/-
  Contracts: the machine of pages, in parts; its plain model.
-/
import Derived.Test.YtdjgkbphbffleaaGreatDoorA11
namespace Go.Cf
set_option maxRecDepth 20000

section
variable {P : Program} {n : Nat} {f : Nat → Value} {σ : Bd} {w0 : World} {F : List Nat} {L : Hp} {s : St} {o : Oper} {dst : Option Tmp} {ty : TypeId} {pos : String} {after : Array Edge} {guard : Option (Nat × Bool)} {K K1 : Bd → St → Prop}
theorem Ef.re (h : Ef P n f σ s o K1) (hk : ∀ σ' s', K1 σ' s' → ∃ s'', K σ' s'' ∧ ∀ w, s'.holds w → s''.holds w) : Ef P n f σ s o K :=
  ⟨h.hg, fun Q a w hrep hs N hN => h.hw Q a w hrep hs N fun σ' s' a' w' hk1 hr hs' => by
    obtain ⟨s'', h1, h2⟩ := hk σ' s' hk1
    exact hN σ' s'' a' w' h1 hr (h2 w' hs')⟩
/-- A call; what it makes is noted behind what was known. -/
theorem f_ce {g : Nat} [Ent P g] {xs : List Operand} {ats : Array TypeId} {d : Nat} {Φ : Value → Hp → Prop} {vs : List Value}
    (hc : ∀ w, (St.mk w0 F L).holds w → Does P g vs w [] Φ) (h : ∀ v L', Φ v L' → K ((d, .v v) :: σ) ⟨w0, F, L ++ L'⟩)
    (hvs : evl f σ xs = vs := by exact rfl) (hcc : cndl f σ xs = true := by exact rfl) (hd : dst = some d := by exact rfl) (hn : Nat.ble (d + 1) n = true := by exact rfl) (hg : guard = none := by exact rfl) :
    Ef P n f σ ⟨w0, F, L⟩ ⟨dst, .call { callee := .value (.func g), args := xs.toArray, argTypes := ats }, ty, pos, after, guard⟩ K :=
  Ef.re (K1 := fun σ' s' => ∃ L', s' = ⟨w0, F, L' ++ L⟩ ∧ K σ' ⟨w0, F, L ++ L'⟩) (f_c hc (fun v L' hΦ => ⟨L', rfl, h v L' hΦ⟩) hvs hcc hd hn hg)
    (fun σ' s' ⟨L', h1, h2⟩ => ⟨_, h2, fun w hw => by subst h1; exact hw.perm List.perm_append_comm⟩)
/-- The same where the call changes blocks. -/
theorem f_cme {g : Nat} [Ent P g] {xs : List Operand} {ats : Array TypeId} {d : Nat} {F' : List Nat} (C R : Hp) {Φ : Value → Hp → Prop} {vs : List Value} (hC : L.Perm (C ++ R)) (hF : ∀ b, b ∈ F' → b ∈ C.filterMap En.blk)
    (hc : ∀ w, (St.mk w0 F L).holds w → Does P g vs w F' Φ) (h : ∀ v L', Φ v L' → K ((d, .v v) :: σ) ⟨w0, F, R ++ L'⟩)
    (hvs : evl f σ xs = vs := by exact rfl) (hcc : cndl f σ xs = true := by exact rfl) (hd : dst = some d := by exact rfl) (hn : Nat.ble (d + 1) n = true := by exact rfl) (hg : guard = none := by exact rfl) :
    Ef P n f σ ⟨w0, F, L⟩ ⟨dst, .call { callee := .value (.func g), args := xs.toArray, argTypes := ats }, ty, pos, after, guard⟩ K :=
  Ef.re (K1 := fun σ' s' => ∃ L', s' = ⟨w0, F, L' ++ R⟩ ∧ K σ' ⟨w0, F, R ++ L'⟩) (f_cM C R hC hF hc (fun v L' hΦ => ⟨L', rfl, h v L' hΦ⟩) hvs hcc hd hn hg)
    (fun σ' s' ⟨L', h1, h2⟩ => ⟨_, h2, fun w hw => by subst h1; exact hw.perm List.perm_append_comm⟩)
/-- What is known, in two parts. -/
inductive Spl : Hp → Hp → Hp → Prop where
  | nil {L : Hp} : Spl L [] L
  | cons {L L1 C R : Hp} {e : En} (h : Rem L e L1) (t : Spl L1 C R) : Spl L (e :: C) R
theorem Spl.perm {L C R : Hp} (h : Spl L C R) : L.Perm (C ++ R) := by
  induction h with
  | nil => exact List.Perm.refl _
  | cons h _ ih => exact h.perm.trans (List.Perm.cons _ ih)
/-- A call that changes the blocks of C; what it leaves is noted behind the rest. -/
theorem f_cs {g : Nat} [Ent P g] {xs : List Operand} {ats : Array TypeId} {d : Nat} {F' : List Nat} (C : Hp) {R : Hp} {Φ : Value → Hp → Prop} {vs : List Value} (hF : ∀ b, b ∈ F' → b ∈ C.filterMap En.blk)
    (hc : ∀ w, (St.mk w0 F L).holds w → Does P g vs w F' Φ) (h : ∀ v L', Φ v L' → K ((d, .v v) :: σ) ⟨w0, F, R ++ L'⟩)
    (hC : Spl L C R := by repeat (first | exact Spl.nil | exact Rem.head | apply Rem.tail | apply Spl.cons))
    (hvs : evl f σ xs = vs := by exact rfl) (hcc : cndl f σ xs = true := by exact rfl) (hd : dst = some d := by exact rfl) (hn : Nat.ble (d + 1) n = true := by exact rfl) (hg : guard = none := by exact rfl) :
    Ef P n f σ ⟨w0, F, L⟩ ⟨dst, .call { callee := .value (.func g), args := xs.toArray, argTypes := ats }, ty, pos, after, guard⟩ K :=
  f_cme C R hC.perm hF hc h hvs hcc hd hn hg
end

/-! ### Blocks in a row -/

def flatN (n : Nat) (f : Nat → List Value) : List Value := (List.range n).flatMap f
theorem flatN_succ (n : Nat) (f : Nat → List Value) : flatN (n + 1) f = flatN n f ++ f n := by simp [flatN, List.range_succ]
theorem flatN_length {N : Nat} {f : Nat → List Value} (n : Nat) (h : ∀ i, i < n → (f i).length = N) : (flatN n f).length = n * N := by
  induction n with
  | zero => simp [flatN]
  | succ n ih => rw [flatN_succ, List.length_append, ih (fun i hi => h i (by omega)), h n (by omega), Nat.succ_mul]
theorem flatN_congr {n : Nat} {f g : Nat → List Value} (h : ∀ i, i < n → f i = g i) : flatN n f = flatN n g := by
  induction n with
  | zero => rfl
  | succ n ih => rw [flatN_succ, flatN_succ, ih (fun i hi => h i (by omega)), h n (by omega)]
theorem mul_le_of {i n N j m : Nat} (hi : i < n) (hj : j + m ≤ N) : i * N + j + m ≤ n * N := by
  have : (i + 1) * N ≤ n * N := Nat.mul_le_mul_right _ hi
  rw [Nat.succ_mul] at this; omega
theorem flatN_get {N n i j : Nat} {f : Nat → List Value} (h : ∀ i, i < n → (f i).length = N) (hi : i < n) (hj : j < N) : (flatN n f)[i * N + j]? = (f i)[j]? := by
  induction n with
  | zero => omega
  | succ n ih =>
    have hl := flatN_length (f := f) n (fun i hi => h i (by omega))
    rw [flatN_succ]
    rcases Nat.lt_or_ge i n with h1 | h1
    · rw [get_l (by rw [hl]; have := mul_le_of (m := 1) h1 (show j + 1 ≤ N by omega); omega), ih (fun i hi => h i (by omega)) h1]
    · have : i = n := by omega
      subst this
      rw [get_r (by rw [hl]; omega), hl, show i * N + j - i * N = j from by omega]
theorem flatN_sub {N n i j m : Nat} {f : Nat → List Value} (h : ∀ i, i < n → (f i).length = N) (hi : i < n) (hj : j + m ≤ N) : sub (flatN n f) (i * N + j) m = sub (f i) j m := by
  have hlen := flatN_length n h
  have hle := mul_le_of hi hj
  rw [sb_def, sb_def, if_pos (by omega), if_pos (by rw [h i hi]; exact hj)]
  congr 1
  apply List.ext_getElem?
  intro t
  rw [List.getElem?_take, List.getElem?_take, List.getElem?_drop, List.getElem?_drop]
  by_cases ht : t < m
  · rw [if_pos ht, if_pos ht, Nat.add_assoc, flatN_get h hi (by omega)]
  · rw [if_neg ht, if_neg ht]
theorem flatN_spl {N n i j : Nat} {f : Nat → List Value} {vs : List Value} (h : ∀ i, i < n → (f i).length = N) (hi : i < n) (hj : j + vs.length ≤ N) : splice (flatN n f) (i * N + j) vs = flatN n (updF f i (splice (f i) j vs)) := by
  induction n with
  | zero => omega
  | succ n ih =>
    have hl := flatN_length (f := f) n (fun i hi => h i (by omega))
    rw [flatN_succ, flatN_succ]
    rcases Nat.lt_or_ge i n with h1 | h1
    · rw [spl_l (by rw [hl]; exact mul_le_of h1 hj), ih (fun i hi => h i (by omega)) h1, updF_ne _ _ (by omega)]
    · have : i = n := by omega
      subst this
      rw [spl_r (by rw [hl]; omega), hl, show i * N + j - i * N = j from by omega, updF_same]
      congr 1
      exact flatN_congr fun t ht => (updF_ne _ _ (by omega)).symm
theorem flatN_plain {n : Nat} {f : Nat → List Value} (h : ∀ i, i < n → (f i).all plain = true) : (flatN n f).all plain = true := by
  induction n with
  | zero => rfl
  | succ n ih => rw [flatN_succ, List.all_append, ih (fun i hi => h i (by omega)), h n (by omega)]; rfl

/-! ### A magazine -/

structure Mg where
  opn : Bool
  pg : Pp
  hd : Hd
  text : List UInt8
  tp : Option Addr
  tc : Nat
  began : Bool
  region : Nat
  told : Bool

@[irreducible] def mgC (m : Mg) : List Value :=
  [.bool m.opn] ++ (ppC m.pg ++ (hdC m.hd ++ [.slice m.tp m.text.length m.tc, .bool m.began, .int .i64 m.region, .bool m.told]))
theorem mgC_length (m : Mg) : (mgC m).length = 1081 := by
  rw [mgC]
  simp only [List.length_append, pgC_length, List.length_cons, List.length_nil]
theorem mgC_plain (m : Mg) : (mgC m).all plain = true := by
  rw [mgC]
  simp only [List.all_append, hdC_plain, pgC_plain, Bool.true_and]; rfl

section mg
variable {m : Mg} {off : Nat}
theorem mg_open (h : off = 0) : (mgC m)[off]? = some (.bool m.opn) := by subst h; rw [mgC]; rfl
theorem mg_pgGet {v : Value} {j : Nat} (hv : (ppC m.pg)[j]? = some v) (h : off = 1 + j) : (mgC m)[off]? = some v := by
  have hlt := (List.getElem?_eq_some_iff.1 hv).1
  subst h
  rw [mgC, get_r (by simp), get_l (by simpa using hlt)]
  simpa using hv
theorem mg_pgSub {l : List Value} {j n : Nat} (hv : sub (ppC m.pg) j n = some l) (hn : j + n ≤ 1061) (h : off = 1 + j) : sub (mgC m) off n = some l := by
  subst h
  rw [mgC, sub_r (by simp), sub_l (by rw [pgC_length]; simp; omega)]
  simpa using hv
theorem mg_page (h : off = 1) : sub (mgC m) off 1061 = some (ppC m.pg) := mg_pgSub (j := 0) (pg_all rfl) (by omega) (by omega)
theorem mg_head (h : off = 1062) : sub (mgC m) off 15 = some (hdC m.hd) := by
  subst h
  rw [mgC, sub_r (by simp), sub_r (by rw [pgC_length]; simp), pgC_length]
  exact sub_l (by rw [hdC_length]; simp) |>.trans (sub_all (hdC_length _))
theorem mg_tail {v : Value} {j : Nat} (hv : ([.slice m.tp m.text.length m.tc, .bool m.began, .int .i64 m.region, .bool m.told] : List Value)[j]? = some v) (h : off = 1077 + j) : (mgC m)[off]? = some v := by
  subst h
  rw [mgC, get_r (by simp; omega), get_r (by rw [pgC_length]; simp; omega), get_r (by rw [pgC_length, hdC_length]; simp; omega), pgC_length, hdC_length]
  rw [← hv]; congr 1; simp; omega
theorem mg_text (h : off = 1077) : (mgC m)[off]? = some (.slice m.tp m.text.length m.tc) := mg_tail (j := 0) rfl h
theorem mg_began (h : off = 1078) : (mgC m)[off]? = some (.bool m.began) := mg_tail (j := 1) rfl h
theorem mg_region (h : off = 1079) : (mgC m)[off]? = some (.int .i64 m.region) := mg_tail (j := 2) rfl h
theorem mg_told (h : off = 1080) : (mgC m)[off]? = some (.bool m.told) := mg_tail (j := 3) rfl h

theorem mg_sOpen {b : Bool} (h : off = 0) : splice (mgC m) off [.bool b] = mgC { m with opn := b } := by
  subst h; rw [mgC, mgC]; rfl
theorem mg_sPg {x : Pp} {vs : List Value} {j : Nat} (hv : splice (ppC m.pg) j vs = ppC x) (hn : j + vs.length ≤ 1061) (h : off = 1 + j) : splice (mgC m) off vs = mgC { m with pg := x } := by
  subst h
  rw [mgC, spl_r (by simp), spl_l (by rw [pgC_length]; simp; omega), mgC]
  rw [show 1 + j - [Value.bool m.opn].length = j from by simp, hv]
theorem mg_sPage {x : Pp} (h : off = 1) : splice (mgC m) off (ppC x) = mgC { m with pg := x } :=
  mg_sPg (j := 0) (splice_all (by rw [pgC_length, pgC_length])) (by rw [pgC_length]; omega) (by omega)
theorem mg_sHead {x : Hd} (h : off = 1062) : splice (mgC m) off (hdC x) = mgC { m with hd := x } := by
  subst h
  rw [mgC, spl_r (by simp), spl_r (by rw [pgC_length]; simp), spl_l (by rw [pgC_length]; simp), mgC, pgC_length]
  rfl
theorem mg_sTail {vs vs' : List Value} {j : Nat} (hv : splice ([.slice m.tp m.text.length m.tc, .bool m.began, .int .i64 m.region, .bool m.told] : List Value) j vs = vs') (h : off = 1077 + j) :
    splice (mgC m) off vs = [.bool m.opn] ++ (ppC m.pg ++ (hdC m.hd ++ vs')) := by
  subst h
  rw [mgC, spl_r (by simp; omega), spl_r (by rw [pgC_length]; simp; omega), spl_r (by rw [pgC_length, hdC_length]; simp; omega), pgC_length, hdC_length]
  rw [← hv]; congr 4; simp; omega
theorem mg_sText {t : List UInt8} {p : Option Addr} {c n : Nat} (hn : n = t.length) (h : off = 1077) : splice (mgC m) off [.slice p n c] = mgC { m with text := t, tp := p, tc := c } := by
  subst hn
  rw [mg_sTail (j := 0) rfl h, mgC]; rfl
theorem mg_sBegan {b : Bool} (h : off = 1078) : splice (mgC m) off [.bool b] = mgC { m with began := b } := by
  rw [mg_sTail (j := 1) rfl h, mgC]; rfl
theorem mg_sRegion {z : Int} {n : Nat} (hz : z = n) (h : off = 1079) : splice (mgC m) off [.int .i64 z] = mgC { m with region := n } := by
  subst hz
  rw [mg_sTail (j := 2) rfl h, mgC]; rfl
theorem mg_sTold {b : Bool} (h : off = 1080) : splice (mgC m) off [.bool b] = mgC { m with told := b } := by
  rw [mg_sTail (j := 3) rfl h, mgC]; rfl
end mg

/-! ### The machine -/

@[irreducible] def mcC (bs : Nat) (f : Nat → Mg) (i : Inf) (told : Bool) : List Value :=
  [.pointer (some ⟨bs, 0, none⟩)] ++ (flatN 9 (fun k => mgC (f k)) ++ (infC i ++ [.bool told]))
theorem flat9 (f : Nat → Mg) : ∀ i, i < 9 → ((fun k => mgC (f k)) i).length = 1081 := fun _ _ => mgC_length _
theorem mcC_length (bs : Nat) (f : Nat → Mg) (i : Inf) (told : Bool) : (mcC bs f i told).length = 9741 := by
  rw [mcC]
  simp only [List.length_append, flatN_length 9 (flat9 f), List.length_cons, List.length_nil]

section mc
variable {bs off : Nat} {f : Nat → Mg} {i : Inf} {told : Bool}
theorem mc_s (h : off = 0) : (mcC bs f i told)[off]? = some (.pointer (some ⟨bs, 0, none⟩)) := by subst h; rw [mcC]; rfl
theorem mc_get {v : Value} {k j : Nat} (hk : k < 9) (hj : j < 1081) (hv : (mgC (f k))[j]? = some v) (h : off = 1 + k * 1081 + j) : (mcC bs f i told)[off]? = some v := by
  subst h
  have hl := flatN_length 9 (flat9 f)
  rw [mcC, get_r (by simp; omega), get_l (by rw [hl]; simp; omega)]
  rw [← hv, ← flatN_get (flat9 f) hk hj]
  congr 1; simp; omega
theorem mc_sub {l : List Value} {k j n : Nat} (hk : k < 9) (hj : j + n ≤ 1081) (hv : sub (mgC (f k)) j n = some l) (h : off = 1 + k * 1081 + j) : sub (mcC bs f i told) off n = some l := by
  subst h
  have hl := flatN_length 9 (flat9 f)
  rw [mcC, sub_r (by simp; omega), sub_l (by rw [hl]; simp; omega)]
  rw [← hv, ← flatN_sub (flat9 f) hk hj]
  congr 1; simp; omega
theorem mc_spl {vs : List Value} {k j : Nat} {m : Mg} (hk : k < 9) (hj : j + vs.length ≤ 1081) (hv : splice (mgC (f k)) j vs = mgC m) (h : off = 1 + k * 1081 + j) : splice (mcC bs f i told) off vs = mcC bs (updF f k m) i told := by
  subst h
  have hl := flatN_length 9 (flat9 f)
  rw [mcC, spl_r (by simp; omega), spl_l (by rw [hl]; simp; omega), mcC]
  congr 2
  rw [show 1 + k * 1081 + j - [Value.pointer (some ⟨bs, 0, none⟩)].length = k * 1081 + j from by simp; omega, flatN_spl (flat9 f) hk hj, hv]
  apply flatN_congr
  intro t _
  simp only [updF]
  split <;> rfl
theorem mc_inf (h : off = 9730) : sub (mcC bs f i told) off 10 = some (infC i) := by
  subst h
  have hl := flatN_length 9 (flat9 f)
  rw [mcC, sub_r (by simp), sub_r (by rw [hl]; simp), hl, show 9730 - [Value.pointer (some ⟨bs, 0, none⟩)].length - 9 * 1081 = 0 from by simp]; rfl
theorem mc_told (h : off = 9740) : (mcC bs f i told)[off]? = some (.bool told) := by
  subst h
  have hl := flatN_length 9 (flat9 f)
  rw [mcC, get_r (by simp), get_r (by rw [hl]; simp), hl, show 9740 - [Value.pointer (some ⟨bs, 0, none⟩)].length - 9 * 1081 = 10 from by simp]; rfl
theorem mc_sInf {i' : Inf} (h : off = 9730) : splice (mcC bs f i told) off (infC i') = mcC bs f i' told := by
  subst h
  have hl := flatN_length 9 (flat9 f)
  rw [mcC, spl_r (by simp), spl_r (by rw [hl]; simp), hl, show 9730 - [Value.pointer (some ⟨bs, 0, none⟩)].length - 9 * 1081 = 0 from by simp, mcC]; rfl
theorem mc_sTold {b : Bool} (h : off = 9740) : splice (mcC bs f i told) off [.bool b] = mcC bs f i b := by
  subst h
  have hl := flatN_length 9 (flat9 f)
  rw [mcC, spl_r (by simp), spl_r (by rw [hl]; simp), hl, show 9740 - [Value.pointer (some ⟨bs, 0, none⟩)].length - 9 * 1081 = 10 from by simp, mcC]; rfl
theorem mcb {x : Nat} (h : x ≤ 9741) : Nat.ble x (mcC bs f i told).length = true := Nat.ble_eq_true_of_le (by rw [mcC_length]; exact h)
end mc
end Go.Cf

namespace Go.Cf
open Go.Proofs

/-! ### Lists of pages -/

def Pp.k (x : Pp) : Kz := x.g.hd.pl.z
def Pg.k (x : Pg) : Kz := x.hd.pl.z
def ppL (l : List Pp) : List (Kz × Value) := l.map fun x => (x.k, ppV x)
def dropP (l : List Pp) (k : Kz) : List Pp := l.filter fun x => !decide (k = x.k)
def dropG (l : List Pg) (k : Kz) : List Pg := l.filter fun x => !decide (k = x.k)
theorem dropP_kv (l : List Pp) (k : Kz) : dropK (ppL l) k = ppL (dropP l k) := by
  induction l with
  | nil => rfl
  | cons x r ih =>
    simp only [ppL, dropK, dropP, List.map_cons] at ih ⊢
    by_cases h : k = x.k
    · rw [List.filter_cons_of_neg (by simp [h]), List.filter_cons_of_neg (by simp [h]), ih]
    · rw [List.filter_cons_of_pos (by simp [h]), List.filter_cons_of_pos (by simp [h]), List.map_cons, ih]
theorem dropP_g (l : List Pp) (k : Kz) : (dropP l k).map (·.g) = dropG (l.map (·.g)) k := by
  induction l with
  | nil => rfl
  | cons x r ih =>
    simp only [dropG, dropP, List.map_cons] at ih ⊢
    by_cases h : k = x.k
    · rw [List.filter_cons_of_neg (by simp [h]), List.filter_cons_of_neg (by have : k = Pg.k x.g := h; simp [this]), ih]
    · rw [List.filter_cons_of_pos (by simp [h]), List.filter_cons_of_pos (by have : ¬ k = Pg.k x.g := h; simp [this]), List.map_cons, ih]

def putG (most : Int) (pin : Kz) (pinned : Bool) (l : List Pg) (g : Pg) : List Pg :=
  if ((dropG l g.k ++ [g]).length : Int) ≤ most then dropG l g.k ++ [g] else dropG (dropG l g.k ++ [g]) (victimM ((dropG l g.k ++ [g]).map Pg.k) g.k pin pinned)
def putP (most : Int) (pin : Kz) (pinned : Bool) (l : List Pp) (g : Pp) : List Pp :=
  if ((dropP l g.k ++ [g]).length : Int) ≤ most then dropP l g.k ++ [g] else dropP (dropP l g.k ++ [g]) (victimM ((dropP l g.k ++ [g]).map Pp.k) g.k pin pinned)
theorem ppL_length (l : List Pp) : (ppL l).length = l.length := by simp [ppL]
theorem ppL_keys (l : List Pp) : (ppL l).map (·.1) = l.map Pp.k := by simp [ppL]
theorem ppL_append (a b : List Pp) : ppL (a ++ b) = ppL a ++ ppL b := by simp [ppL]
theorem gk (l : List Pp) : (l.map (·.g)).map Pg.k = l.map Pp.k := by rw [List.map_map]; rfl
theorem putP_kv (most : Int) (pin : Kz) (pinned : Bool) (l : List Pp) (x : Pp) : putL most pin pinned (ppL l) x.k (ppV x) = ppL (putP most pin pinned l x) := by
  have h1 : dropK (ppL l) x.k ++ [(x.k, ppV x)] = ppL (dropP l x.k ++ [x]) := by rw [dropP_kv, ppL_append]; rfl
  rw [putL, putP, h1, ppL_length, ppL_keys]
  split
  · rfl
  · rw [dropP_kv]
theorem putP_g (most : Int) (pin : Kz) (pinned : Bool) (l : List Pp) (x : Pp) : (putP most pin pinned l x).map (·.g) = putG most pin pinned (l.map (·.g)) x.g := by
  have h1 : (dropP l x.k ++ [x]).map (·.g) = dropG (l.map (·.g)) x.g.k ++ [x.g] := by rw [List.map_append, dropP_g]; rfl
  have h2 : x.k = x.g.k := rfl
  rw [putG, putP, ← h1, List.length_map, gk, ← h2]
  split
  · rfl
  · rw [dropP_g]
theorem putP_sub (most : Int) (pin : Kz) (pinned : Bool) (l : List Pp) (x : Pp) : ∀ y ∈ putP most pin pinned l x, y ∈ l ∨ y = x := by
  intro y hy
  have h1 : ∀ y ∈ dropP l x.k ++ [x], y ∈ l ∨ y = x := by
    intro y hy
    rcases List.mem_append.1 hy with h | h
    · exact .inl ((List.mem_filter.1 h).1)
    · exact .inr (by simpa using h)
  rw [putP] at hy
  split at hy
  · exact h1 y hy
  · exact h1 y ((List.mem_filter.1 hy).1)

theorem victim_mem (k pin : Kz) (pinned : Bool) : ∀ l : List Kz, k ∈ l → victimM l k pin pinned ∈ l := by
  have key : ∀ l : List Kz, victimM l k pin pinned ∈ l ∨ victimM l k pin pinned = k := by
    intro l
    induction l with
    | nil => exact .inr rfl
    | cons x r ih =>
      rw [victimM]
      split
      · exact .inl (.head _)
      · exact ih.imp (.tail _) id
  intro l hk
  rcases key l with h | h
  · exact h
  · rw [h]; exact hk
theorem dropP_lt {l : List Pp} {k : Kz} (h : k ∈ l.map Pp.k) : (dropP l k).length < l.length := by
  induction l with
  | nil => simp at h
  | cons x r ih =>
    have hle : (dropP r k).length ≤ r.length := List.length_filter_le _ _
    simp only [dropP] at hle ih ⊢
    by_cases hx : k = x.k
    · rw [List.filter_cons_of_neg (by simp [hx])]; simp only [List.length_cons]; omega
    · rw [List.filter_cons_of_pos (by simp [hx])]
      have := ih (by
        simp only [List.map_cons, List.mem_cons] at h
        exact h.resolve_left hx)
      simp only [List.length_cons]; omega
theorem putP_le {most : Int} {pin : Kz} {pinned : Bool} {l : List Pp} {x : Pp} (h : (l.length : Int) ≤ most) : ((putP most pin pinned l x).length : Int) ≤ most := by
  have h1 : (dropP l x.k).length ≤ l.length := List.length_filter_le _ _
  rw [putP]
  split
  · assumption
  · have h2 := dropP_lt (victim_mem x.k pin pinned ((dropP l x.k ++ [x]).map Pp.k) (by simp))
    rw [List.length_append, List.length_singleton] at h2
    omega

def findG (l : List Pg) (k : Kz) : Option Pg := match l with
  | [] => none
  | x :: r => if k = x.k then some x else findG r k
def findP (l : List Pp) (k : Kz) : Option Pp := match l with
  | [] => none
  | x :: r => if k = x.k then some x else findP r k
theorem findP_kv (l : List Pp) (k : Kz) : valOf (ppL l) k = (findP l k).map fun x => ppV x := by
  induction l with
  | nil => rfl
  | cons x r ih =>
    simp only [ppL, List.map_cons, valOf, findP] at ih ⊢
    split
    · rfl
    · exact ih
theorem findP_g (l : List Pp) (k : Kz) : (findP l k).map (·.g) = findG (l.map (·.g)) k := by
  induction l with
  | nil => rfl
  | cons x r ih =>
    simp only [List.map_cons, findG, findP] at ih ⊢
    by_cases h : k = x.k
    · have h' : k = Pg.k x.g := h
      rw [if_pos h, if_pos h']; rfl
    · have h' : ¬ k = Pg.k x.g := h
      rw [if_neg h, if_neg h']; exact ih
theorem findP_mem {l : List Pp} {k : Kz} {x : Pp} (h : findP l k = some x) : x ∈ l ∧ x.k = k := by
  induction l with
  | nil => simp [findP] at h
  | cons y r ih =>
    simp only [findP] at h
    split at h
    · rename_i hk
      cases h
      exact ⟨.head _, hk.symm⟩
    · exact ⟨.tail _ (ih h).1, (ih h).2⟩

/-! ### The machine -/

structure Mag0 where
  opn : Bool
  pg : Pg
  hd : Hd
  text : List UInt8
  began : Bool
  region : Nat
  told : Bool

structure Mach where
  most : Int
  l : List Pg
  pin : Kz
  pinned : Bool
  mg : Nat → Mag0
  inf : Inf
  told : Bool

/-- A magazine's open page goes into the store. -/
def endM (m : Mach) (i : Nat) : Mach :=
  if (m.mg i).opn then { m with l := putG m.most m.pin m.pinned m.l (m.mg i).pg, mg := updF m.mg i { m.mg i with opn := false, pg := pg0 } } else m
/-- Those that a header ends. -/
def endsM (m : Mach) (all : Bool) (g : Nat) : Nat → Mach
  | 0 => m
  | i + 1 => if all || (i + 1 == g) then endM (endsM m all g i) (i + 1) else endsM m all g i
def dfltM (told : Bool) (region : Nat) (g : Pg) : Pg := if told && g.dflt == 0 then { g with dflt := 1 + region } else g
def beginM (m : Mach) (g : Nat) (h : Hd) (t : List UInt8) : Mach :=
  let o := findG m.l h.pl.z
  { m with mg := updF m.mg g { m.mg g with opn := true, pg := dfltM (m.mg g).told (m.mg g).region (newG h t (o.getD pg0) o.isSome) } }
def headerM (m : Mach) (k : Pk) : Mach × Option Nat := match readH k with
  | .error e => (m, some e)
  | .ok (h, t) =>
    let m2 := endsM { m with mg := updF m.mg k.mag { m.mg k.mag with hd := h, text := t, began := true } } (h.c 7) k.mag 8
    if h.pl.page = 255 then (m2, none) else (beginM m2 k.mag h t, none)
def setPg (m : Mach) (i : Nat) (g : Pg) : Mach := { m with mg := updF m.mg i { m.mg i with pg := g } }
def insideM (m : Mach) (k : Pk) : Mach × Option Nat :=
  if (m.mg k.mag).opn then
    if k.kind = 2 then (setPg m k.mag (rowG (m.mg k.mag).pg k.row k.data), none)
    else if k.kind = 3 then (if k.code ≤ 14 then setPg m k.mag (extG (m.mg k.mag).pg k.code (tripsOf k.data)) else m, none)
    else if k.kind = 4 then (if k.code ≠ 0 then m else setPg m k.mag { (m.mg k.mag).pg with links := linkM k, linked := true }, none)
    else if k.kind = 5 then ((match regionM k with | none => m | some n => setPg m k.mag { (m.mg k.mag).pg with dflt := 1 + n }), none)
    else (m, none)
  else (m, none)
def kindM (m : Mach) (k : Pk) : Mach × Option Nat :=
  if k.kind = 1 then headerM m k
  else if k.kind = 6 then ((match regionM k with | none => m | some n => { m with mg := updF m.mg k.mag { m.mg k.mag with region := n, told := true } }), none)
  else if k.kind = 7 then (match readS k with | .error e => (m, some e) | .ok i => ({ m with inf := i, told := true }, none))
  else insideM m k
/-- A packet. -/
def packetM (m : Mach) (b : List UInt8) : Mach × Option Nat := match readP b with
  | .error e => (m, some e)
  | .ok k => kindM m k

/-- What a place finds. -/
def lastG (l : List Pg) (k : Kz) : Option Pg := (l.filter fun x => decide (x.k.mag = k.mag) && decide (x.k.page = k.page)).getLast?
def findM (m : Mach) (k : Kz) : Option Pg := if k.sub ≠ 16255 then findG m.l k else lastG m.l k

/-! ### The machine where it lies -/

structure Mp where
  bm : Nat
  st : Sp
  f : Nat → Mg
  inf : Inf
  told : Bool
abbrev mpL (M : Mp) : Hp := .cells M.bm (mcC M.st.bs M.f M.inf M.told) 128 :: spL M.st
def Mg.abs (m : Mg) : Mag0 := ⟨m.opn, m.pg.g, m.hd, m.text, m.began, m.region, m.told⟩
def absM (M : Mp) (l : List Pp) : Mach := ⟨M.st.most, l.map (·.g), M.st.pin, M.st.pinned, fun i => (M.f i).abs, M.inf, M.told⟩

/-- Rows that nobody turns: triplets, bytes. -/
structure Pool where
  p3 : Option Addr → Nat → List Tr → Prop
  p1 : Option Addr → Nat → List UInt8 → Prop
def Pool.none : Pool := ⟨fun p c l => l = [] ∧ p = .none ∧ c = 0, fun _ _ t => t = []⟩
def Pool.add (K : Pool) (R : Hp) : Pool :=
  ⟨fun p c l => K.p3 p c l ∨ (l ≠ [] ∧ l.length ≤ 100000 ∧ En.row p l.length c (trsC l) 143 3 ∈ R), fun p c t => K.p1 p c t ∨ (t.length ≤ 1000 ∧ En.row p t.length c (bys t) 5 1 ∈ R)⟩
structure PoolAt (K : Pool) (w : World) (F : List Nat) : Prop where
  p3 : ∀ p c l, K.p3 p c l → ExI w F p c l
  p1 : ∀ p c t, K.p1 p c t → Sl w F p t.length 1 (bys t) ∧ t.length ≤ 1000
  z : K.p3 .none 0 []
  z1 : K.p1 .none 0 []
theorem Pool.mono3 {K : Pool} {R : Hp} {p : Option Addr} {c : Nat} {l : List Tr} (h : K.p3 p c l) : (K.add R).p3 p c l := .inl h
theorem Pool.mono1 {K : Pool} {R : Hp} {p : Option Addr} {c : Nat} {l : List UInt8} (h : K.p1 p c l) : (K.add R).p1 p c l := .inl h
theorem Pool.ex {K : Pool} {R : Hp} {p : Option Addr} {c : Nat} {l : List Tr} (hz : K.p3 .none 0 []) (hle : l.length ≤ 100000) (h : ExL p c l R) : (K.add R).p3 p c l := by
  rcases h with ⟨rfl, rfl, rfl, rfl⟩ | ⟨h1, rfl⟩
  · exact .inl hz
  · exact .inr ⟨h1, hle, .head _⟩

structure MOk (K : Pool) (M : Mp) (l : List Pp) : Prop where
  len : (l.length : Int) ≤ M.st.most
  most : M.st.most ≤ 800
  ok : M.st.Ok
  kv : M.st.l = ppL l
  pgs : ∀ x ∈ l, K.p3 x.p x.c x.g.extra
  mgs : ∀ i, K.p3 (M.f i).pg.p (M.f i).pg.c (M.f i).pg.g.extra
  txt : ∀ i, K.p1 (M.f i).tp (M.f i).tc (M.f i).text
  reg : ∀ i, (M.f i).region < 16
theorem MOk.mono {K K' : Pool} {M : Mp} {l : List Pp} (h : MOk K M l) (h3 : ∀ p c l, K.p3 p c l → K'.p3 p c l) (h1 : ∀ p c l, K.p1 p c l → K'.p1 p c l) : MOk K' M l :=
  ⟨h.len, h.most, h.ok, h.kv, fun x hx => h3 _ _ _ (h.pgs x hx), fun i => h3 _ _ _ (h.mgs i), fun i => h1 _ _ _ (h.txt i), h.reg⟩

theorem abs_upd (f : Nat → Mg) (i : Nat) (m : Mg) : (fun j => (updF f i m j).abs) = updF (fun j => (f j).abs) i m.abs := by
  funext j
  simp only [updF]
  split <;> rfl
theorem upd_all {α : Type} {P : α → Prop} {f : Nat → α} {i : Nat} {m : α} (h : ∀ j, P (f j)) (hm : P m) : ∀ j, P (updF f i m j) := by
  intro j
  simp only [updF]
  split
  · exact hm
  · exact h j

variable {w0 : World} {F : List Nat} {L : Hp}
/-- Known rows, when a call is made. -/
theorem PoolAt.now {K : Pool} (h : PoolAt K w0 F) {w : World} (hs : (St.mk w0 F L).holds w) : PoolAt K w [] :=
  ⟨fun p c l hp => ⟨(h.p3 p c l hp).sl.now hs, (h.p3 p c l hp).nil, (h.p3 p c l hp).le⟩, fun p c t hp => ⟨(h.p1 p c t hp).1.now hs, (h.p1 p c t hp).2⟩, h.z, h.z1⟩
theorem PoolAt.add {K : Pool} (h : PoolAt K w0 F) {w : World} (hs : (St.mk w0 F L).holds w) {C R : Hp} (hp : L.Perm (C ++ R)) {F' : List Nat} (hF : ∀ b, b ∈ F' → b ∈ blks C) {R' : Hp} (hR : ∀ e, e ∈ R' → e ∈ R) : PoolAt (K.add R') w F' := by
  refine ⟨fun p c l hl => ?_, fun p c t ht => ?_, .inl h.z, .inl h.z1⟩
  · rcases hl with hl | ⟨h1, h2, h3⟩
    · have := h.p3 p c l hl
      exact ⟨this.sl.give hs hp hF, this.nil, this.le⟩
    · exact ⟨sl_row_at hs hp hF (hR _ h3), fun h0 => absurd h0 h1, h2⟩
  · rcases ht with ht | ⟨h2, h3⟩
    · exact ⟨(h.p1 p c t ht).1.give hs hp hF, (h.p1 p c t ht).2⟩
    · exact ⟨sl_row_at hs hp hF (hR _ h3), h2⟩
theorem PoolAt.nil (w : World) (F : List Nat) : PoolAt Pool.none w F := by
  refine ⟨fun p c l hl => ?_, fun p c t ht => ?_, ⟨rfl, rfl, rfl⟩, rfl⟩
  · obtain ⟨rfl, rfl, rfl⟩ := hl
    exact ⟨Sl.nil w F _ 3, fun _ => ⟨rfl, rfl⟩, by simp⟩
  · have : t = [] := ht
    subst this
    exact ⟨Sl.nil w F _ 1, by simp⟩
end Go.Cf

namespace Go.Proofs
open Go.Cf
set_option maxRecDepth 10000

theorem ppk_kzC (x : Pp) : plC x.g.hd.pl = kzC x.k := rfl
theorem hd_pl (h : Hd) : sub (hdC h) 0 3 = some (kzC h.pl.z) := rfl

theorem updF_twice {α : Type} (f : Nat → α) (i : Nat) (a b : α) : updF (updF f i a) i b = updF f i b := by
  funext j
  simp only [updF]
  split <;> rfl

theorem end_does (K : Pool) (M : Mp) (l : List Pp) (i : Nat) (w : World) (hi : i < 9) (hM : MOk K M l) (hw : (St.mk w (blks (mpL M)) (mpL M)).holds w) (hz : K.p3 .none 0 []) :
    Does Tryz.prog 121 [.pointer (some ⟨M.bm, 0, none⟩), .int .i64 i] w (blks (mpL M)) (fun _ L => ∃ M' l', L = mpL M' ∧ MOk K M' l' ∧ M'.bm = M.bm ∧ absM M' l' = endM (absM M l) i) := by
  refine does_ofM Tryz.func121 rfl rfl hw ?_
  generalize blks (mpL M) = FF at hw ⊢
  obtain ⟨bm, s, f, inf, told⟩ := M
  have hlen : s.l.length ≤ 50000 := by
    have h1 := hM.len
    have h2 := hM.most
    have h3 := hM.kv
    dsimp only at h1 h2 h3
    rw [h3, ppL_length]; omega
  repeat (first | refine w_ (v_l (hv := mc_get (k := i) hi (by omega) (mg_open rfl) (by omega))) ?_ | refine r_seq ?_ | refine ri_seq ?_ | refine ri_region ?_ | refine ri_skip ?_ | refine ri_block ?_ | refine xi_ ?_ | refine r_nil ?_ | refine r_region ?_ | refine r_skip ?_ | refine r_block ?_ | refine r_inBlock ?_ | refine x_ ?_ | refine w_ v_p ?_ | refine w_ v_cv ?_ | refine w_ v_and ?_ | refine w_ v_or ?_ | refine w_ v_f ?_ | refine w_ v_b ?_ | refine w_ v_r ?_ | refine w_ v_i ?_ | refine w_ v_a ?_ | refine w_ v_l ?_ | refine w_ v_la ?_ | refine w_ v_ls ?_ | refine w_ v_lr ?_ | refine w_ v_ln ?_ | refine w_ v_bd ?_ | refine w_ v_ba ?_ | refine w_ v_mf ?_ | refine w_ v_sap ?_ | refine w_ v_pkf ?_ | refine w_ v_pkt ?_ | refine w_ v_nl ?_ | refine w_ v_nn ?_ | refine e_ (f_st ?_) | refine e_ (f_al fun _ => ?_) | refine e_ (f_bx fun _ => ?_))
  refine c_ (fun h => ?_) (fun h => ?_)
  · have hsub : sub (mgC (f i)) 1 3 = some (kzC (f i).pg.k) := by
      refine mg_pgSub (j := 0) ?_ (by omega) rfl
      show sub (pgC (f i).pg.g (f i).pg.p (f i).pg.c) 0 3 = _
      rw [pgC]; rfl
    repeat refine r_seq ?_
    refine d_in ([.cells bm (mcC s.bs f inf told) 128]) [] ?_
    first | (refine dp 0 ?_; first | refine tp (fun _ => v_p) ?_)
    first | (refine dp 1 ?_; first | refine tp (fun _ => v_p) ?_)
    first | (refine dp 2 ?_; first | refine tp (fun _ => v_f) ?_)
    first | (refine dw 3 ?_; first | refine tw (v_l (hv := mc_s rfl)) ?_ | refine tw (v_l) ?_ | refine tw (v_la) ?_ | refine tw (v_ls) ?_ | refine tw (v_lr) ?_ | refine tw ((v_ge hG)) ?_)
    first | (refine dp 4 ?_; first | refine tp (fun _ => v_p) ?_)
    first | (refine dp 5 ?_; first | refine tp (fun _ => v_p) ?_)
    first | (refine dp 6 ?_; first | refine tp (fun _ => v_f) ?_)
    first | (refine dp 7 ?_; first | refine tp (fun _ => v_f) ?_)
    first | (refine dp 8 ?_; first | refine tp (fun _ => v_f) ?_)
    first | (refine dw 9 ?_; first | refine tw (v_la (hv := mc_sub (k := i) hi (by omega) hsub (by omega))) ?_ | refine tw (v_l) ?_ | refine tw (v_la) ?_ | refine tw (v_ls) ?_ | refine tw (v_lr) ?_ | refine tw ((v_ge hG)) ?_)
    first | (refine dp 10 ?_; first | refine tp (fun _ => v_p) ?_)
    first | (refine dp 11 ?_; first | refine tp (fun _ => v_p) ?_)
    first | (refine dp 12 ?_; first | refine tp (fun _ => v_f) ?_)
    first | (refine dw 13 ?_; first | refine tw (v_la (hv := mc_sub (k := i) hi (by omega) (mg_page rfl) (by omega))) ?_ | refine tw (v_l) ?_ | refine tw (v_la) ?_ | refine tw (v_ls) ?_ | refine tw (v_lr) ?_ | refine tw ((v_ge hG)) ?_)
    refine d_e 14 ?_
    refine f_cM (spL s) [.cells bm (mcC s.bs f inf told) 128] (List.perm_append_comm (l₁ := [_])) (fun b hb => hb) (fun w2 hw2 => storePut_does s (f i).pg.k (f i).pg.g (f i).pg.p (f i).pg.c w2 hM.ok hlen (hw2.give (List.perm_append_comm (l₁ := [_])))) fun v L' h => ?_
    obtain ⟨s', hok, hbs, hmost, hpin, hpinned, hl, rfl⟩ := h
    refine ⟨?_, ?_⟩
    · first | exact st_n | exact st_l rfl | exact st_s (by repeat (first | exact List.Sublist.refl _ | exact List.nil_sublist _ | exact List.sublist_append_right _ _ | apply List.Sublist.cons_cons | apply List.Sublist.cons))
    refine d_z ?_
    dsimp only
    repeat (first | refine e_ (f_st (hl := mc_spl (k := i) hi (by simp) (mg_sOpen rfl) (by omega)) (hr := mcb (by omega)) ?_) | refine e_ (f_st (vs := ppC pp0) (hl := mc_spl (k := i) hi (by rw [pgC_length]; omega) (mg_sPage rfl) (by omega)) (hc := pgC_length _ _ _) (hp := pgC_plain _ _ _) (hr := mcb (by omega)) ?_) | refine r_seq ?_ | refine ri_seq ?_ | refine ri_region ?_ | refine ri_skip ?_ | refine ri_block ?_ | refine xi_ ?_ | refine r_nil ?_ | refine r_region ?_ | refine r_skip ?_ | refine r_block ?_ | refine r_inBlock ?_ | refine x_ ?_ | refine w_ v_p ?_ | refine w_ v_cv ?_ | refine w_ v_and ?_ | refine w_ v_or ?_ | refine w_ v_f ?_ | refine w_ v_b ?_ | refine w_ v_r ?_ | refine w_ v_i ?_ | refine w_ v_a ?_ | refine w_ v_l ?_ | refine w_ v_la ?_ | refine w_ v_ls ?_ | refine w_ v_lr ?_ | refine w_ v_ln ?_ | refine w_ v_bd ?_ | refine w_ v_ba ?_ | refine w_ v_mf ?_ | refine w_ v_sap ?_ | refine w_ v_pkf ?_ | refine w_ v_pkt ?_ | refine w_ v_nl ?_ | refine w_ v_nn ?_ | refine e_ (f_st ?_) | refine e_ (f_al fun _ => ?_) | refine e_ (f_bx fun _ => ?_))
    rw [updF_twice, updF_same]
    dsimp only
    have hkv := hM.kv
    dsimp only at hkv
    have hl' : s'.l = ppL (putP s.most s.pin s.pinned l (f i).pg) := by rw [hl, hkv, ← putP_kv]
    have hmg := hM.mgs i
    rw [← hbs]
    refine r_ord (M := mpL ⟨bm, s', updF f i { f i with opn := false, pg := pp0 }, inf, told⟩) (r_fin rfl .nil (List.Sublist.refl _) ⟨_, putP s.most s.pin s.pinned l (f i).pg, rfl, ⟨?_, ?_, hok, hl', ?_, ?_, ?_, ?_⟩, rfl, ?_⟩)
    · dsimp only; rw [hmost]; exact putP_le hM.len
    · dsimp only; rw [hmost]; exact hM.most
    · intro x hx
      rcases putP_sub _ _ _ _ _ x hx with h1 | rfl
      · exact hM.pgs x h1
      · exact hmg
    · exact upd_all (P := fun m : Mg => K.p3 m.pg.p m.pg.c m.pg.g.extra) hM.mgs hz
    · exact upd_all (P := fun m : Mg => K.p1 m.tp m.tc m.text) hM.txt (hM.txt i)
    · exact upd_all (P := fun m : Mg => m.region < 16) hM.reg (hM.reg i)
    · have ho : ((absM ⟨bm, s, f, inf, told⟩ l).mg i).opn = true := h
      rw [endM, if_pos ho]
      simp only [absM, hmost, hpin, hpinned, abs_upd, putP_g]
      rfl
  · refine r_skip ?_
    refine r_fin rfl .nil (List.Sublist.refl _) ⟨⟨bm, s, f, inf, told⟩, l, rfl, hM, rfl, ?_⟩
    have ho : ¬ ((absM ⟨bm, s, f, inf, told⟩ l).mg i).opn = true := by
      show ¬ (f i).opn = true
      rw [h]; decide
    rw [endM, if_neg ho]
end Go.Proofs

namespace Go.Proofs
open Go.Cf
set_option maxRecDepth 10000

theorem updF_self {α : Type} (f : Nat → α) (i : Nat) : updF f i (f i) = f := by
  funext j
  simp only [updF]
  split
  · rename_i h; rw [h]
  · rfl

theorem own_does (x : Pp) (w : World) (hx : ExI w [] x.p x.c x.g.extra) : Does Tryz.prog 78 [ppV x] w [] (PageR x.g) := by
  refine does_of Tryz.func78 rfl rfl ?_
  obtain ⟨g, p, c⟩ := x
  dsimp only at hx ⊢
  repeat (first | refine e_ (f_bx (c := pgC g p c) fun b1 => ?_) | refine e_ (f_al fun b2 => ?_) | refine w_ (v_l (hv := pg_extra rfl)) ?_ | refine r_seq ?_ | refine ri_seq ?_ | refine ri_region ?_ | refine ri_skip ?_ | refine ri_block ?_ | refine xi_ ?_ | refine r_nil ?_ | refine r_region ?_ | refine r_skip ?_ | refine r_block ?_ | refine r_inBlock ?_ | refine x_ ?_ | refine w_ v_p ?_ | refine w_ v_cv ?_ | refine w_ v_and ?_ | refine w_ v_or ?_ | refine w_ v_f ?_ | refine w_ v_b ?_ | refine w_ v_r ?_ | refine w_ v_i ?_ | refine w_ v_a ?_ | refine w_ v_l ?_ | refine w_ v_la ?_ | refine w_ v_ls ?_ | refine w_ v_lr ?_ | refine w_ v_ln ?_ | refine w_ v_bd ?_ | refine w_ v_ba ?_ | refine w_ v_mf ?_ | refine w_ v_sap ?_ | refine w_ v_pkf ?_ | refine w_ v_pkt ?_ | refine w_ v_nl ?_ | refine w_ v_nn ?_ | refine e_ (f_st ?_) | refine e_ (f_al fun _ => ?_) | refine e_ (f_bx fun _ => ?_))
  refine e_ (f_c (fun w hw => clone3_does g.extra p c _ w rfl ⟨hx.sl.now hw, hx.nil, hx.le⟩) fun v L' h => ?_)
  obtain ⟨p2, c2, rfl, hL⟩ := h
  refine r_swap ?_
  dsimp only [List.cons_append, List.nil_append]
  repeat (first | refine e_ (f_st (hl := pg_sExtra (l := g.extra) rfl rfl) (hr := pgb (by omega)) ?_) | refine w_ (v_la (hv := pg_all rfl)) ?_ | refine e_ (f_st (hl := pg_sAll rfl) (hc := pgC_length _ _ _) (hp := pgC_plain _ _ _) (hr := pgb (by omega)) ?_) | refine r_seq ?_ | refine ri_seq ?_ | refine ri_region ?_ | refine ri_skip ?_ | refine ri_block ?_ | refine xi_ ?_ | refine r_nil ?_ | refine r_region ?_ | refine r_skip ?_ | refine r_block ?_ | refine r_inBlock ?_ | refine x_ ?_ | refine w_ v_p ?_ | refine w_ v_cv ?_ | refine w_ v_and ?_ | refine w_ v_or ?_ | refine w_ v_f ?_ | refine w_ v_b ?_ | refine w_ v_r ?_ | refine w_ v_i ?_ | refine w_ v_a ?_ | refine w_ v_l ?_ | refine w_ v_la ?_ | refine w_ v_ls ?_ | refine w_ v_lr ?_ | refine w_ v_ln ?_ | refine w_ v_bd ?_ | refine w_ v_ba ?_ | refine w_ v_mf ?_ | refine w_ v_sap ?_ | refine w_ v_pkf ?_ | refine w_ v_pkt ?_ | refine w_ v_nl ?_ | refine w_ v_nn ?_ | refine e_ (f_st ?_) | refine e_ (f_al fun _ => ?_) | refine e_ (f_bx fun _ => ?_))
  exact t2 (L' := L') (.cons _ (.cons _ (List.Sublist.refl _))) ⟨p2, c2, rfl, hL⟩ (.cella rfl (.head _) (pg_all rfl) .nil)

/-- What is left when the open page of a magazine has been changed. -/
def PgSet (bm bs : Nat) (f : Nat → Mg) (inf : Inf) (told : Bool) (i : Nat) (g : Pg) (L : Hp) : Prop :=
  ∃ x R, x.g = g ∧ ((x.p = (f i).pg.p ∧ x.c = (f i).pg.c ∧ g.extra = (f i).pg.g.extra ∧ R = []) ∨ ExL x.p x.c g.extra R) ∧ L = .cells bm (mcC bs (updF f i { f i with pg := x }) inf told) 128 :: R

theorem extra2_does (E : Nat → Value) (kd : Pk) (bm bs i : Nat) (f : Nat → Mg) (inf : Inf) (told : Bool) (p : Option Addr) (c m : Nat) (w : World) (hi : i < 9) (hG : Glob w [bm] E) (hk : kd.kind = 3) (hcd : kd.code < 16) (hm : kd.data.length = m)
    (hw : (St.mk w [bm] [.cells bm (mcC bs f inf told) 128]).holds w) (hs : Sl w [bm] p m 1 (bys kd.data)) (hx : ExI w [bm] (f i).pg.p (f i).pg.c (f i).pg.g.extra) :
    Does Tryz.prog 133 [.pointer (some ⟨bm, 1 + i * 1081, none⟩), .agg (pkC kd.mag kd.row kd.kind kd.code (.slice p m c)).toArray] w [bm] (fun v L => v = .nilIface ∧ PgSet bm bs f inf told i (if kd.code ≤ 14 then extG (f i).pg.g kd.code (tripsOf kd.data) else (f i).pg.g) L) := by
  refine does_ofM Tryz.func133 rfl rfl hw ?_
  repeat (first | refine e_ (f_bx fun b3 => ?_) | refine r_seq ?_ | refine ri_seq ?_ | refine ri_region ?_ | refine ri_skip ?_ | refine ri_block ?_ | refine xi_ ?_ | refine r_nil ?_ | refine r_region ?_ | refine r_skip ?_ | refine r_block ?_ | refine r_inBlock ?_ | refine x_ ?_ | refine w_ v_p ?_ | refine w_ v_cv ?_ | refine w_ v_and ?_ | refine w_ v_or ?_ | refine w_ v_f ?_ | refine w_ v_b ?_ | refine w_ v_r ?_ | refine w_ v_i ?_ | refine w_ v_a ?_ | refine w_ v_l ?_ | refine w_ v_la ?_ | refine w_ v_ls ?_ | refine w_ v_lr ?_ | refine w_ v_ln ?_ | refine w_ v_bd ?_ | refine w_ v_ba ?_ | refine w_ v_mf ?_ | refine w_ v_sap ?_ | refine w_ v_pkf ?_ | refine w_ v_pkt ?_ | refine w_ v_nl ?_ | refine w_ v_nn ?_ | refine e_ (f_st ?_) | refine e_ (f_al fun _ => ?_) | refine e_ (f_bx fun _ => ?_))
  refine e_ (f_c (fun w hw => tripRead_does E kd p c m w (hG.now hw) hm (hs.now hw)) fun v L' h => ?_)
  have hT : hasT kd.kind = true := by rw [hk]; rfl
  simp only [TripR, hT, if_true] at h
  obtain ⟨p1, c1, p2, c2, rfl, rfl⟩ := h
  repeat (first | refine r_seq ?_ | refine ri_seq ?_ | refine ri_region ?_ | refine ri_skip ?_ | refine ri_block ?_ | refine xi_ ?_ | refine r_nil ?_ | refine r_region ?_ | refine r_skip ?_ | refine r_block ?_ | refine r_inBlock ?_ | refine x_ ?_ | refine w_ v_p ?_ | refine w_ v_cv ?_ | refine w_ v_and ?_ | refine w_ v_or ?_ | refine w_ v_f ?_ | refine w_ v_b ?_ | refine w_ v_r ?_ | refine w_ v_i ?_ | refine w_ v_a ?_ | refine w_ v_l ?_ | refine w_ v_la ?_ | refine w_ v_ls ?_ | refine w_ v_lr ?_ | refine w_ v_ln ?_ | refine w_ v_bd ?_ | refine w_ v_ba ?_ | refine w_ v_mf ?_ | refine w_ v_sap ?_ | refine w_ v_pkf ?_ | refine w_ v_pkt ?_ | refine w_ v_nl ?_ | refine w_ v_nn ?_ | refine e_ (f_st ?_) | refine e_ (f_al fun _ => ?_) | refine e_ (f_bx fun _ => ?_))
  refine c_ (fun h => ?_) (fun h => ?_)
  · have hc14 : kd.code ≤ 14 := by
      have : decide ((kd.code : Int) ≤ 14) = true := h
      simp only [decide_eq_true_eq] at this; omega
    rw [if_pos hc14]
    repeat refine r_seq ?_
    refine d_in ([.row p1 13 c1 (trsC (tripsOf kd.data)) 143 3, .cells b3 (pkC kd.mag kd.row kd.kind kd.code (.slice p m c)) 130, .cells bm (mcC bs f inf told) 128]) [11] ?_
    first | (refine dp 0 ?_; first | refine tp (fun _ => v_p) ?_)
    first | (refine dp 1 ?_; first | refine tp (fun _ => v_p) ?_)
    first | (refine dp 2 ?_; first | refine tp (fun _ => v_p) ?_)
    first | (refine dp 3 ?_; first | refine tp (fun _ => v_f) ?_)
    first | (refine dw 4 ?_; first | refine tw (v_la (hv := mc_sub (k := i) hi (by omega) (mg_page rfl) rfl)) ?_ | refine tw (v_l) ?_ | refine tw (v_la) ?_ | refine tw (v_ls) ?_ | refine tw (v_lr) ?_ | refine tw ((v_ge hG)) ?_)
    first | (refine dp 5 ?_; first | refine tp (fun _ => v_f) ?_)
    first | (refine dw 6 ?_; first | refine tw (v_l) ?_ | refine tw (v_la) ?_ | refine tw (v_ls) ?_ | refine tw (v_lr) ?_ | refine tw ((v_ge hG)) ?_)
    first | (refine dp 7 ?_; first | refine tp (fun _ => v_p) ?_)
    refine d_e 8 ?_
    refine f_ce (fun w hw => extra_does (f i).pg.g (f i).pg.p (f i).pg.c kd.code (tripsOf kd.data) p1 c1 w (tripsOf_length _) (by omega) ⟨hx.sl.now hw, hx.nil, hx.le⟩ (sl_of_row hw (by repeat (first | exact List.Mem.head _ | apply List.Mem.tail)))) fun v L' h => ?_
    obtain ⟨q, d, rfl, hL⟩ := h
    refine ⟨?_, ?_⟩
    · first | exact st_n | exact st_l rfl | exact st_s (by repeat (first | exact List.Sublist.refl _ | exact List.nil_sublist _ | exact List.sublist_append_right _ _ | apply List.Sublist.cons_cons | apply List.Sublist.cons))
    first | (refine dp 9 ?_; first | refine tp (fun _ => v_p) ?_)
    first | (refine dp 10 ?_; first | refine tp (fun _ => v_f) ?_)
    refine d_e 11 ?_
    first | refine f_st (hl := mc_spl (k := i) hi (by rw [pgC_length]; omega) (mg_sPage (x := ⟨extG (f i).pg.g kd.code (tripsOf kd.data), q, d⟩) rfl) rfl) (hc := pgC_length _ _ _) (hp := pgC_plain _ _ _) (hr := mcb (by omega)) ⟨?_, ?_⟩ | refine f_st ⟨?_, ?_⟩
    · first | exact st_n | exact st_l rfl | exact st_s (by repeat (first | exact List.Sublist.refl _ | exact List.nil_sublist _ | exact List.sublist_append_right _ _ | apply List.Sublist.cons_cons | apply List.Sublist.cons))
    refine d_z ?_
    dsimp only
    repeat (first | refine r_seq ?_ | refine ri_seq ?_ | refine ri_region ?_ | refine ri_skip ?_ | refine ri_block ?_ | refine xi_ ?_ | refine r_nil ?_ | refine r_region ?_ | refine r_skip ?_ | refine r_block ?_ | refine r_inBlock ?_ | refine x_ ?_ | refine w_ v_p ?_ | refine w_ v_cv ?_ | refine w_ v_and ?_ | refine w_ v_or ?_ | refine w_ v_f ?_ | refine w_ v_b ?_ | refine w_ v_r ?_ | refine w_ v_i ?_ | refine w_ v_a ?_ | refine w_ v_l ?_ | refine w_ v_la ?_ | refine w_ v_ls ?_ | refine w_ v_lr ?_ | refine w_ v_ln ?_ | refine w_ v_bd ?_ | refine w_ v_ba ?_ | refine w_ v_mf ?_ | refine w_ v_sap ?_ | refine w_ v_pkf ?_ | refine w_ v_pkt ?_ | refine w_ v_nl ?_ | refine w_ v_nn ?_ | refine e_ (f_st ?_) | refine e_ (f_al fun _ => ?_) | refine e_ (f_bx fun _ => ?_))
    exact t2 (.cons _ (.cons _ (.cons _ (.cons_cons _ (List.Sublist.refl _))))) ⟨rfl, ⟨_, q, d⟩, L', rfl, .inr hL, rfl⟩
  · have hc14 : ¬ kd.code ≤ 14 := by
      have : decide ((kd.code : Int) ≤ 14) = false := h
      simp only [decide_eq_false_iff_not] at this; omega
    rw [if_neg hc14]
    repeat (first | refine r_seq ?_ | refine ri_seq ?_ | refine ri_region ?_ | refine ri_skip ?_ | refine ri_block ?_ | refine xi_ ?_ | refine r_nil ?_ | refine r_region ?_ | refine r_skip ?_ | refine r_block ?_ | refine r_inBlock ?_ | refine x_ ?_ | refine w_ v_p ?_ | refine w_ v_cv ?_ | refine w_ v_and ?_ | refine w_ v_or ?_ | refine w_ v_f ?_ | refine w_ v_b ?_ | refine w_ v_r ?_ | refine w_ v_i ?_ | refine w_ v_a ?_ | refine w_ v_l ?_ | refine w_ v_la ?_ | refine w_ v_ls ?_ | refine w_ v_lr ?_ | refine w_ v_ln ?_ | refine w_ v_bd ?_ | refine w_ v_ba ?_ | refine w_ v_mf ?_ | refine w_ v_sap ?_ | refine w_ v_pkf ?_ | refine w_ v_pkt ?_ | refine w_ v_nl ?_ | refine w_ v_nn ?_ | refine e_ (f_st ?_) | refine e_ (f_al fun _ => ?_) | refine e_ (f_bx fun _ => ?_))
    refine t2 (.cons _ (.cons _ (.cons _ (.cons_cons _ (List.nil_sublist _))))) ⟨rfl, (f i).pg, [], rfl, .inl ⟨rfl, rfl, rfl, rfl⟩, ?_⟩
    rw [show ({ f i with pg := (f i).pg } : Mg) = f i from rfl, updF_self]

theorem linked_does (E : Nat → Value) (kd : Pk) (bm bs i : Nat) (f : Nat → Mg) (inf : Inf) (told : Bool) (p : Option Addr) (c m : Nat) (w : World) (hi : i < 9) (hG : Glob w [bm] E) (hk : kd.kind = 4) (hmg : kd.mag < 2 ^ 32) (hm : kd.data.length = m)
    (hw : (St.mk w [bm] [.cells bm (mcC bs f inf told) 128]).holds w) (hs : Sl w [bm] p m 1 (bys kd.data)) :
    Does Tryz.prog 134 [.pointer (some ⟨bm, 1 + i * 1081, none⟩), .agg (pkC kd.mag kd.row kd.kind kd.code (.slice p m c)).toArray] w [bm] (fun v L => v = .nilIface ∧ PgSet bm bs f inf told i (if kd.code ≠ 0 then (f i).pg.g else { (f i).pg.g with links := linkM kd, linked := true }) L) := by
  refine does_ofM Tryz.func134 rfl rfl hw ?_
  repeat (first | refine e_ (f_bx fun b3 => ?_) | refine r_seq ?_ | refine ri_seq ?_ | refine ri_region ?_ | refine ri_skip ?_ | refine ri_block ?_ | refine xi_ ?_ | refine r_nil ?_ | refine r_region ?_ | refine r_skip ?_ | refine r_block ?_ | refine r_inBlock ?_ | refine x_ ?_ | refine w_ v_p ?_ | refine w_ v_cv ?_ | refine w_ v_and ?_ | refine w_ v_or ?_ | refine w_ v_f ?_ | refine w_ v_b ?_ | refine w_ v_r ?_ | refine w_ v_i ?_ | refine w_ v_a ?_ | refine w_ v_l ?_ | refine w_ v_la ?_ | refine w_ v_ls ?_ | refine w_ v_lr ?_ | refine w_ v_ln ?_ | refine w_ v_bd ?_ | refine w_ v_ba ?_ | refine w_ v_mf ?_ | refine w_ v_sap ?_ | refine w_ v_pkf ?_ | refine w_ v_pkt ?_ | refine w_ v_nl ?_ | refine w_ v_nn ?_ | refine e_ (f_st ?_) | refine e_ (f_al fun _ => ?_) | refine e_ (f_bx fun _ => ?_))
  refine c_ (fun h => ?_) (fun h => ?_)
  · have h' : kd.code ≠ 0 := by simp only [bne_iff_ne, ne_eq] at h; omega
    rw [if_pos h']
    repeat (first | refine r_seq ?_ | refine ri_seq ?_ | refine ri_region ?_ | refine ri_skip ?_ | refine ri_block ?_ | refine xi_ ?_ | refine r_nil ?_ | refine r_region ?_ | refine r_skip ?_ | refine r_block ?_ | refine r_inBlock ?_ | refine x_ ?_ | refine w_ v_p ?_ | refine w_ v_cv ?_ | refine w_ v_and ?_ | refine w_ v_or ?_ | refine w_ v_f ?_ | refine w_ v_b ?_ | refine w_ v_r ?_ | refine w_ v_i ?_ | refine w_ v_a ?_ | refine w_ v_l ?_ | refine w_ v_la ?_ | refine w_ v_ls ?_ | refine w_ v_lr ?_ | refine w_ v_ln ?_ | refine w_ v_bd ?_ | refine w_ v_ba ?_ | refine w_ v_mf ?_ | refine w_ v_sap ?_ | refine w_ v_pkf ?_ | refine w_ v_pkt ?_ | refine w_ v_nl ?_ | refine w_ v_nn ?_ | refine e_ (f_st ?_) | refine e_ (f_al fun _ => ?_) | refine e_ (f_bx fun _ => ?_))
    refine t2 (.cons _ (.cons_cons _ (List.nil_sublist _))) ⟨rfl, (f i).pg, [], rfl, .inl ⟨rfl, rfl, rfl, rfl⟩, ?_⟩
    rw [show ({ f i with pg := (f i).pg } : Mg) = f i from rfl, updF_self]
  · have h' : ¬ kd.code ≠ 0 := by simp only [bne_eq_false_iff_eq] at h; omega
    rw [if_neg h']
    repeat (first | refine r_seq ?_ | refine ri_seq ?_ | refine ri_region ?_ | refine ri_skip ?_ | refine ri_block ?_ | refine xi_ ?_ | refine r_nil ?_ | refine r_region ?_ | refine r_skip ?_ | refine r_block ?_ | refine r_inBlock ?_ | refine x_ ?_ | refine w_ v_p ?_ | refine w_ v_cv ?_ | refine w_ v_and ?_ | refine w_ v_or ?_ | refine w_ v_f ?_ | refine w_ v_b ?_ | refine w_ v_r ?_ | refine w_ v_i ?_ | refine w_ v_a ?_ | refine w_ v_l ?_ | refine w_ v_la ?_ | refine w_ v_ls ?_ | refine w_ v_lr ?_ | refine w_ v_ln ?_ | refine w_ v_bd ?_ | refine w_ v_ba ?_ | refine w_ v_mf ?_ | refine w_ v_sap ?_ | refine w_ v_pkf ?_ | refine w_ v_pkt ?_ | refine w_ v_nl ?_ | refine w_ v_nn ?_ | refine e_ (f_st ?_) | refine e_ (f_al fun _ => ?_) | refine e_ (f_bx fun _ => ?_))
    refine e_ (f_c (fun w hw => linksRead_does E kd p c m w (hG.now hw) hmg hm (hs.now hw)) fun v L' h => ?_)
    have hl : linksM kd = some (linkM kd) := by rw [linksM, if_neg (by omega)]
    simp only [LinkR, hl] at h
    obtain ⟨rfl, rfl⟩ := h
    repeat (first | refine e_ (f_al fun b5 => ?_) | refine e_ (f_st (hl := splice_all (l := linksC fun _ => pl0) (vs := linksC (linkM kd)) rfl) (hc := linksC_length _) (hp := linksC_plain _) ?_) | refine w_ (v_la (hv := sub_all (linksC_length _))) ?_ | refine r_seq ?_ | refine ri_seq ?_ | refine ri_region ?_ | refine ri_skip ?_ | refine ri_block ?_ | refine xi_ ?_ | refine r_nil ?_ | refine r_region ?_ | refine r_skip ?_ | refine r_block ?_ | refine r_inBlock ?_ | refine x_ ?_ | refine w_ v_p ?_ | refine w_ v_cv ?_ | refine w_ v_and ?_ | refine w_ v_or ?_ | refine w_ v_f ?_ | refine w_ v_b ?_ | refine w_ v_r ?_ | refine w_ v_i ?_ | refine w_ v_a ?_ | refine w_ v_l ?_ | refine w_ v_la ?_ | refine w_ v_ls ?_ | refine w_ v_lr ?_ | refine w_ v_ln ?_ | refine w_ v_bd ?_ | refine w_ v_ba ?_ | refine w_ v_mf ?_ | refine w_ v_sap ?_ | refine w_ v_pkf ?_ | refine w_ v_pkt ?_ | refine w_ v_nl ?_ | refine w_ v_nn ?_ | refine e_ (f_st ?_) | refine e_ (f_al fun _ => ?_) | refine e_ (f_bx fun _ => ?_))
    refine c_ (t := true) (fun _ => ?_) (fun h => by cases h)
    repeat (first | refine w_ (v_la (hv := sub_all (linksC_length _))) ?_ | refine e_ (f_st (vs := linksC (linkM kd)) (hl := mc_spl (k := i) hi (by rw [linksC_length]; omega) (mg_sPg (x := ⟨{ (f i).pg.g with links := linkM kd }, (f i).pg.p, (f i).pg.c⟩) (j := 1041) (pg_sLinks rfl) (by rw [linksC_length]; omega) rfl) (by omega)) (hc := linksC_length _) (hp := linksC_plain _) (hr := mcb (by omega)) ?_) | refine e_ (f_st (vs := [.bool true]) (hl := mc_spl (k := i) hi (by simp) (mg_sPg (x := ⟨{ (f i).pg.g with links := linkM kd, linked := true }, (f i).pg.p, (f i).pg.c⟩) (j := 1059) (by rw [updF_same]; exact pg_sLinked rfl) (by simp) rfl) (by omega)) (hr := mcb (by omega)) ?_) | refine r_seq ?_ | refine ri_seq ?_ | refine ri_region ?_ | refine ri_skip ?_ | refine ri_block ?_ | refine xi_ ?_ | refine r_nil ?_ | refine r_region ?_ | refine r_skip ?_ | refine r_block ?_ | refine r_inBlock ?_ | refine x_ ?_ | refine w_ v_p ?_ | refine w_ v_cv ?_ | refine w_ v_and ?_ | refine w_ v_or ?_ | refine w_ v_f ?_ | refine w_ v_b ?_ | refine w_ v_r ?_ | refine w_ v_i ?_ | refine w_ v_a ?_ | refine w_ v_l ?_ | refine w_ v_la ?_ | refine w_ v_ls ?_ | refine w_ v_lr ?_ | refine w_ v_ln ?_ | refine w_ v_bd ?_ | refine w_ v_ba ?_ | refine w_ v_mf ?_ | refine w_ v_sap ?_ | refine w_ v_pkf ?_ | refine w_ v_pkt ?_ | refine w_ v_nl ?_ | refine w_ v_nn ?_ | refine e_ (f_st ?_) | refine e_ (f_al fun _ => ?_) | refine e_ (f_bx fun _ => ?_))
    rw [updF_twice, updF_same]
    exact t2 (.cons _ (.cons _ (.cons_cons _ (List.nil_sublist _)))) ⟨rfl, ⟨{ (f i).pg.g with links := linkM kd, linked := true }, (f i).pg.p, (f i).pg.c⟩, [], rfl, .inl ⟨rfl, rfl, rfl, rfl⟩, rfl⟩
end Go.Proofs

namespace Go.Proofs
open Go.Cf
set_option maxRecDepth 10000

theorem r_pl {P : Program} {n : Nat} {Q : Exit → Act → World → Prop} {k : List It} {f : Nat → Value} {σ : Bd} {w0 : World} {F : List Nat} {L L1 L2 : Hp} (hL : L2.Sublist L) (hp : L1.Perm L2) (h : Wk P n Q k f σ ⟨w0, F, L1⟩) : Wk P n Q k f σ ⟨w0, F, L⟩ :=
  fun a w hr hs => h a w hr ((hs.sub hL).perm hp.symm)

theorem PgSet.mok {K : Pool} {M : Mp} {l : List Pp} {i : Nat} {g : Pg} {L0 : Hp} (hM : MOk K M l) (hz : K.p3 .none 0 []) (hle : g.extra.length ≤ 100000) (h : PgSet M.bm M.st.bs M.f M.inf M.told i g L0) :
    ∃ M' R, L0 = .cells M.bm (mcC M'.st.bs M'.f M'.inf M'.told) 128 :: R ∧ M'.bm = M.bm ∧ M'.st = M.st ∧ MOk (K.add R) M' l ∧ absM M' l = setPg (absM M l) i g := by
  obtain ⟨x, R, rfl, hx, rfl⟩ := h
  refine ⟨{ M with f := updF M.f i { M.f i with pg := x } }, R, rfl, rfl, rfl, ⟨hM.len, hM.most, hM.ok, hM.kv, fun y hy => .inl (hM.pgs y hy), ?_, ?_, ?_⟩, ?_⟩
  · refine upd_all (P := fun m : Mg => (K.add R).p3 m.pg.p m.pg.c m.pg.g.extra) (fun j => .inl (hM.mgs j)) ?_
    rcases hx with ⟨h1, h2, h3, rfl⟩ | hx
    · refine .inl ?_
      show K.p3 x.p x.c x.g.extra
      rw [h1, h2, h3]; exact hM.mgs i
    · exact Pool.ex hz hle hx
  · exact upd_all (P := fun m : Mg => (K.add R).p1 m.tp m.tc m.text) (fun j => .inl (hM.txt j)) (.inl (hM.txt i))
  · exact upd_all (P := fun m : Mg => m.region < 16) hM.reg (hM.reg i)
  · simp only [absM, setPg, abs_upd]; rfl

theorem region_lt {k : Pk} {r : Nat} (h : regionM k = some r) : r < 16 := by
  rw [regionM] at h
  split at h
  · cases h
  · split at h
    · cases h
    · split at h
      · cases h
      · cases h; omega

/-- What 'inside' hands back. -/
def InR (K : Pool) (bm : Nat) (m : Mach) (v : Value) (L : Hp) : Prop := v = .nilIface ∧ ∃ M' l' R, L = mpL M' ++ R ∧ MOk (K.add R) M' l' ∧ M'.bm = bm ∧ absM M' l' = m

theorem InR.same {K : Pool} {M : Mp} {l : List Pp} (hM : MOk K M l) : InR K M.bm (absM M l) .nilIface (mpL M) :=
  ⟨rfl, M, l, [], by simp, hM.mono (fun _ _ _ h => .inl h) (fun _ _ _ h => .inl h), rfl, rfl⟩

theorem InR.set {K : Pool} {M : Mp} {l : List Pp} {i : Nat} {g : Pg} {L0 : Hp} (hM : MOk K M l) (hz : K.p3 .none 0 []) (hle : g.extra.length ≤ 100000) (h : PgSet M.bm M.st.bs M.f M.inf M.told i g L0) :
    ∃ L1, L1.Perm (L0 ++ spL M.st) ∧ InR K M.bm (setPg (absM M l) i g) .nilIface L1 := by
  obtain ⟨M', R, rfl, hb, hst, hok, ha⟩ := h.mok hM hz hle
  refine ⟨mpL M' ++ R, ?_, rfl, M', l, R, rfl, hok, hb, ha⟩
  rw [mpL, hst, hb]
  refine List.Perm.cons _ ?_
  exact List.perm_append_comm

theorem inside_does (E : Nat → Value) (K : Pool) (M : Mp) (l : List Pp) (kd : Pk) (p : Option Addr) (c m : Nat) (w : World) (hM : MOk K M l) (hw : (St.mk w (blks (mpL M)) (mpL M)).holds w) (hK : PoolAt K w (blks (mpL M))) (hG : Glob w (blks (mpL M)) E)
    (hmg : 1 ≤ kd.mag ∧ kd.mag ≤ 8) (hrow : kd.row < 100) (hcd : kd.code < 16) (hm : kd.data.length = m) (hs : Sl w (blks (mpL M)) p m 1 (bys kd.data)) :
    Does Tryz.prog 62 [.pointer (some ⟨M.bm, 0, none⟩), .agg (pkC kd.mag kd.row kd.kind kd.code (.slice p m c)).toArray] w (blks (mpL M)) (InR K M.bm (insideM (absM M l) kd).1) := by
  refine does_ofM Tryz.func62 rfl rfl hw ?_
  have hi : kd.mag < 9 := by omega
  generalize hFF : blks (mpL M) = FF at hw hK hG hs ⊢
  repeat (first | refine e_ (f_bx fun b3 => ?_) | refine r_seq ?_ | refine ri_seq ?_ | refine ri_region ?_ | refine ri_skip ?_ | refine ri_block ?_ | refine xi_ ?_ | refine r_nil ?_ | refine r_region ?_ | refine r_skip ?_ | refine r_block ?_ | refine r_inBlock ?_ | refine x_ ?_ | refine w_ v_p ?_ | refine w_ v_cv ?_ | refine w_ v_and ?_ | refine w_ v_or ?_ | refine w_ v_f ?_ | refine w_ v_b ?_ | refine w_ v_r ?_ | refine w_ v_i ?_ | refine w_ v_a ?_ | refine w_ v_l ?_ | refine w_ v_la ?_ | refine w_ v_ls ?_ | refine w_ v_lr ?_ | refine w_ v_ln ?_ | refine w_ v_bd ?_ | refine w_ v_ba ?_ | refine w_ v_mf ?_ | refine w_ v_sap ?_ | refine w_ v_pkf ?_ | refine w_ v_pkt ?_ | refine w_ v_nl ?_ | refine w_ v_nn ?_ | refine e_ (f_st ?_) | refine e_ (f_al fun _ => ?_) | refine e_ (f_bx fun _ => ?_))
  repeat refine r_seq ?_
  refine d_all [] ?_
  first | (refine dp 0 ?_; first | refine tp (fun _ => v_p) ?_)
  first | (refine dp 1 ?_; first | refine tp (fun _ => v_f) ?_)
  first | (refine dw 2 ?_; first | refine tw (v_l) ?_ | refine tw (v_la) ?_ | refine tw (v_ls) ?_ | refine tw (v_lr) ?_ | refine tw ((v_ge hG)) ?_)
  first | (refine dp 3 ?_; first | refine tp (fun _ => v_p) ?_)
  first | (refine dp 4 ?_; first | refine tp (fun _ => v_f) ?_)
  first | (refine dp 5 ?_; first | refine tp (fun _ => v_a) ?_ | refine tp (fun _ => v_i) ?_) | (refine dw 5 ?_; first | refine tw (v_b) ?_ | refine tw (v_r) ?_)
  first | (refine dp 6 ?_; first | refine tp (fun _ => v_p) ?_)
  refine d_z ?_
  repeat (first | refine w_ (v_l (hv := mc_get (k := kd.mag) hi (by omega) (mg_open rfl) (by omega))) ?_ | refine r_seq ?_ | refine ri_seq ?_ | refine ri_region ?_ | refine ri_skip ?_ | refine ri_block ?_ | refine xi_ ?_ | refine r_nil ?_ | refine r_region ?_ | refine r_skip ?_ | refine r_block ?_ | refine r_inBlock ?_ | refine x_ ?_ | refine w_ v_p ?_ | refine w_ v_cv ?_ | refine w_ v_and ?_ | refine w_ v_or ?_ | refine w_ v_f ?_ | refine w_ v_b ?_ | refine w_ v_r ?_ | refine w_ v_i ?_ | refine w_ v_a ?_ | refine w_ v_l ?_ | refine w_ v_la ?_ | refine w_ v_ls ?_ | refine w_ v_lr ?_ | refine w_ v_ln ?_ | refine w_ v_bd ?_ | refine w_ v_ba ?_ | refine w_ v_mf ?_ | refine w_ v_sap ?_ | refine w_ v_pkf ?_ | refine w_ v_pkt ?_ | refine w_ v_nl ?_ | refine w_ v_nn ?_ | refine e_ (f_st ?_) | refine e_ (f_al fun _ => ?_) | refine e_ (f_bx fun _ => ?_))
  have hgo : ((absM M l).mg kd.mag).opn = (M.f kd.mag).opn := rfl
  have hpg : ((absM M l).mg kd.mag).pg = (M.f kd.mag).pg.g := rfl
  refine c_ (fun h => ?_) (fun h => ?_)
  · have ho : ¬ ((absM M l).mg kd.mag).opn = true := by rw [hgo]; simpa using h
    rw [insideM, if_neg ho]
    repeat (first | refine r_seq ?_ | refine ri_seq ?_ | refine ri_region ?_ | refine ri_skip ?_ | refine ri_block ?_ | refine xi_ ?_ | refine r_nil ?_ | refine r_region ?_ | refine r_skip ?_ | refine r_block ?_ | refine r_inBlock ?_ | refine x_ ?_ | refine w_ v_p ?_ | refine w_ v_cv ?_ | refine w_ v_and ?_ | refine w_ v_or ?_ | refine w_ v_f ?_ | refine w_ v_b ?_ | refine w_ v_r ?_ | refine w_ v_i ?_ | refine w_ v_a ?_ | refine w_ v_l ?_ | refine w_ v_la ?_ | refine w_ v_ls ?_ | refine w_ v_lr ?_ | refine w_ v_ln ?_ | refine w_ v_bd ?_ | refine w_ v_ba ?_ | refine w_ v_mf ?_ | refine w_ v_sap ?_ | refine w_ v_pkf ?_ | refine w_ v_pkt ?_ | refine w_ v_nl ?_ | refine w_ v_nn ?_ | refine e_ (f_st ?_) | refine e_ (f_al fun _ => ?_) | refine e_ (f_bx fun _ => ?_))
    exact t2 (vs := [.nilIface]) (.cons _ (List.Sublist.refl _)) (InR.same hM)
  · have ho : ((absM M l).mg kd.mag).opn = true := by rw [hgo]; simpa using h
    rw [insideM, if_pos ho, hpg]
    have hx := hK.p3 _ _ _ (hM.mgs kd.mag)
    repeat (first | refine r_seq ?_ | refine ri_seq ?_ | refine ri_region ?_ | refine ri_skip ?_ | refine ri_block ?_ | refine xi_ ?_ | refine r_nil ?_ | refine r_region ?_ | refine r_skip ?_ | refine r_block ?_ | refine r_inBlock ?_ | refine x_ ?_ | refine w_ v_p ?_ | refine w_ v_cv ?_ | refine w_ v_and ?_ | refine w_ v_or ?_ | refine w_ v_f ?_ | refine w_ v_b ?_ | refine w_ v_r ?_ | refine w_ v_i ?_ | refine w_ v_a ?_ | refine w_ v_l ?_ | refine w_ v_la ?_ | refine w_ v_ls ?_ | refine w_ v_lr ?_ | refine w_ v_ln ?_ | refine w_ v_bd ?_ | refine w_ v_ba ?_ | refine w_ v_mf ?_ | refine w_ v_sap ?_ | refine w_ v_pkf ?_ | refine w_ v_pkt ?_ | refine w_ v_nl ?_ | refine w_ v_nn ?_ | refine e_ (f_st ?_) | refine e_ (f_al fun _ => ?_) | refine e_ (f_bx fun _ => ?_))
    refine c_ (fun h2 => ?_) (fun h2 => ?_)
    · have hk : kd.kind = 2 := by simp only [beq_iff_eq] at h2; omega
      rw [if_pos hk]
      have hex : (rowG (M.f kd.mag).pg.g kd.row kd.data).extra = (M.f kd.mag).pg.g.extra := by rw [rowG]; split <;> rfl
      repeat refine r_seq ?_
      refine d_in ([.cells b3 (pkC kd.mag kd.row kd.kind kd.code (.slice p m c)) 130, .cells M.bm (mcC M.st.bs M.f M.inf M.told) 128]) [12] ?_
      first | (refine dp 0 ?_; first | refine tp (fun _ => v_p) ?_)
      first | (refine dp 1 ?_; first | refine tp (fun _ => v_p) ?_)
      first | (refine dp 2 ?_; first | refine tp (fun _ => v_p) ?_)
      first | (refine dp 3 ?_; first | refine tp (fun _ => v_f) ?_)
      first | (refine dw 4 ?_; first | refine tw (v_la (hv := mc_sub (k := kd.mag) hi (by omega) (mg_page rfl) (by omega))) ?_ | refine tw (v_l) ?_ | refine tw (v_la) ?_ | refine tw (v_ls) ?_ | refine tw (v_lr) ?_ | refine tw ((v_ge hG)) ?_)
      first | (refine dp 5 ?_; first | refine tp (fun _ => v_f) ?_)
      first | (refine dw 6 ?_; first | refine tw (v_l) ?_ | refine tw (v_la) ?_ | refine tw (v_ls) ?_ | refine tw (v_lr) ?_ | refine tw ((v_ge hG)) ?_)
      first | (refine dp 7 ?_; first | refine tp (fun _ => v_f) ?_)
      first | (refine dw 8 ?_; first | refine tw (v_l) ?_ | refine tw (v_la) ?_ | refine tw (v_ls) ?_ | refine tw (v_lr) ?_ | refine tw ((v_ge hG)) ?_)
      refine d_e 9 ?_
      refine f_ce (fun w hw => row_does (M.f kd.mag).pg.g (M.f kd.mag).pg.p (M.f kd.mag).pg.c kd.row kd.data p m c w hm hrow ⟨hx.sl.now hw, hx.nil, hx.le⟩ (hs.now hw)) fun v L' h => ?_
      obtain ⟨q, d, rfl, hL⟩ := h
      refine ⟨?_, ?_⟩
      · first | exact st_n | exact st_l rfl | exact st_s (by repeat (first | exact List.Sublist.refl _ | exact List.nil_sublist _ | exact List.sublist_append_right _ _ | apply List.Sublist.cons_cons | apply List.Sublist.cons))
      first | (refine dp 10 ?_; first | refine tp (fun _ => v_p) ?_)
      first | (refine dp 11 ?_; first | refine tp (fun _ => v_f) ?_)
      refine d_e 12 ?_
      first | refine f_st (hl := mc_spl (k := kd.mag) hi (by rw [pgC_length]; omega) (mg_sPage (x := ⟨rowG (M.f kd.mag).pg.g kd.row kd.data, q, d⟩) rfl) (by omega)) (hc := pgC_length _ _ _) (hp := pgC_plain _ _ _) (hr := mcb (by simp; omega)) ⟨?_, ?_⟩ | refine f_st ⟨?_, ?_⟩
      · first | exact st_n | exact st_l rfl | exact st_s (by repeat (first | exact List.Sublist.refl _ | exact List.nil_sublist _ | exact List.sublist_append_right _ _ | apply List.Sublist.cons_cons | apply List.Sublist.cons))
      refine d_z ?_
      dsimp only
      repeat (first | refine r_seq ?_ | refine ri_seq ?_ | refine ri_region ?_ | refine ri_skip ?_ | refine ri_block ?_ | refine xi_ ?_ | refine r_nil ?_ | refine r_region ?_ | refine r_skip ?_ | refine r_block ?_ | refine r_inBlock ?_ | refine x_ ?_ | refine w_ v_p ?_ | refine w_ v_cv ?_ | refine w_ v_and ?_ | refine w_ v_or ?_ | refine w_ v_f ?_ | refine w_ v_b ?_ | refine w_ v_r ?_ | refine w_ v_i ?_ | refine w_ v_a ?_ | refine w_ v_l ?_ | refine w_ v_la ?_ | refine w_ v_ls ?_ | refine w_ v_lr ?_ | refine w_ v_ln ?_ | refine w_ v_bd ?_ | refine w_ v_ba ?_ | refine w_ v_mf ?_ | refine w_ v_sap ?_ | refine w_ v_pkf ?_ | refine w_ v_pkt ?_ | refine w_ v_nl ?_ | refine w_ v_nn ?_ | refine e_ (f_st ?_) | refine e_ (f_al fun _ => ?_) | refine e_ (f_bx fun _ => ?_))
      obtain ⟨L1, hp1, hin⟩ := InR.set (i := kd.mag) (g := rowG (M.f kd.mag).pg.g kd.row kd.data) hM hK.z (by rw [hex]; exact hx.le) ⟨⟨rowG (M.f kd.mag).pg.g kd.row kd.data, q, d⟩, L', rfl, .inr hL, rfl⟩
      exact r_pl (.cons _ (List.Sublist.refl _)) (hp1.trans (List.Perm.cons _ List.perm_append_comm)) (t2 (vs := [.nilIface]) (List.Sublist.refl _) hin)
    · have hk2 : ¬ kd.kind = 2 := by simp only [beq_eq_false_iff_ne, ne_eq] at h2; omega
      rw [if_neg hk2]
      repeat (first | refine r_seq ?_ | refine ri_seq ?_ | refine ri_region ?_ | refine ri_skip ?_ | refine ri_block ?_ | refine xi_ ?_ | refine r_nil ?_ | refine r_region ?_ | refine r_skip ?_ | refine r_block ?_ | refine r_inBlock ?_ | refine x_ ?_ | refine w_ v_p ?_ | refine w_ v_cv ?_ | refine w_ v_and ?_ | refine w_ v_or ?_ | refine w_ v_f ?_ | refine w_ v_b ?_ | refine w_ v_r ?_ | refine w_ v_i ?_ | refine w_ v_a ?_ | refine w_ v_l ?_ | refine w_ v_la ?_ | refine w_ v_ls ?_ | refine w_ v_lr ?_ | refine w_ v_ln ?_ | refine w_ v_bd ?_ | refine w_ v_ba ?_ | refine w_ v_mf ?_ | refine w_ v_sap ?_ | refine w_ v_pkf ?_ | refine w_ v_pkt ?_ | refine w_ v_nl ?_ | refine w_ v_nn ?_ | refine e_ (f_st ?_) | refine e_ (f_al fun _ => ?_) | refine e_ (f_bx fun _ => ?_))
      refine c_ (fun h3 => ?_) (fun h3 => ?_)
      · have hk : kd.kind = 3 := by simp only [beq_iff_eq] at h3; omega
        rw [if_pos hk]
        repeat (first | refine r_seq ?_ | refine ri_seq ?_ | refine ri_region ?_ | refine ri_skip ?_ | refine ri_block ?_ | refine xi_ ?_ | refine r_nil ?_ | refine r_region ?_ | refine r_skip ?_ | refine r_block ?_ | refine r_inBlock ?_ | refine x_ ?_ | refine w_ v_p ?_ | refine w_ v_cv ?_ | refine w_ v_and ?_ | refine w_ v_or ?_ | refine w_ v_f ?_ | refine w_ v_b ?_ | refine w_ v_r ?_ | refine w_ v_i ?_ | refine w_ v_a ?_ | refine w_ v_l ?_ | refine w_ v_la ?_ | refine w_ v_ls ?_ | refine w_ v_lr ?_ | refine w_ v_ln ?_ | refine w_ v_bd ?_ | refine w_ v_ba ?_ | refine w_ v_mf ?_ | refine w_ v_sap ?_ | refine w_ v_pkf ?_ | refine w_ v_pkt ?_ | refine w_ v_nl ?_ | refine w_ v_nn ?_ | refine e_ (f_st ?_) | refine e_ (f_al fun _ => ?_) | refine e_ (f_bx fun _ => ?_))
        refine r_ord (M := .cells M.bm (mcC M.st.bs M.f M.inf M.told) 128 :: (spL M.st ++ [.cells b3 (pkC kd.mag kd.row kd.kind kd.code (.slice p m c)) 130])) ?_
        have hF1 : ∀ b, b ∈ [M.bm] → b ∈ blks [En.cells M.bm (mcC M.st.bs M.f M.inf M.told) 128] := fun b hb => hb
        refine e_ (f_cM [.cells M.bm (mcC M.st.bs M.f M.inf M.told) 128] _ (F' := [M.bm]) (List.Perm.refl _) hF1 (fun w2 hw2 => extra2_does E kd M.bm M.st.bs kd.mag M.f M.inf M.told p c m w2 hi (hG.give hw2 (C := [.cells M.bm (mcC M.st.bs M.f M.inf M.told) 128]) (List.Perm.refl _) hF1) hk hcd hm (hw2.give (C := [.cells M.bm (mcC M.st.bs M.f M.inf M.told) 128]) (List.Perm.refl _)) (hs.give hw2 (C := [.cells M.bm (mcC M.st.bs M.f M.inf M.told) 128]) (List.Perm.refl _) hF1) ⟨hx.sl.give hw2 (C := [.cells M.bm (mcC M.st.bs M.f M.inf M.told) 128]) (List.Perm.refl _) hF1, hx.nil, hx.le⟩) fun v L' h => ?_)
        obtain ⟨rfl, hset⟩ := h
        obtain ⟨L1, hp1, hin⟩ := InR.set (i := kd.mag) hM hK.z (by
          split
          · rw [extG]
            split
            · exact hx.le
            · have := extE_length (M.f kd.mag).pg.g.extra kd.code (tripsOf kd.data) (tripsOf_length _)
              rw [padT_length] at this
              have := hx.le
              show (extE (M.f kd.mag).pg.g.extra kd.code (tripsOf kd.data)).length ≤ 100000
              omega
          · exact hx.le) hset
        have hm1 : (if kd.code ≤ 14 then setPg (absM M l) kd.mag (extG (M.f kd.mag).pg.g kd.code (tripsOf kd.data)) else absM M l) = setPg (absM M l) kd.mag (if kd.code ≤ 14 then extG (M.f kd.mag).pg.g kd.code (tripsOf kd.data) else (M.f kd.mag).pg.g) := by
          split
          · rfl
          · show absM M l = { absM M l with mg := updF (absM M l).mg kd.mag ((absM M l).mg kd.mag) }
            rw [updF_self]
        rw [hm1]
        repeat (first | refine r_seq ?_ | refine ri_seq ?_ | refine ri_region ?_ | refine ri_skip ?_ | refine ri_block ?_ | refine xi_ ?_ | refine r_nil ?_ | refine r_region ?_ | refine r_skip ?_ | refine r_block ?_ | refine r_inBlock ?_ | refine x_ ?_ | refine w_ v_p ?_ | refine w_ v_cv ?_ | refine w_ v_and ?_ | refine w_ v_or ?_ | refine w_ v_f ?_ | refine w_ v_b ?_ | refine w_ v_r ?_ | refine w_ v_i ?_ | refine w_ v_a ?_ | refine w_ v_l ?_ | refine w_ v_la ?_ | refine w_ v_ls ?_ | refine w_ v_lr ?_ | refine w_ v_ln ?_ | refine w_ v_bd ?_ | refine w_ v_ba ?_ | refine w_ v_mf ?_ | refine w_ v_sap ?_ | refine w_ v_pkf ?_ | refine w_ v_pkt ?_ | refine w_ v_nl ?_ | refine w_ v_nn ?_ | refine e_ (f_st ?_) | refine e_ (f_al fun _ => ?_) | refine e_ (f_bx fun _ => ?_))
        exact r_pl (L2 := L' ++ spL M.st) (List.Sublist.append (List.Sublist.refl _) (List.sublist_append_left _ _)) hp1 (t2 (L' := L1) (vs := [.nilIface]) (List.Sublist.refl _) hin)
      · have hk3 : ¬ kd.kind = 3 := by simp only [beq_eq_false_iff_ne, ne_eq] at h3; omega
        rw [if_neg hk3]
        repeat (first | refine r_seq ?_ | refine ri_seq ?_ | refine ri_region ?_ | refine ri_skip ?_ | refine ri_block ?_ | refine xi_ ?_ | refine r_nil ?_ | refine r_region ?_ | refine r_skip ?_ | refine r_block ?_ | refine r_inBlock ?_ | refine x_ ?_ | refine w_ v_p ?_ | refine w_ v_cv ?_ | refine w_ v_and ?_ | refine w_ v_or ?_ | refine w_ v_f ?_ | refine w_ v_b ?_ | refine w_ v_r ?_ | refine w_ v_i ?_ | refine w_ v_a ?_ | refine w_ v_l ?_ | refine w_ v_la ?_ | refine w_ v_ls ?_ | refine w_ v_lr ?_ | refine w_ v_ln ?_ | refine w_ v_bd ?_ | refine w_ v_ba ?_ | refine w_ v_mf ?_ | refine w_ v_sap ?_ | refine w_ v_pkf ?_ | refine w_ v_pkt ?_ | refine w_ v_nl ?_ | refine w_ v_nn ?_ | refine e_ (f_st ?_) | refine e_ (f_al fun _ => ?_) | refine e_ (f_bx fun _ => ?_))
        refine c_ (fun h4 => ?_) (fun h4 => ?_)
        · have hk : kd.kind = 4 := by simp only [beq_iff_eq] at h4; omega
          rw [if_pos hk]
          repeat (first | refine r_seq ?_ | refine ri_seq ?_ | refine ri_region ?_ | refine ri_skip ?_ | refine ri_block ?_ | refine xi_ ?_ | refine r_nil ?_ | refine r_region ?_ | refine r_skip ?_ | refine r_block ?_ | refine r_inBlock ?_ | refine x_ ?_ | refine w_ v_p ?_ | refine w_ v_cv ?_ | refine w_ v_and ?_ | refine w_ v_or ?_ | refine w_ v_f ?_ | refine w_ v_b ?_ | refine w_ v_r ?_ | refine w_ v_i ?_ | refine w_ v_a ?_ | refine w_ v_l ?_ | refine w_ v_la ?_ | refine w_ v_ls ?_ | refine w_ v_lr ?_ | refine w_ v_ln ?_ | refine w_ v_bd ?_ | refine w_ v_ba ?_ | refine w_ v_mf ?_ | refine w_ v_sap ?_ | refine w_ v_pkf ?_ | refine w_ v_pkt ?_ | refine w_ v_nl ?_ | refine w_ v_nn ?_ | refine e_ (f_st ?_) | refine e_ (f_al fun _ => ?_) | refine e_ (f_bx fun _ => ?_))
          refine r_ord (M := .cells M.bm (mcC M.st.bs M.f M.inf M.told) 128 :: (spL M.st ++ [.cells b3 (pkC kd.mag kd.row kd.kind kd.code (.slice p m c)) 130])) ?_
          have hF1 : ∀ b, b ∈ [M.bm] → b ∈ blks [En.cells M.bm (mcC M.st.bs M.f M.inf M.told) 128] := fun b hb => hb
          refine e_ (f_cM [.cells M.bm (mcC M.st.bs M.f M.inf M.told) 128] _ (F' := [M.bm]) (List.Perm.refl _) hF1 (fun w2 hw2 => linked_does E kd M.bm M.st.bs kd.mag M.f M.inf M.told p c m w2 hi (hG.give hw2 (C := [.cells M.bm (mcC M.st.bs M.f M.inf M.told) 128]) (List.Perm.refl _) hF1) hk (by omega) hm (hw2.give (C := [.cells M.bm (mcC M.st.bs M.f M.inf M.told) 128]) (List.Perm.refl _)) (hs.give hw2 (C := [.cells M.bm (mcC M.st.bs M.f M.inf M.told) 128]) (List.Perm.refl _) hF1)) fun v L' h => ?_)
          obtain ⟨rfl, hset⟩ := h
          obtain ⟨L1, hp1, hin⟩ := InR.set (i := kd.mag) hM hK.z (by split <;> exact hx.le) hset
          have hm1 : (if kd.code ≠ 0 then absM M l else setPg (absM M l) kd.mag { (M.f kd.mag).pg.g with links := linkM kd, linked := true }) = setPg (absM M l) kd.mag (if kd.code ≠ 0 then (M.f kd.mag).pg.g else { (M.f kd.mag).pg.g with links := linkM kd, linked := true }) := by
            split
            · show absM M l = { absM M l with mg := updF (absM M l).mg kd.mag ((absM M l).mg kd.mag) }
              rw [updF_self]
            · rfl
          rw [hm1]
          repeat (first | refine r_seq ?_ | refine ri_seq ?_ | refine ri_region ?_ | refine ri_skip ?_ | refine ri_block ?_ | refine xi_ ?_ | refine r_nil ?_ | refine r_region ?_ | refine r_skip ?_ | refine r_block ?_ | refine r_inBlock ?_ | refine x_ ?_ | refine w_ v_p ?_ | refine w_ v_cv ?_ | refine w_ v_and ?_ | refine w_ v_or ?_ | refine w_ v_f ?_ | refine w_ v_b ?_ | refine w_ v_r ?_ | refine w_ v_i ?_ | refine w_ v_a ?_ | refine w_ v_l ?_ | refine w_ v_la ?_ | refine w_ v_ls ?_ | refine w_ v_lr ?_ | refine w_ v_ln ?_ | refine w_ v_bd ?_ | refine w_ v_ba ?_ | refine w_ v_mf ?_ | refine w_ v_sap ?_ | refine w_ v_pkf ?_ | refine w_ v_pkt ?_ | refine w_ v_nl ?_ | refine w_ v_nn ?_ | refine e_ (f_st ?_) | refine e_ (f_al fun _ => ?_) | refine e_ (f_bx fun _ => ?_))
          exact r_pl (L2 := L' ++ spL M.st) (List.Sublist.append (List.Sublist.refl _) (List.sublist_append_left _ _)) hp1 (t2 (L' := L1) (vs := [.nilIface]) (List.Sublist.refl _) hin)
        · have hk4 : ¬ kd.kind = 4 := by simp only [beq_eq_false_iff_ne, ne_eq] at h4; omega
          rw [if_neg hk4]
          repeat (first | refine r_seq ?_ | refine ri_seq ?_ | refine ri_region ?_ | refine ri_skip ?_ | refine ri_block ?_ | refine xi_ ?_ | refine r_nil ?_ | refine r_region ?_ | refine r_skip ?_ | refine r_block ?_ | refine r_inBlock ?_ | refine x_ ?_ | refine w_ v_p ?_ | refine w_ v_cv ?_ | refine w_ v_and ?_ | refine w_ v_or ?_ | refine w_ v_f ?_ | refine w_ v_b ?_ | refine w_ v_r ?_ | refine w_ v_i ?_ | refine w_ v_a ?_ | refine w_ v_l ?_ | refine w_ v_la ?_ | refine w_ v_ls ?_ | refine w_ v_lr ?_ | refine w_ v_ln ?_ | refine w_ v_bd ?_ | refine w_ v_ba ?_ | refine w_ v_mf ?_ | refine w_ v_sap ?_ | refine w_ v_pkf ?_ | refine w_ v_pkt ?_ | refine w_ v_nl ?_ | refine w_ v_nn ?_ | refine e_ (f_st ?_) | refine e_ (f_al fun _ => ?_) | refine e_ (f_bx fun _ => ?_))
          refine c_ (fun h5 => ?_) (fun h5 => ?_)
          · have hk : kd.kind = 5 := by simp only [beq_iff_eq] at h5; omega
            rw [if_pos hk]
            repeat (first | refine r_seq ?_ | refine ri_seq ?_ | refine ri_region ?_ | refine ri_skip ?_ | refine ri_block ?_ | refine xi_ ?_ | refine r_nil ?_ | refine r_region ?_ | refine r_skip ?_ | refine r_block ?_ | refine r_inBlock ?_ | refine x_ ?_ | refine w_ v_p ?_ | refine w_ v_cv ?_ | refine w_ v_and ?_ | refine w_ v_or ?_ | refine w_ v_f ?_ | refine w_ v_b ?_ | refine w_ v_r ?_ | refine w_ v_i ?_ | refine w_ v_a ?_ | refine w_ v_l ?_ | refine w_ v_la ?_ | refine w_ v_ls ?_ | refine w_ v_lr ?_ | refine w_ v_ln ?_ | refine w_ v_bd ?_ | refine w_ v_ba ?_ | refine w_ v_mf ?_ | refine w_ v_sap ?_ | refine w_ v_pkf ?_ | refine w_ v_pkt ?_ | refine w_ v_nl ?_ | refine w_ v_nn ?_ | refine e_ (f_st ?_) | refine e_ (f_al fun _ => ?_) | refine e_ (f_bx fun _ => ?_))
            refine e_ (f_c (fun w hw => region_does kd p c m w hm (hs.now hw)) fun v L' h => ?_)
            obtain ⟨rfl, rfl⟩ := h
            repeat (first | refine r_seq ?_ | refine ri_seq ?_ | refine ri_region ?_ | refine ri_skip ?_ | refine ri_block ?_ | refine xi_ ?_ | refine r_nil ?_ | refine r_region ?_ | refine r_skip ?_ | refine r_block ?_ | refine r_inBlock ?_ | refine x_ ?_ | refine w_ v_p ?_ | refine w_ v_cv ?_ | refine w_ v_and ?_ | refine w_ v_or ?_ | refine w_ v_f ?_ | refine w_ v_b ?_ | refine w_ v_r ?_ | refine w_ v_i ?_ | refine w_ v_a ?_ | refine w_ v_l ?_ | refine w_ v_la ?_ | refine w_ v_ls ?_ | refine w_ v_lr ?_ | refine w_ v_ln ?_ | refine w_ v_bd ?_ | refine w_ v_ba ?_ | refine w_ v_mf ?_ | refine w_ v_sap ?_ | refine w_ v_pkf ?_ | refine w_ v_pkt ?_ | refine w_ v_nl ?_ | refine w_ v_nn ?_ | refine e_ (f_st ?_) | refine e_ (f_al fun _ => ?_) | refine e_ (f_bx fun _ => ?_))
            cases hr : regionM kd with
            | none =>
              refine c_ (t := false) (fun h => by cases h) (fun _ => ?_)
              repeat (first | refine r_seq ?_ | refine ri_seq ?_ | refine ri_region ?_ | refine ri_skip ?_ | refine ri_block ?_ | refine xi_ ?_ | refine r_nil ?_ | refine r_region ?_ | refine r_skip ?_ | refine r_block ?_ | refine r_inBlock ?_ | refine x_ ?_ | refine w_ v_p ?_ | refine w_ v_cv ?_ | refine w_ v_and ?_ | refine w_ v_or ?_ | refine w_ v_f ?_ | refine w_ v_b ?_ | refine w_ v_r ?_ | refine w_ v_i ?_ | refine w_ v_a ?_ | refine w_ v_l ?_ | refine w_ v_la ?_ | refine w_ v_ls ?_ | refine w_ v_lr ?_ | refine w_ v_ln ?_ | refine w_ v_bd ?_ | refine w_ v_ba ?_ | refine w_ v_mf ?_ | refine w_ v_sap ?_ | refine w_ v_pkf ?_ | refine w_ v_pkt ?_ | refine w_ v_nl ?_ | refine w_ v_nn ?_ | refine e_ (f_st ?_) | refine e_ (f_al fun _ => ?_) | refine e_ (f_bx fun _ => ?_))
              exact t2 (vs := [.nilIface]) (.cons _ (List.Sublist.refl _)) (InR.same hM)
            | some r =>
              refine c_ (t := true) (fun _ => ?_) (fun h => by cases h)
              have hr16 := region_lt hr
              dsimp only [Option.getD_some]
              have hz : (1 : Int) + (r : Int) = ((1 + r : Nat) : Int) := by omega
              repeat (first | refine e_ (f_st (hl := mc_spl (k := kd.mag) hi (by simp) (mg_sPg (x := ⟨{ (M.f kd.mag).pg.g with dflt := 1 + r }, (M.f kd.mag).pg.p, (M.f kd.mag).pg.c⟩) (j := 1060) (pg_sDflt hz rfl) (by simp) rfl) (by omega)) (hr := mcb (by simp; omega)) ?_) | refine r_seq ?_ | refine ri_seq ?_ | refine ri_region ?_ | refine ri_skip ?_ | refine ri_block ?_ | refine xi_ ?_ | refine r_nil ?_ | refine r_region ?_ | refine r_skip ?_ | refine r_block ?_ | refine r_inBlock ?_ | refine x_ ?_ | refine w_ v_p ?_ | refine w_ v_cv ?_ | refine w_ v_and ?_ | refine w_ v_or ?_ | refine w_ v_f ?_ | refine w_ v_b ?_ | refine w_ v_r ?_ | refine w_ v_i ?_ | refine w_ v_a ?_ | refine w_ v_l ?_ | refine w_ v_la ?_ | refine w_ v_ls ?_ | refine w_ v_lr ?_ | refine w_ v_ln ?_ | refine w_ v_bd ?_ | refine w_ v_ba ?_ | refine w_ v_mf ?_ | refine w_ v_sap ?_ | refine w_ v_pkf ?_ | refine w_ v_pkt ?_ | refine w_ v_nl ?_ | refine w_ v_nn ?_ | refine e_ (f_st ?_) | refine e_ (f_al fun _ => ?_) | refine e_ (f_bx fun _ => ?_))
              obtain ⟨L1, hp1, hin⟩ := InR.set (i := kd.mag) (g := { (M.f kd.mag).pg.g with dflt := 1 + r }) hM hK.z hx.le ⟨⟨{ (M.f kd.mag).pg.g with dflt := 1 + r }, (M.f kd.mag).pg.p, (M.f kd.mag).pg.c⟩, [], rfl, .inl ⟨rfl, rfl, rfl, rfl⟩, rfl⟩
              exact r_pl (.cons _ (List.Sublist.refl _)) hp1 (t2 (L' := L1) (vs := [.nilIface]) (List.Sublist.refl _) hin)
          · have hk5 : ¬ kd.kind = 5 := by simp only [beq_eq_false_iff_ne, ne_eq] at h5; omega
            rw [if_neg hk5]
            repeat (first | refine r_seq ?_ | refine ri_seq ?_ | refine ri_region ?_ | refine ri_skip ?_ | refine ri_block ?_ | refine xi_ ?_ | refine r_nil ?_ | refine r_region ?_ | refine r_skip ?_ | refine r_block ?_ | refine r_inBlock ?_ | refine x_ ?_ | refine w_ v_p ?_ | refine w_ v_cv ?_ | refine w_ v_and ?_ | refine w_ v_or ?_ | refine w_ v_f ?_ | refine w_ v_b ?_ | refine w_ v_r ?_ | refine w_ v_i ?_ | refine w_ v_a ?_ | refine w_ v_l ?_ | refine w_ v_la ?_ | refine w_ v_ls ?_ | refine w_ v_lr ?_ | refine w_ v_ln ?_ | refine w_ v_bd ?_ | refine w_ v_ba ?_ | refine w_ v_mf ?_ | refine w_ v_sap ?_ | refine w_ v_pkf ?_ | refine w_ v_pkt ?_ | refine w_ v_nl ?_ | refine w_ v_nn ?_ | refine e_ (f_st ?_) | refine e_ (f_al fun _ => ?_) | refine e_ (f_bx fun _ => ?_))
            exact t2 (vs := [.nilIface]) (.cons _ (List.Sublist.refl _)) (InR.same hM)
end Go.Proofs

