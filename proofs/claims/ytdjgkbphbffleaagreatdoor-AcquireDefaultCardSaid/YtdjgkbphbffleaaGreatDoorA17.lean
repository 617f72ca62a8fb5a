/-
  The law of regions in plain Lean; the first state.
-/
import Derived.Test.YtdjgkbphbffleaaGreatDoorA14
import Derived.Test.YtdjgkbphbffleaaGreatDoorA16
import Derived.KernelRfl
namespace Go.Cf
open Go.Proofs

/-- What is read of a head's bytes. -/
def isHead (b : List UInt8) (mag page sub : Nat) : Bool := match readP b with
  | .error _ => false
  | .ok k => k.kind == 1 && k.mag == mag && (match readH k with | .error _ => false | .ok (h, _) => h.pl.mag == mag && h.pl.page == page && h.pl.sub == sub && !h.c 7 && !h.c 0)
/-- What is read of a region's bytes. -/
def isReg (b : List UInt8) (kind mag r : Nat) : Bool := match readP b with
  | .error _ => false
  | .ok k => k.kind == kind && k.mag == mag && (match regionM k with | none => false | some n => n == r)
theorem head1 : isHead (deB ⟨1, 0, 1, 0, 0⟩ []) 1 1 0 = true := by kernel_rfl
theorem head5 : isHead (deB ⟨1, 0, 5, 0, 0⟩ []) 1 255 0 = true := by kernel_rfl
theorem regs5 : ((List.range 16).all fun r => isReg (deB ⟨5, 0, 0, 0, (r : Nat)⟩ []) 5 1 r) = true := by kernel_rfl
theorem regs6 : ((List.range 16).all fun r => isReg (deB ⟨6, 0, 0, 0, (r : Nat)⟩ []) 6 1 r) = true := by kernel_rfl

theorem regs_5 {r : Nat} (h : r < 16) : isReg (deB ⟨5, 0, 0, 0, (r : Nat)⟩ []) 5 1 r = true := by
  have := regs5
  rw [List.all_eq_true] at this
  exact this r (by simpa using h)
theorem regs_6 {r : Nat} (h : r < 16) : isReg (deB ⟨6, 0, 0, 0, (r : Nat)⟩ []) 6 1 r = true := by
  have := regs6
  rw [List.all_eq_true] at this
  exact this r (by simpa using h)
theorem ends_own (m : Mach) (g : Nat) : ∀ n, endsM m false g n = if 1 ≤ g ∧ g ≤ n then endM m g else m := by
  intro n
  induction n with
  | zero => rw [endsM, if_neg (by omega)]
  | succ n ih =>
    rw [endsM, ih, Bool.false_or]
    by_cases h : n + 1 = g
    · subst h
      rw [if_pos (by simp), if_neg (by omega), if_pos (by omega)]
    · rw [if_neg (by simpa using h)]
      by_cases h2 : 1 ≤ g ∧ g ≤ n
      · rw [if_pos h2, if_pos (by omega)]
      · rw [if_neg h2, if_neg (by omega)]

/-- A head comes to a magazine. -/
def headed (m : Mach) (i : Nat) (h : Hd) (t : List UInt8) : Mach := { m with mg := updF m.mg i { m.mg i with hd := h, text := t, began := true } }

theorem head_step {b : List UInt8} {mag page sub : Nat} (hb : isHead b mag page sub = true) (hm : 1 ≤ mag ∧ mag ≤ 8) (m : Mach) :
    ∃ h t, h.pl = ⟨mag, page, sub⟩ ∧ h.c 0 = false ∧ packetM m b = (if page = 255 then endM (headed m mag h t) mag else beginM (endM (headed m mag h t) mag) mag h t, none) := by
  unfold isHead at hb
  split at hb
  · cases hb
  · rename_i k hk
    simp only [Bool.and_eq_true, beq_iff_eq] at hb
    obtain ⟨⟨h1, h2⟩, h3⟩ := hb
    split at h3
    · cases h3
    · rename_i h t hh
      simp only [Bool.and_eq_true, beq_iff_eq, Bool.not_eq_true'] at h3
      obtain ⟨⟨⟨⟨a1, a2⟩, a3⟩, a4⟩, a5⟩ := h3
      refine ⟨h, t, ?_, a5, ?_⟩
      · obtain ⟨⟨x, y, z⟩, c, o⟩ := h
        simp only at a1 a2 a3
        simp [a1, a2, a3]
      · have hp : packetM m b = headerM m k := by rw [packetM, hk]; simp only [kindM, h1, if_true]
        rw [hp, headerM, hh]
        simp only [a4, ends_own, h2, a2]
        rw [if_pos hm]
        split <;> rfl

theorem reg5_step {b : List UInt8} {mag r : Nat} (hb : isReg b 5 mag r = true) (m : Mach) :
    packetM m b = (if (m.mg mag).opn then setPg m mag { (m.mg mag).pg with dflt := 1 + r } else m, none) := by
  unfold isReg at hb
  split at hb
  · cases hb
  · rename_i k hk
    simp only [Bool.and_eq_true, beq_iff_eq] at hb
    obtain ⟨⟨h1, h2⟩, h3⟩ := hb
    split at h3
    · cases h3
    · rename_i n hn
      simp only [beq_iff_eq] at h3
      subst h3
      have hp : packetM m b = insideM m k := by
        rw [packetM, hk]
        simp only [kindM, h1]
        rfl
      rw [hp, insideM]
      simp only [h1, h2, hn]
      split <;> rfl

theorem reg6_step {b : List UInt8} {mag r : Nat} (hb : isReg b 6 mag r = true) (m : Mach) :
    packetM m b = ({ m with mg := updF m.mg mag { m.mg mag with region := r, told := true } }, none) := by
  unfold isReg at hb
  split at hb
  · cases hb
  · rename_i k hk
    simp only [Bool.and_eq_true, beq_iff_eq] at hb
    obtain ⟨⟨h1, h2⟩, h3⟩ := hb
    split at h3
    · cases h3
    · rename_i n hn
      simp only [beq_iff_eq] at h3
      subst h3
      rw [packetM, hk]
      simp only [kindM, h1, h2, hn]
      rfl

/-- Packets, one behind the other. -/
def runM (m : Mach) : List (List UInt8) → Mach
  | [] => m
  | b :: r => runM (packetM m b).1 r
def quietM (m : Mach) : List (List UInt8) → Prop
  | [] => True
  | b :: r => (packetM m b).2 = none ∧ quietM (packetM m b).1 r

def pksR (b1 bE b5 b6 : List UInt8) (page ahead : Bool) : List (List UInt8) :=
  (if ahead then [b6, b1] else [b1, b6]) ++ ((if page then [b5] else []) ++ [bE])

/-- A page begins where none was. -/
def begun (m : Mach) (h : Hd) (t : List UInt8) : Mach := { m with mg := updF m.mg 1 { m.mg 1 with hd := h, text := t, began := true, opn := true, pg := dfltM (m.mg 1).told (m.mg 1).region (newG h t pg0 false) } }
theorem updF_two {α : Type} (g : Nat → α) (i : Nat) (v v' : α) : updF (updF g i v) i v' = updF g i v' := by
  funext k; simp only [updF]; split <;> rfl
theorem begin_new {m : Mach} (ho : (m.mg 1).opn = false) (hl : m.l = []) (h : Hd) (t : List UInt8) : beginM (endM (headed m 1 h t) 1) 1 h t = begun m h t := by
  have h1 : endM (headed m 1 h t) 1 = headed m 1 h t := by rw [endM, if_neg]; simp [headed, updF_same, ho]
  rw [h1]
  simp [beginM, headed, begun, updF_same, updF_two, hl, findG]
theorem newG_pl (h : Hd) (t : List UInt8) (o : Pg) (b : Bool) : (newG h t o b).hd = h := rfl
theorem new0 {h : Hd} (t : List UInt8) : (newG h t pg0 false).extra = [] ∧ (newG h t pg0 false).linked = false ∧ (newG h t pg0 false).dflt = 0 := ⟨rfl, rfl, rfl⟩
theorem fin_find {m : Mach} (ho : (m.mg 1).opn = true) (hl : m.l = []) (hm : 1 ≤ m.most) (hk : (m.mg 1).pg.hd.pl = ⟨1, 1, 0⟩) (h : Hd) (t : List UInt8) :
    findM (endM (headed m 1 h t) 1) ⟨1, 1, 16255⟩ = some (m.mg 1).pg := by
  have hkk : (m.mg 1).pg.k = ⟨1, 1, 0⟩ := by rw [Pg.k, hk]; rfl
  have h1 : (endM (headed m 1 h t) 1).l = [(m.mg 1).pg] := by
    rw [endM, if_pos (by simp [headed, updF_same, ho])]
    simp [headed, updF_same, hl, putG, dropG, hm]
  rw [findM, if_neg (by simp), h1, lastG, List.filter_cons_of_pos (by simp [hkk])]
  rfl

/-- No page is open, none is in the store. -/
structure At0 (m : Mach) (told : Bool) (region : Nat) : Prop where
  o : (m.mg 1).opn = false
  l : m.l = []
  most : 1 ≤ m.most
  told : (m.mg 1).told = told
  reg : (m.mg 1).region = region
/-- The page is open, with its region. -/
structure At1 (m : Mach) (d : Nat) : Prop where
  o : (m.mg 1).opn = true
  l : m.l = []
  most : 1 ≤ m.most
  pl : (m.mg 1).pg.hd.pl = ⟨1, 1, 0⟩
  ex : (m.mg 1).pg.extra = []
  lk : (m.mg 1).pg.linked = false
  df : (m.mg 1).pg.dflt = d
theorem at_0 : At0 (mach0 9) false 0 := ⟨rfl, rfl, by show (1 : Int) ≤ 9; omega, rfl, rfl⟩
theorem At0.six {m : Mach} {b : List UInt8} {r : Nat} {x : Bool} {y : Nat} (hb : isReg b 6 1 r = true) (h : At0 m x y) : (packetM m b).2 = none ∧ At0 (packetM m b).1 true r := by
  rw [reg6_step hb]
  exact ⟨rfl, by simp [updF_same, h.o], h.l, h.most, by simp [updF_same], by simp [updF_same]⟩
theorem At0.head {m : Mach} {b : List UInt8} {x : Bool} {y : Nat} (hb : isHead b 1 1 0 = true) (h : At0 m x y) : (packetM m b).2 = none ∧ At1 (packetM m b).1 (if x then 1 + y else 0) := by
  obtain ⟨hd, t, hp, -, e⟩ := head_step hb (by omega) m
  rw [if_neg (by omega), begin_new h.o h.l] at e
  rw [e]
  refine ⟨rfl, by simp [begun, updF_same], h.l, h.most, ?_, ?_, ?_, ?_⟩
  · simp only [begun, updF_same, dfltM]; split <;> exact hp
  · simp only [begun, updF_same, dfltM]; split <;> rfl
  · simp only [begun, updF_same, dfltM]; split <;> rfl
  · simp only [begun, updF_same, dfltM, h.told, h.reg, new0]
    cases x <;> simp [new0]
theorem At1.six {m : Mach} {b : List UInt8} {r d : Nat} (hb : isReg b 6 1 r = true) (h : At1 m d) : (packetM m b).2 = none ∧ At1 (packetM m b).1 d := by
  rw [reg6_step hb]
  exact ⟨rfl, by simp [updF_same, h.o], h.l, h.most, by simp [updF_same, h.pl], by simp [updF_same, h.ex], by simp [updF_same, h.lk], by simp [updF_same, h.df]⟩
theorem At1.five {m : Mach} {b : List UInt8} {r d : Nat} (hb : isReg b 5 1 r = true) (h : At1 m d) : (packetM m b).2 = none ∧ At1 (packetM m b).1 (1 + r) := by
  rw [reg5_step hb, if_pos h.o]
  exact ⟨rfl, by simp [setPg, updF_same, h.o], h.l, h.most, by simp [setPg, updF_same, h.pl], by simp [setPg, updF_same, h.ex], by simp [setPg, updF_same, h.lk], by simp [setPg, updF_same]⟩
theorem At1.ends {m : Mach} {b : List UInt8} {d : Nat} (hb : isHead b 1 255 0 = true) (h : At1 m d) : (packetM m b).2 = none ∧ ∃ g, findM (packetM m b).1 ⟨1, 1, 16255⟩ = some g ∧ g.dflt = d ∧ g.extra = [] ∧ g.linked = false := by
  obtain ⟨hd, t, -, -, e⟩ := head_step hb (by omega) m
  rw [if_pos rfl] at e
  rw [e]
  exact ⟨rfl, _, fin_find h.o h.l h.most h.pl hd t, h.df, h.ex, h.lk⟩

theorem law5 {b1 bE b5 b6 : List UInt8} {region own : Nat} (page ahead : Bool) (r1 : isHead b1 1 1 0 = true) (rE : isHead bE 1 255 0 = true) (r5 : isReg b5 5 1 own = true) (r6 : isReg b6 6 1 region = true) :
    quietM (mach0 9) (pksR b1 bE b5 b6 page ahead) ∧ ∃ g, findM (runM (mach0 9) (pksR b1 bE b5 b6 page ahead)) ⟨1, 1, 16255⟩ = some g ∧
      g.dflt = (if page then 1 + own else if ahead then 1 + region else 0) ∧ g.extra = [] ∧ g.linked = false := by
  have key : ∃ m1 d, (quietM (mach0 9) (if ahead then [b6, b1] else [b1, b6]) ∧ runM (mach0 9) (if ahead then [b6, b1] else [b1, b6]) = m1) ∧ At1 m1 d ∧ d = if ahead then 1 + region else 0 := by
    cases ahead with
    | false =>
      obtain ⟨a1, a2⟩ := at_0.head r1
      obtain ⟨b1, b2⟩ := a2.six r6
      exact ⟨_, _, ⟨⟨a1, b1, trivial⟩, rfl⟩, b2, rfl⟩
    | true =>
      obtain ⟨a1, a2⟩ := at_0.six r6
      obtain ⟨b1, b2⟩ := a2.head r1
      exact ⟨_, _, ⟨⟨a1, b1, trivial⟩, rfl⟩, b2, rfl⟩
  have app : ∀ (A B : List (List UInt8)) (m : Mach), quietM m (A ++ B) ↔ quietM m A ∧ quietM (runM m A) B := by
    intro A
    induction A with
    | nil => intro B m; simp [quietM, runM]
    | cons a r ih => intro B m; simp only [List.cons_append, quietM, runM, ih]; exact and_assoc.symm
  have app2 : ∀ (A B : List (List UInt8)) (m : Mach), runM m (A ++ B) = runM (runM m A) B := by
    intro A
    induction A with
    | nil => intro B m; rfl
    | cons a r ih => intro B m; simp only [List.cons_append, runM, ih]
  obtain ⟨m1, d, ⟨hq, hr⟩, hat, hd⟩ := key
  rw [pksR, app, app2, hr]
  cases page with
  | false =>
    obtain ⟨c1, g, c2, c3, c4, c5⟩ := hat.ends rE
    exact ⟨⟨hq, c1, trivial⟩, g, c2, by rw [c3, hd]; rfl, c4, c5⟩
  | true =>
    obtain ⟨b1, b2⟩ := hat.five r5
    obtain ⟨c1, g, c2, c3, c4, c5⟩ := b2.ends rE
    exact ⟨⟨hq, b1, c1, trivial⟩, g, c2, c3, c4, c5⟩
end Go.Cf

namespace Go.Cf
open Go.Proofs
theorem PoolAt.own {w0 w : World} {F : List Nat} {L C R R' : Hp} (hs : (St.mk w0 F L).holds w) (hp : L.Perm (C ++ R)) (hR : ∀ e, e ∈ R' → e ∈ R) : PoolAt (Pool.none.add R') w (blks C) :=
  (PoolAt.nil w0 F).add hs hp (fun _ hb => hb) hR
theorem MOk.add2 {R R' : Hp} {M : Mp} {l : List Pp} (h : MOk ((Pool.none.add R).add R') M l) : MOk (Pool.none.add (R' ++ R)) M l := by
  refine h.mono (fun p c l hl => ?_) (fun p c t ht => ?_)
  · rcases hl with (hl | ⟨h1, h2, h3⟩) | ⟨h1, h2, h3⟩
    · exact .inl hl
    · exact .inr ⟨h1, h2, List.mem_append_right _ h3⟩
    · exact .inr ⟨h1, h2, List.mem_append_left _ h3⟩
  · rcases ht with (ht | ⟨h2, h3⟩) | ⟨h2, h3⟩
    · exact .inl ht
    · exact .inr ⟨h2, List.mem_append_right _ h3⟩
    · exact .inr ⟨h2, List.mem_append_left _ h3⟩
theorem MOk.none0 {M : Mp} {l : List Pp} (h : MOk Pool.none M l) : MOk (Pool.none.add []) M l := h.mono (fun _ _ _ h => .inl h) (fun _ _ _ h => .inl h)
abbrev nilS : Value := .slice none 0 0
abbrev deN (d : De) : List Value := deC d nilS nilS nilS nilS
def dsC (ds : List De) : List Value := ds.flatMap deN
theorem dsC_length (ds : List De) : (dsC ds).length = ds.length * 9 := by
  induction ds with
  | nil => rfl
  | cons d r ih => simp only [dsC, List.flatMap_cons, List.length_append] at ih ⊢; rw [ih]; simp only [List.length_cons, List.length_nil]; omega
theorem dsC_plain (ds : List De) : ∀ u ∈ dsC ds, plain u = true := by
  intro u hu
  simp only [dsC, List.mem_flatMap] at hu
  obtain ⟨d, -, hu⟩ := hu
  simp only [List.mem_cons, List.not_mem_nil, or_false] at hu
  rcases hu with rfl | rfl | rfl | rfl | rfl | rfl | rfl | rfl | rfl <;> rfl
def aheadD (r : Nat) (ahead : Bool) : List De := if ahead then [⟨6, 0, 0, 0, r⟩, ⟨1, 0, 1, 0, 0⟩] else [⟨1, 0, 1, 0, 0⟩, ⟨6, 0, 0, 0, r⟩]
def pageD (o : Nat) (page : Bool) : List De := if page then [⟨5, 0, 0, 0, o⟩] else []
theorem quiet_at {bs : List (List UInt8)} {m : Mach} {i : Nat} {b : List UInt8} (hq : quietM m bs) (hb : bs[i]? = some b) : (packetM (runM m (bs.take i)) b).2 = none ∧ runM m (bs.take (i + 1)) = (packetM (runM m (bs.take i)) b).1 := by
  induction bs generalizing m i with
  | nil => simp at hb
  | cons x r ih =>
    obtain ⟨h1, h2⟩ := hq
    cases i with
    | zero =>
      simp only [List.getElem?_cons_zero, Option.some.injEq] at hb
      subst hb
      exact ⟨h1, by simp [runM]⟩
    | succ i =>
      rw [List.getElem?_cons_succ] at hb
      exact ih h2 hb
theorem dsC_append (a b : List De) : dsC a ++ dsC b = dsC (a ++ b) := by simp [dsC]
theorem dsC_get {ds : List De} {i : Nat} {d : De} (h : ds[i]? = some d) : sub (dsC ds) (i * 9) 9 = some (deN d) := by
  induction ds generalizing i with
  | nil => simp at h
  | cons x r ih =>
    cases i with
    | zero =>
      simp only [List.getElem?_cons_zero, Option.some.injEq] at h
      subst h
      rw [show dsC (x :: r) = deN x ++ dsC r from rfl, sub_l (by simp)]
      exact sub_all rfl
    | succ i =>
      rw [List.getElem?_cons_succ] at h
      rw [show dsC (x :: r) = deN x ++ dsC r from rfl, sub_r (by simp; omega)]
      have := ih h
      rw [show (i + 1) * 9 - (deN x).length = i * 9 from by simp only [deN, deC, List.length_cons, List.length_nil]; omega]
      exact this
end Go.Cf
namespace Go.Proofs
open Go.Cf
set_option maxRecDepth 10000

theorem first_does (E : Nat → Value) (w : World) (hG : Glob w [] E) : Does Tryz.prog 14 [] w [] (fun v L => v = .bool true ∧ L = []) := by
  refine does_of Tryz.func14 rfl rfl ?_
  repeat (first | refine r_seq ?_ | refine ri_seq ?_ | refine ri_region ?_ | refine ri_skip ?_ | refine ri_block ?_ | refine xi_ ?_ | refine r_nil ?_ | refine r_region ?_ | refine r_skip ?_ | refine r_block ?_ | refine r_inBlock ?_ | refine x_ ?_ | refine w_ v_p ?_ | refine w_ v_cv ?_ | refine w_ v_and ?_ | refine w_ v_or ?_ | refine w_ v_f ?_ | refine w_ v_b ?_ | refine w_ v_r ?_ | refine w_ v_i ?_ | refine w_ v_a ?_ | refine w_ v_l ?_ | refine w_ v_la ?_ | refine w_ v_ls ?_ | refine w_ v_lr ?_ | refine w_ v_ln ?_ | refine w_ v_bd ?_ | refine w_ v_ba ?_ | refine w_ v_mf ?_ | refine w_ v_sap ?_ | refine w_ v_pkf ?_ | refine w_ v_pkt ?_ | refine w_ v_nl ?_ | refine w_ v_nn ?_ | refine e_ (f_st ?_) | refine e_ (f_al fun _ => ?_) | refine e_ (f_bx fun _ => ?_))
  refine e_ (f_c (fun w hw => newA_does E 5 w (hG.now hw)) fun v L' h => ?_)
  rw [NewR, if_neg (by omega)] at h
  obtain ⟨M, rfl, rfl, hM, ha⟩ := h
  have hlen : M.st.l.length = 0 := by rw [hM.kv]; rfl
  repeat (first | refine r_seq ?_ | refine ri_seq ?_ | refine ri_region ?_ | refine ri_skip ?_ | refine ri_block ?_ | refine xi_ ?_ | refine r_nil ?_ | refine r_region ?_ | refine r_skip ?_ | refine r_block ?_ | refine r_inBlock ?_ | refine x_ ?_ | refine w_ v_p ?_ | refine w_ v_cv ?_ | refine w_ v_and ?_ | refine w_ v_or ?_ | refine w_ v_f ?_ | refine w_ v_b ?_ | refine w_ v_r ?_ | refine w_ v_i ?_ | refine w_ v_a ?_ | refine w_ v_l ?_ | refine w_ v_la ?_ | refine w_ v_ls ?_ | refine w_ v_lr ?_ | refine w_ v_ln ?_ | refine w_ v_bd ?_ | refine w_ v_ba ?_ | refine w_ v_mf ?_ | refine w_ v_sap ?_ | refine w_ v_pkf ?_ | refine w_ v_pkt ?_ | refine w_ v_nl ?_ | refine w_ v_nn ?_ | refine e_ (f_st ?_) | refine e_ (f_al fun _ => ?_) | refine e_ (f_bx fun _ => ?_))
  refine c_ (t := false) (fun h => by cases h) (fun _ => ?_)
  repeat (first | refine r_seq ?_ | refine ri_seq ?_ | refine ri_region ?_ | refine ri_skip ?_ | refine ri_block ?_ | refine xi_ ?_ | refine r_nil ?_ | refine r_region ?_ | refine r_skip ?_ | refine r_block ?_ | refine r_inBlock ?_ | refine x_ ?_ | refine w_ v_p ?_ | refine w_ v_cv ?_ | refine w_ v_and ?_ | refine w_ v_or ?_ | refine w_ v_f ?_ | refine w_ v_b ?_ | refine w_ v_r ?_ | refine w_ v_i ?_ | refine w_ v_a ?_ | refine w_ v_l ?_ | refine w_ v_la ?_ | refine w_ v_ls ?_ | refine w_ v_lr ?_ | refine w_ v_ln ?_ | refine w_ v_bd ?_ | refine w_ v_ba ?_ | refine w_ v_mf ?_ | refine w_ v_sap ?_ | refine w_ v_pkf ?_ | refine w_ v_pkt ?_ | refine w_ v_nl ?_ | refine w_ v_nn ?_ | refine e_ (f_st ?_) | refine e_ (f_al fun _ => ?_) | refine e_ (f_bx fun _ => ?_))
  refine e_ (f_cs (mpL M) (fun b hb => hb) (fun w2 hw2 => pages_does M w2 hM.ok (hw2.give (Spl.perm (by repeat (first | exact Spl.nil | exact Rem.head | apply Rem.tail | apply Spl.cons))))) fun v L' h => ?_)
  obtain ⟨q, d, rfl, rfl⟩ := h
  rw [hlen]
  repeat (first | refine r_seq ?_ | refine ri_seq ?_ | refine ri_region ?_ | refine ri_skip ?_ | refine ri_block ?_ | refine xi_ ?_ | refine r_nil ?_ | refine r_region ?_ | refine r_skip ?_ | refine r_block ?_ | refine r_inBlock ?_ | refine x_ ?_ | refine w_ v_p ?_ | refine w_ v_cv ?_ | refine w_ v_and ?_ | refine w_ v_or ?_ | refine w_ v_f ?_ | refine w_ v_b ?_ | refine w_ v_r ?_ | refine w_ v_i ?_ | refine w_ v_a ?_ | refine w_ v_l ?_ | refine w_ v_la ?_ | refine w_ v_ls ?_ | refine w_ v_lr ?_ | refine w_ v_ln ?_ | refine w_ v_bd ?_ | refine w_ v_ba ?_ | refine w_ v_mf ?_ | refine w_ v_sap ?_ | refine w_ v_pkf ?_ | refine w_ v_pkt ?_ | refine w_ v_nl ?_ | refine w_ v_nn ?_ | refine e_ (f_st ?_) | refine e_ (f_al fun _ => ?_) | refine e_ (f_bx fun _ => ?_))
  refine g_ (fun _ => ?_) ?_
  rotate_left
  · exact fun hc => absurd hc (by decide)
  refine e_ (f_cs (mpL M) (fun b hb => hb) (fun w2 hw2 => packetP_does E Pool.none M [] [] none 0 0 w2 hM (hw2.give (Spl.perm (by repeat (first | exact Spl.nil | exact Rem.head | apply Rem.tail | apply Spl.cons)))) (PoolAt.nil _ _) (hG.give hw2 (Spl.perm (by repeat (first | exact Spl.nil | exact Rem.head | apply Rem.tail | apply Spl.cons))) (fun b hb => hb)) rfl (by omega) (by omega) (Sl.nil _ _ _ 1)) fun v L' h => ?_)
  obtain ⟨rfl, M', l', R', rfl, -⟩ := h
  have hv : (packetM (absM M []) []).2 = some 1 := rfl
  rw [hv]
  refine g_ (fun _ => ?_) ?_
  rotate_left
  · exact fun hc => absurd hc (by decide)
  refine e_ (f_c (fun w hw => isE_does E (some 1) 102 w (hG.now hw) (fun i hi => by cases hi; omega)) fun v L' h => ?_)
  obtain ⟨rfl, rfl⟩ := h
  repeat (first | refine r_seq ?_ | refine ri_seq ?_ | refine ri_region ?_ | refine ri_skip ?_ | refine ri_block ?_ | refine xi_ ?_ | refine r_nil ?_ | refine r_region ?_ | refine r_skip ?_ | refine r_block ?_ | refine r_inBlock ?_ | refine x_ ?_ | refine w_ v_p ?_ | refine w_ v_cv ?_ | refine w_ v_and ?_ | refine w_ v_or ?_ | refine w_ v_f ?_ | refine w_ v_b ?_ | refine w_ v_r ?_ | refine w_ v_i ?_ | refine w_ v_a ?_ | refine w_ v_l ?_ | refine w_ v_la ?_ | refine w_ v_ls ?_ | refine w_ v_lr ?_ | refine w_ v_ln ?_ | refine w_ v_bd ?_ | refine w_ v_ba ?_ | refine w_ v_mf ?_ | refine w_ v_sap ?_ | refine w_ v_pkf ?_ | refine w_ v_pkt ?_ | refine w_ v_nl ?_ | refine w_ v_nn ?_ | refine e_ (f_st ?_) | refine e_ (f_al fun _ => ?_) | refine e_ (f_bx fun _ => ?_))
  exact t2 (L' := []) (List.nil_sublist _) ⟨rfl, rfl⟩
end Go.Proofs

