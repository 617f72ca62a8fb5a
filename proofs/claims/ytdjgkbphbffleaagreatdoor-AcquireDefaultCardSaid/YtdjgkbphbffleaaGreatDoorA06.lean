/-
  Contracts: pages.
-/
import Derived.Test.YtdjgkbphbffleaaGreatDoorA05
namespace Go.Cf

/-! ### Lists in parts -/

theorem spl_r {A B vs : List Value} {off : Nat} (h : A.length ≤ off) : splice (A ++ B) off vs = A ++ splice B (off - A.length) vs := by
  simp only [splice, List.take_append, List.drop_append, List.append_assoc]
  rw [List.take_of_length_le h, List.drop_of_length_le (show A.length ≤ off + vs.length by omega)]
  simp only [List.nil_append]
  rw [show off + vs.length - A.length = off - A.length + vs.length from by omega]
theorem spl_l {A B vs : List Value} {off : Nat} (h : off + vs.length ≤ A.length) : splice (A ++ B) off vs = splice A off vs ++ B := by
  simp only [splice, List.take_append, List.drop_append, List.append_assoc]
  rw [show off - A.length = 0 from by omega, show off + vs.length - A.length = 0 from by omega]
  simp
theorem spl_at {A B C vs : List Value} {off : Nat} (h : off = A.length) (hv : vs.length = B.length) : splice (A ++ (B ++ C)) off vs = A ++ (vs ++ C) := by
  subst h
  rw [spl_r (Nat.le_refl _), Nat.sub_self, spl_l (by omega), splice_all hv]
theorem sub_r {A B : List Value} {off n : Nat} (h : A.length ≤ off) : sub (A ++ B) off n = sub B (off - A.length) n := by
  simp only [sb_def, List.length_append, List.drop_append]
  rw [List.drop_of_length_le h, List.nil_append]
  by_cases h2 : off + n ≤ A.length + B.length
  · rw [if_pos h2, if_pos (by omega)]
  · rw [if_neg h2, if_neg (by omega)]
theorem sub_l {A B : List Value} {off n : Nat} (h : off + n ≤ A.length) : sub (A ++ B) off n = sub A off n := by
  simp only [sb_def, List.length_append]
  rw [if_pos (by omega), if_pos h, List.drop_append_of_le_length (by omega), List.take_append_of_le_length (by rw [List.length_drop]; omega)]
theorem sub_at {A B C : List Value} {off n : Nat} (h : off = A.length) (hv : n = B.length) : sub (A ++ (B ++ C)) off n = some B := by
  subst h hv
  rw [sub_r (Nat.le_refl _), Nat.sub_self, sub_l (by omega), sub_all rfl]
theorem get_r {A B : List Value} {off : Nat} (h : A.length ≤ off) : (A ++ B)[off]? = B[off - A.length]? := List.getElem?_append_right h
theorem get_l {A B : List Value} {off : Nat} (h : off < A.length) : (A ++ B)[off]? = A[off]? := List.getElem?_append_left h
theorem rg_sub {n m : Nat} {g : Nat → Value} {off : Nat} (h : off + m ≤ n) : sub (rg n g) off m = some (rg m fun i => g (off + i)) := by
  rw [sb_def, if_pos (by rw [rg_length]; exact h)]
  congr 1
  apply List.ext_getElem?
  intro j
  rw [List.getElem?_take, List.getElem?_drop]
  by_cases hj : j < m
  · rw [if_pos hj, rg_get (by omega), rg_get hj]
  · rw [if_neg hj, List.getElem?_eq_none (by rw [rg_length]; omega)]
theorem rg_spl {n m : Nat} {g v : Nat → Value} {off : Nat} (h : off + m ≤ n) : splice (rg n g) off (rg m v) = rg n fun i => if off ≤ i ∧ i < off + m then v (i - off) else g i := by
  apply List.ext_getElem?
  intro j
  simp only [splice, List.getElem?_append, List.length_append, List.length_take, rg_length, List.getElem?_take, List.getElem?_drop]
  have hmin : min off n = off := by omega
  rw [hmin]
  by_cases h1 : j < off
  · rw [if_pos (by omega), if_pos h1, if_pos h1, rg_get (by omega), rg_get (by omega), if_neg (by omega)]
  · by_cases h2 : j < off + m
    · rw [if_pos h2, if_neg h1, rg_get (by omega), rg_get (by omega), if_pos (by omega)]
    · rw [if_neg h2]
      rw [show off + m + (j - (off + m)) = j from by omega]
      by_cases h3 : j < n
      · rw [rg_get h3, rg_get h3, if_neg (by omega)]
      · rw [List.getElem?_eq_none (by rw [rg_length]; omega), List.getElem?_eq_none (by rw [rg_length]; omega)]

/-! ### Pages -/

structure Pg where
  hd : Hd
  rows : Nat → Nat → UInt8
  there : Nat → Bool
  extra : List Tr
  links : Nat → Pl
  linked : Bool
  dflt : Nat

def updF {α : Type} (g : Nat → α) (i : Nat) (v : α) : Nat → α := fun k => if k = i then v else g k
theorem updF_same {α : Type} (g : Nat → α) (i : Nat) (v : α) : updF g i v i = v := by simp [updF]
theorem updF_ne {α : Type} (g : Nat → α) {i k : Nat} (v : α) (h : k ≠ i) : updF g i v k = g k := by simp [updF, h]

def rowsC (r : Nat → Nat → UInt8) : List Value := rg 1000 fun i => .int .u8 (r (i / 40) (i % 40)).toNat
def thereC (t : Nat → Bool) : List Value := rg 25 fun i => .bool (t i)
def linksC (l : Nat → Pl) : List Value := plC (l 0) ++ (plC (l 1) ++ (plC (l 2) ++ (plC (l 3) ++ (plC (l 4) ++ plC (l 5)))))
@[irreducible] def pgC (g : Pg) (p : Option Addr) (c : Nat) : List Value :=
  hdC g.hd ++ (rowsC g.rows ++ (thereC g.there ++ ([.slice p g.extra.length c] ++ (linksC g.links ++ ([.bool g.linked] ++ [.int .i64 g.dflt])))))

theorem rowsC_length (r : Nat → Nat → UInt8) : (rowsC r).length = 1000 := rg_length _ _
theorem thereC_length (t : Nat → Bool) : (thereC t).length = 25 := rg_length _ _
theorem linksC_length (l : Nat → Pl) : (linksC l).length = 18 := rfl
theorem hdC_length (h : Hd) : (hdC h).length = 15 := rfl
theorem plC_length (p : Pl) : (plC p).length = 3 := rfl
theorem pgC_length (g : Pg) (p : Option Addr) (c : Nat) : (pgC g p c).length = 1061 := by
  simp only [pgC, List.length_append, rowsC_length, thereC_length, linksC_length, List.length_cons, List.length_nil]
theorem rowsC_plain (r : Nat → Nat → UInt8) : (rowsC r).all plain = true := rg_plain fun _ => rfl
theorem thereC_plain (t : Nat → Bool) : (thereC t).all plain = true := rg_plain fun _ => rfl
theorem linksC_plain (l : Nat → Pl) : (linksC l).all plain = true := rfl
theorem hdC_plain (h : Hd) : (hdC h).all plain = true := rfl
theorem plC_plain (h : Pl) : (plC h).all plain = true := rfl
theorem pgC_plain (g : Pg) (p : Option Addr) (c : Nat) : (pgC g p c).all plain = true := by
  simp only [pgC, List.all_append, hdC_plain, rowsC_plain, thereC_plain, linksC_plain, Bool.true_and]; rfl

theorem rowsC_row (r : Nat → Nat → UInt8) {k off : Nat} (hk : k < 25) (ho : off = k * 40) : sub (rowsC r) off 40 = some (rowC (r k)) := by
  subst ho
  rw [rowsC, rg_sub (by omega)]
  congr 1
  apply rg_congr
  intro i hi
  rw [show (k * 40 + i) / 40 = k from by omega, show (k * 40 + i) % 40 = i from by omega]
theorem rowsC_set (r : Nat → Nat → UInt8) (x : Nat → UInt8) {k off : Nat} (hk : k < 25) (ho : off = k * 40) : splice (rowsC r) off (rowC x) = rowsC (updF r k x) := by
  subst ho
  rw [rowsC, rowC, rg_spl (by omega), rowsC]
  apply rg_congr
  intro i hi
  by_cases h : k * 40 ≤ i ∧ i < k * 40 + 40
  · rw [if_pos h, show i / 40 = k from by omega, updF_same, show i % 40 = i - k * 40 from by omega]
  · rw [if_neg h, updF_ne _ _ (by omega)]
theorem thereC_set (t : Nat → Bool) (b : Bool) {k : Nat} (hk : k < 25) : splice (thereC t) k [.bool b] = thereC (updF t k b) := by
  rw [thereC, rg_set _ hk, thereC]
  apply rg_congr
  intro i hi
  simp only [updV, updF]
  split <;> rfl

section pg
variable {g : Pg} {p : Option Addr} {c off : Nat}

theorem pg_hd (h : off = 0) : sub (pgC g p c) off 15 = some (hdC g.hd) := by
  subst h; rw [pgC, sub_l (by rw [hdC_length]; omega), sub_all (hdC_length _)]
theorem pg_rows (h : off = 15) : sub (pgC g p c) off 1000 = some (rowsC g.rows) := by
  subst h; rw [pgC]; exact sub_at (hdC_length _).symm (rowsC_length _).symm
theorem pg_row {k : Nat} (hk : k < 25) (h : off = 15 + k * 40) : sub (pgC g p c) off 40 = some (rowC (g.rows k)) := by
  rw [pgC, sub_r (by rw [hdC_length]; omega), sub_l (by rw [rowsC_length, hdC_length]; omega)]
  exact rowsC_row _ hk (by rw [hdC_length]; omega)
theorem pg_byte {k j : Nat} (hk : k < 25) (hj : j < 40) (h : off = 15 + k * 40 + j) : (pgC g p c)[off]? = some (.int .u8 (g.rows k j).toNat) := by
  rw [pgC, get_r (by rw [hdC_length]; omega), get_l (by rw [rowsC_length, hdC_length]; omega), hdC_length, rowsC, rg_get (by omega)]
  rw [show (off - 15) / 40 = k from by omega, show (off - 15) % 40 = j from by omega]
theorem pg_there {k : Nat} (hk : k < 25) (h : off = 1015 + k) : (pgC g p c)[off]? = some (.bool (g.there k)) := by
  rw [pgC, get_r (by rw [hdC_length]; omega), get_r (by rw [rowsC_length, hdC_length]; omega), get_l (by rw [rowsC_length, hdC_length, thereC_length]; omega), hdC_length, rowsC_length, thereC, rg_get (by omega)]
  rw [show off - 15 - 1000 = k from by omega]
theorem pg_extra (h : off = 1040) : (pgC g p c)[off]? = some (.slice p g.extra.length c) := by
  subst h
  rw [pgC, get_r (by rw [hdC_length]; omega), get_r (by rw [rowsC_length, hdC_length]; omega), get_r (by rw [rowsC_length, hdC_length, thereC_length]; omega), hdC_length, rowsC_length, thereC_length]
  rfl
theorem pg_links (h : off = 1041) : sub (pgC g p c) off 18 = some (linksC g.links) := by
  subst h
  rw [pgC, sub_r (by rw [hdC_length]; omega), sub_r (by rw [rowsC_length, hdC_length]; omega), sub_r (by rw [rowsC_length, hdC_length, thereC_length]; omega), hdC_length, rowsC_length, thereC_length]
  exact sub_at rfl rfl
theorem pg_linked (h : off = 1059) : (pgC g p c)[off]? = some (.bool g.linked) := by
  subst h
  rw [pgC, get_r (by rw [hdC_length]; omega), get_r (by rw [rowsC_length, hdC_length]; omega), get_r (by rw [rowsC_length, hdC_length, thereC_length]; omega), hdC_length, rowsC_length, thereC_length]
  rfl
theorem pg_dflt (h : off = 1060) : (pgC g p c)[off]? = some (.int .i64 g.dflt) := by
  subst h
  rw [pgC, get_r (by rw [hdC_length]; omega), get_r (by rw [rowsC_length, hdC_length]; omega), get_r (by rw [rowsC_length, hdC_length, thereC_length]; omega), hdC_length, rowsC_length, thereC_length]
  rfl
theorem pg_all (h : off = 0) : sub (pgC g p c) off 1061 = some (pgC g p c) := by subst h; exact sub_all (pgC_length _ _ _)
theorem pg_head {v : Value} (hl : off < 15) (h : (hdC g.hd)[off]? = some v) : (pgC g p c)[off]? = some v := by
  rw [pgC, get_l (by rw [hdC_length]; exact hl)]; exact h

theorem pg_sHd {h' : Hd} (h : off = 0) : splice (pgC g p c) off (hdC h') = pgC { g with hd := h' } p c := by
  subst h
  rw [pgC, spl_l (by rw [hdC_length, hdC_length]; omega), splice_all (by rw [hdC_length, hdC_length])]; rw [pgC]
theorem pg_sRow {x : Nat → UInt8} {k : Nat} (hk : k < 25) (h : off = 15 + k * 40) : splice (pgC g p c) off (rowC x) = pgC { g with rows := updF g.rows k x } p c := by
  rw [pgC, spl_r (by rw [hdC_length]; omega), spl_l (by rw [rowsC_length, hdC_length, rowC_length]; omega), rowsC_set _ _ hk (by rw [hdC_length]; omega)]; rw [pgC]
theorem pg_sThere {b : Bool} {k : Nat} (hk : k < 25) (h : off = 1015 + k) : splice (pgC g p c) off [.bool b] = pgC { g with there := updF g.there k b } p c := by
  rw [pgC, spl_r (by rw [hdC_length]; omega), spl_r (by rw [rowsC_length, hdC_length]; omega), spl_l (by rw [thereC_length, rowsC_length, hdC_length]; simp; omega), hdC_length, rowsC_length, show off - 15 - 1000 = k from by omega, thereC_set _ _ hk]; rw [pgC]
theorem pg_tail (off : Nat) (ho : 1040 ≤ off) (vs : List Value) : splice (pgC g p c) off vs = hdC g.hd ++ (rowsC g.rows ++ (thereC g.there ++ splice ([.slice p g.extra.length c] ++ (linksC g.links ++ ([.bool g.linked] ++ [.int .i64 g.dflt]))) (off - 1040) vs)) := by
  rw [pgC, spl_r (by rw [hdC_length]; omega), spl_r (by rw [rowsC_length, hdC_length]; omega), spl_r (by rw [thereC_length, rowsC_length, hdC_length]; omega), hdC_length, rowsC_length, thereC_length, show off - 15 - 1000 - 25 = off - 1040 from by omega]
theorem pg_sExtra {q : Option Addr} {n d : Nat} {l : List Tr} (hn : n = l.length) (h : off = 1040) : splice (pgC g p c) off [.slice q n d] = pgC { g with extra := l } q d := by
  subst h hn
  rw [pg_tail _ (by omega), pgC]; rfl
theorem pg_sLinks {l : Nat → Pl} (h : off = 1041) : splice (pgC g p c) off (linksC l) = pgC { g with links := l } p c := by
  subst h
  rw [pg_tail _ (by omega), pgC]; rfl
theorem pg_sLinked {b : Bool} (h : off = 1059) : splice (pgC g p c) off [.bool b] = pgC { g with linked := b } p c := by
  subst h
  rw [pg_tail _ (by omega), pgC]; rfl
theorem pg_sDflt {n : Nat} {z : Int} (hz : z = n) (h : off = 1060) : splice (pgC g p c) off [.int .i64 z] = pgC { g with dflt := n } p c := by
  subst h hz
  rw [pg_tail _ (by omega), pgC]; rfl
theorem pg_sAll {g' : Pg} {p' : Option Addr} {c' : Nat} (h : off = 0) : splice (pgC g p c) off (pgC g' p' c') = pgC g' p' c' := by
  subst h; exact splice_all (by rw [pgC_length, pgC_length])
end pg

theorem pgb {g : Pg} {p : Option Addr} {c x : Nat} (h : x ≤ 1061) : Nat.ble x (pgC g p c).length = true := Nat.ble_eq_true_of_le (by rw [pgC_length]; exact h)
def pg0 : Pg := ⟨⟨⟨0, 0, 0⟩, fun _ => false, 0⟩, fun _ _ => 0, fun _ => false, [], fun _ => ⟨0, 0, 0⟩, false, 0⟩
abbrev pgZ : List Value := pgC pg0 none 0

/-! ### Copies into one's own rows -/
section
variable {P : Program} {n : Nat} {Q : Exit → Act → World → Prop} {k : List It} {f : Nat → Value} {σ : Bd} {w0 : World} {F : List Nat} {L : Hp} {dst : Option Tmp} {ty : TypeId} {pos : String} {after : Array Edge} {guard : Option (Nat × Bool)} {K : Bd → St → Prop}

/-- One's own slice that is not empty lies in a block. -/
theorem r_own {p : Option Addr} {m cap sz : Nat} {xs : List Value} {T : TypeId} (hm : En.row p m cap xs T sz ∈ L) (h0 : 0 < m) (h : ∀ b, p = some ⟨b, 0, none⟩ → m ≤ cap → cap ≤ maxLen → xs.length = m * sz → Wk P n Q k f σ ⟨w0, F, L⟩) : Wk P n Q k f σ ⟨w0, F, L⟩ := by
  intro a w hr hs
  obtain ⟨h1, ⟨rfl, rfl, rfl⟩ | ⟨b, cur, rfl, hb, h2, h3, h4, h5⟩⟩ := hs.own _ hm
  · omega
  · exact h b rfl h2 h3 h1 a w hr hs

/-- What a temporary holds, written otherwise: in the midst of a drawn statement. -/
theorem d_as {ops : List Oper} {Lp : Hp} {lst : List Nat} {m : Nat} {listed : Array Bool} (d : Nat) {v' : Value} (he : (look f σ d).val = v') (h : WkD P n Q k ops w0 F Lp lst m listed f ((d, .v v') :: σ) L) (hdn : Nat.beq d n = false := by exact rfl) : WkD P n Q k ops w0 F Lp lst m listed f σ L := by
  intro a w hr hs
  refine h a w ⟨hr.size, by rw [look, hdn]; exact hr.defers, fun t => ?_⟩ hs
  rw [look_cons]
  by_cases ht : d = t
  · subst ht; rw [if_pos rfl, hr.val]; exact he
  · rw [if_neg ht]; exact hr.val t

theorem r_swap {A B : Hp} (h : Wk P n Q k f σ ⟨w0, F, B ++ A⟩) : Wk P n Q k f σ ⟨w0, F, A ++ B⟩ := fun a w hr hs => h a w hr (hs.perm List.perm_append_comm)

theorem run_storeRow {T : TypeId} {w : World} {b off m cap sz : Nat} {xs ys : List Value} (hrow : (En.row (some ⟨b, 0, none⟩) m cap xs T sz).at w) (hpl : ∀ u ∈ ys, plain u = true) (hfit : off + ys.length ≤ m * sz) :
    ∃ cur, w.heap[b]? = some (.cells cur T (0, 0)) ∧ (storeCells ⟨b, off, none⟩ ys).run P w = .ok () (w.setRow b (splice cur.toList off ys).toArray) ∧
      (En.row (some ⟨b, 0, none⟩) m cap (splice xs off ys) T sz).at (w.setRow b (splice cur.toList off ys).toArray) := by
  obtain ⟨hlen, ⟨h, _⟩ | ⟨b', cur, he, hb, h2, h3, h4, h5⟩⟩ := hrow
  · cases h
  · cases he
    have hcl : cur.toList.length = cap * sz := by simpa using h4
    have hle : xs.length ≤ cur.toList.length := by rw [← h5]; exact List.length_take_le' _ _
    have hst := run_storeCells_at P b off T ys 0 cur w hb (by rw [hcl, hlen] at hle; rw [h4]; omega) (fun u hu => plain_one (hpl u hu))
    simp only [Nat.add_zero] at hst
    have hsl : (splice xs off ys).length = xs.length := by simp only [splice, List.length_append, List.length_take, List.length_drop]; omega
    have hsc : (splice cur.toList off ys).length = cur.toList.length := by simp only [splice, List.length_append, List.length_take, List.length_drop]; omega
    refine ⟨cur, hb, by rw [hst]; rfl, by rw [hsl]; exact hlen, .inr ⟨b, _, rfl, setRow_heap w b _ _ _ _ hb, h2, h3, by simp [hsc, hcl], ?_⟩⟩
    rw [List.toList_toArray, ← hlen, take_splice (by omega) hle, hlen, h5]

/-- 'copy' into one's own slice. -/
theorem f_cp {T T2 e : TypeId} [TySlice P T e] {agg : Bool} {sz : Nat} [ha : TyA P e agg sz] {x y : Operand} {b off dl dc m2 c2 m cap : Nat} {q : Option Addr} {xs ys xs' : List Value} {T' : TypeId} {L' : Hp} {d : Nat}
    (hy2 : ∀ w, (St.mk w0 F L).holds w → Sl w [] q m2 sz ys) (hpl : ∀ u ∈ ys, plain u = true)
    (h : K ((d, .v (.int .i64 (min m2 dl : Nat))) :: σ) ⟨w0, F, L'⟩) (hfit : off + dl * sz ≤ m * sz)
    (hl : splice xs off (ys.take (min m2 dl * sz)) = xs')
    (hx : evo f σ x = some (.slice (some ⟨b, off, none⟩) dl dc) := by exact rfl) (hy : evo f σ y = some (.slice q m2 c2) := by exact rfl)
    (hu : Upd L (.row (some ⟨b, 0, none⟩) m cap xs T' sz) (.row (some ⟨b, 0, none⟩) m cap xs' T' sz) L' := by repeat (first | exact Upd.head | apply Upd.tail))
    (hcx : (sv f σ x).cnd = true := by exact rfl) (hcy : (sv f σ y).cnd = true := by exact rfl) (hd : dst = some d := by exact rfl) (hn : Nat.ble (d + 1) n = true := by exact rfl) (hg : guard = none := by exact rfl) :
    Ef P n f σ ⟨w0, F, L⟩ ⟨dst, .call { callee := .builtin .copy, args := #[x, y], argTypes := #[T, T2] }, ty, pos, after, guard⟩ K := by
  subst hl
  refine .of hd hn hg (fun a w hrep hs => ?_)
  have hsl := hy2 w hs
  have hk : (ys.take (min m2 dl * sz)).length = min m2 dl * sz := by
    rw [List.length_take, hsl.len]
    have : min m2 dl * sz ≤ m2 * sz := Nat.mul_le_mul_right _ (Nat.min_le_left _ _)
    omega
  have hle : min m2 dl * sz ≤ dl * sz := Nat.mul_le_mul_right _ (Nat.min_le_right _ _)
  obtain ⟨cur, hb, hst, hat⟩ := run_storeRow (P := P) (off := off) (hs.own _ hu.mem) (ys := ys.take (min m2 dl * sz)) (fun u hu => hpl u (List.mem_of_mem_take hu)) (by rw [hk]; omega)
  have hsz := run_sizeOf ha.knows w
  rw [ha.sz] at hsz
  have hfirst : (Builtin.firstCells sz (min m2 dl) (.slice q m2 c2)).run P w = .ok (ys.take (min m2 dl * sz)).toArray w := by
    cases q with
    | none =>
      by_cases h0 : 0 < m2
      · have := hsl.ptr h0; cases this
      · have : m2 = 0 := by omega
        subst this
        simp [Builtin.firstCells]
    | some a0 =>
      by_cases h0 : 0 < m2
      · have hp := hsl.ptr h0
        have := run_loadCells_list (P := P) w a0 (ys.take (min m2 dl * sz)) (fun j v hj => by
          rw [Option.some.inj hp, add_none]
          refine (hsl.rd j v ?_).2.2
          rw [List.getElem?_take] at hj
          split at hj
          · exact hj
          · cases hj)
        rw [hk] at this
        simp only [Builtin.firstCells]
        exact this
      · have : m2 = 0 := by omega
        subst this
        have hys : ys = [] := List.eq_nil_of_length_eq_zero (by simpa using hsl.len)
        subst hys
        simp [Builtin.firstCells, loadCells, loadCellsFrom]
  refine ⟨_, _, ⟨w0, F, L'⟩, ?_, hs.upd (w' := w.setRow b (splice cur.toList off (ys.take (min m2 dl * sz))).toArray) hu rfl rfl rfl (by simp) (fun k' _ hk => ?_) hat (fun b' hb' => .inl hb'), h⟩
  · have hmin : Nat.min m2 dl = min m2 dl := rfl
    simp [execOp, resolve, invoke, builtin, hrep.eval, ev_of_evo hx hcx, ev_of_evo hy hcy, Builtin.copy_, run_underSlice (P := P) (T := T) (e := e), Builtin.lenOf, hsz, hmin, hfirst, hst, goInt]
  · exact setRow_other w b k' _ (fun e => hk (by simp [En.blk, e]))

/-- A choice whose condition is known. -/
theorem v_pkf {s : St} {all : List Oper} {gd : Option Bool} {d : Nat} {x y z : Operand} {b2 : Bool} (hx : (sv f σ x) = .v (.bool false) := by exact rfl) (hz : (sv f σ z) = .v (.bool b2) := by exact rfl)
    (hd : dst = some d := by exact rfl) (hn : Nat.ble (d + 1) n = true := by exact rfl) (hg : gdOf f σ all guard = some gd := by exact rfl) : Val P n f σ all s ⟨dst, .pick x y z, ty, pos, after, guard⟩ d gd (.bool b2) :=
  ⟨hd, hn, hg, fun a W hrep hc hW => by simp [execOp, hrep.eval, ev_sv, hx, hz, SV.val, asBool]⟩
theorem v_pkt {s : St} {all : List Oper} {gd : Option Bool} {d : Nat} {x y z : Operand} {b2 : Bool} (hx : (sv f σ x) = .v (.bool true) := by exact rfl) (hz : (sv f σ y) = .v (.bool b2) := by exact rfl)
    (hd : dst = some d := by exact rfl) (hn : Nat.ble (d + 1) n = true := by exact rfl) (hg : gdOf f σ all guard = some gd := by exact rfl) : Val P n f σ all s ⟨dst, .pick x y z, ty, pos, after, guard⟩ d gd (.bool b2) :=
  ⟨hd, hn, hg, fun a W hrep hc hW => by simp [execOp, hrep.eval, ev_sv, hx, hz, SV.val, asBool]⟩

/-- A slice as an array. -/
theorem v_sap {s : St} {all : List Oper} {T e : TypeId} {len : Nat} [TyArr P T len e] {x : Operand} {p : Option Addr} {m c : Nat} {gd : Option Bool} {d : Nat}
    (hx : evo f σ x = some (.slice p m c) := by exact rfl) (hle : len ≤ m := by omega) (hd : dst = some d := by exact rfl) (hn : Nat.ble (d + 1) n = true := by exact rfl) (hg : gdOf f σ all guard = some gd := by exact rfl) (hob : gob f σ (gdc gd) (tmpsOf [x]) := by first | exact trivial | exact ⟨id, trivial⟩) :
    Val P n f σ all s ⟨dst, .sliceToArrayPointer T x, ty, pos, after, guard⟩ d gd (.pointer p) :=
  .of hd hn hg (fun W _ => by
    have key : ∀ ρ : Operand → Value, ρ x = .slice p m c → (execOp ρ ⟨dst, .sliceToArrayPointer T x, ty, pos, after, guard⟩).run P W = .ok (.value (.pointer p)) W := fun ρ hρ => by
      have : ¬ m < len := by omega
      simp [execOp, hρ, Instr.arrayAt, run_underArr (P := P) (T := T) (e := e) (len := len), this]
    exact key _ (ev_evo hx (.head _))) hob

/-- A struct or an array out of one's own row. -/
theorem v_lra {s : St} {all : List Oper} {T off b : Nat} {x : Operand} {sz : Nat} [TyA P T true sz] {m cap sz' : Nat} {xs l' : List Value} {T' : TypeId} {gd : Option Bool} {d : Nat}
    (hx : evo f σ x = some (.pointer (some ⟨b, off, none⟩)) := by exact rfl) (hm : En.row (some ⟨b, 0, none⟩) m cap xs T' sz' ∈ s.L := by repeat (first | exact List.Mem.head _ | apply List.Mem.tail)) (hv : sub xs off sz = some l' := by first | exact rfl | assumption) (hd : dst = some d := by exact rfl) (hn : Nat.ble (d + 1) n = true := by exact rfl) (hg : gdOf f σ all guard = some gd := by exact rfl) (hob : gob f σ (gdc gd) (tmpsOf [x]) := by first | exact trivial | exact ⟨id, trivial⟩) :
    Val P n f σ all s ⟨dst, .load T x, ty, pos, after, guard⟩ d gd (.agg l'.toArray) :=
  .of hd hn hg (fun _ hW => ld_key (run_loadVar_a (sub_get hv).1 (fun j v hj => by
    have := (row_cell (hW.own _ hm) ((sub_get hv).2 j v hj)).2.2
    simpa [pb, po] using this)) hx) hob

/-- 'clear' of a part of one's own slice. -/
theorem f_cl {T e : TypeId} [TySlice P T e] {agg : Bool} {sz : Nat} [TyA P e agg sz] {z : List Value} [hz : TyZ P e z] {x : Operand} {b off dl dc m cap : Nat} {xs xs' : List Value} {T' : TypeId} {L' : Hp}
    (h : K σ ⟨w0, F, L'⟩) (h0 : 0 < dl) (hzl : z.length = sz) (hpl : ∀ u ∈ zeros z (dl * sz), plain u = true) (hfit : off + dl * sz ≤ m * sz)
    (hl : splice xs off (zeros z (dl * sz)) = xs')
    (hx : evo f σ x = some (.slice (some ⟨b, off, none⟩) dl dc) := by exact rfl)
    (hu : Upd L (.row (some ⟨b, 0, none⟩) m cap xs T' sz) (.row (some ⟨b, 0, none⟩) m cap xs' T' sz) L' := by repeat (first | exact Upd.head | apply Upd.tail))
    (hcx : (sv f σ x).cnd = true := by exact rfl) (hd : dst = none := by exact rfl) (hg : guard = none := by exact rfl) :
    Ef P n f σ ⟨w0, F, L⟩ ⟨dst, .call { callee := .builtin .clear, args := #[x], argTypes := #[T] }, ty, pos, after, guard⟩ K := by
  subst hl hd hg
  refine ⟨rfl, fun Q a w hrep hs N hN => ?_⟩
  unfold Oper.wp
  have hlz : (zeros z (dl * sz)).length = dl * sz := zeros_length _ _
  obtain ⟨cur, hb, hst, hat⟩ := run_storeRow (P := P) (off := off) (hs.own _ hu.mem) (ys := zeros z (dl * sz)) hpl (by rw [hlz]; omega)
  obtain ⟨zv, hzv, hzc⟩ := run_zeroValue (P := P) (T := e) (z := z) w
  have hzs : zv.cells.size = sz := by rw [← Array.length_toList, hzc]; exact hzl
  have hcells : (Builtin.zeroCells zv.cells dl).toList = zeros z (dl * sz) := by
    simp only [Builtin.zeroCells, zeros, Array.toList_map, Array.toList_range, ← hzc, Array.length_toList, hzs]
    apply List.map_congr_left
    intro j _
    rw [getElem!_def, getElem!_def, Array.getElem?_toList]
  obtain ⟨dl', rfl⟩ : ∃ dl', dl = dl' + 1 := ⟨dl - 1, by omega⟩
  have he : (execOp a.eval (⟨none, .call { callee := .builtin .clear, args := #[x], argTypes := #[T] }, ty, pos, after, none⟩ : Oper)).run P w = .ok (.value (.tuple #[])) (w.setRow b (splice cur.toList off (zeros z ((dl' + 1) * sz))).toArray) := by
    simp [execOp, resolve, invoke, builtin, hrep.eval, ev_of_evo hx hcx, Builtin.clear_, run_underSlice (P := P) (T := T) (e := e), hzv, hcells, hst]
  rw [he]
  simp only [Oper.upon]
  refine hN _ _ _ _ h (hrep.put_none _) (hs.upd hu rfl rfl rfl (by simp) (fun k' _ hk => ?_) hat (fun b' hb' => .inl hb'))
  exact setRow_other w b k' _ (fun e => hk (by simp [En.blk, e]))
end
end Go.Cf

namespace Go.Proofs
open Go.Cf
set_option maxRecDepth 10000

instance : TyZ Tryz.prog 55 pgZ := ⟨by kernel_rfl⟩

/-- Where a page's triplets lie. -/
def ExL (p : Option Addr) (c : Nat) (l : List Tr) (L : Hp) : Prop := (l = [] ∧ p = none ∧ c = 0 ∧ L = []) ∨ (l ≠ [] ∧ L = [.row p l.length c (trsC l) 143 3])

/-- A page's triplets, which lie somewhere. -/
structure ExI (w : World) (F : List Nat) (p : Option Addr) (c : Nat) (l : List Tr) : Prop where
  sl : Sl w F p l.length 3 (trsC l)
  nil : l = [] → p = none ∧ c = 0
  le : l.length ≤ 100000

theorem trsC_plain (l : List Tr) : ∀ u ∈ trsC l, plain u = true := by
  intro u hu
  simp only [trsC, List.mem_flatMap] at hu
  obtain ⟨t, _, ht⟩ := hu
  simp only [trC, List.mem_cons, List.not_mem_nil, or_false] at ht
  rcases ht with rfl | rfl | rfl <;> rfl

theorem clone3_does (l : List Tr) (p : Option Addr) (c m : Nat) (w : World) (hm : l.length = m) (hs : ExI w [] p c l) :
    Does Tryz.prog 146 [.slice p m c] w [] (fun v L => ∃ q d, v = .slice q l.length d ∧ ExL q d l L) := by
  subst hm
  refine does_of Tryz.func146 rfl rfl ?_
  by_cases h0 : l = []
  · subst h0
    obtain ⟨rfl, rfl⟩ := hs.nil rfl
    repeat (first | refine r_seq ?_ | refine r_nil ?_ | refine r_region ?_ | refine r_skip ?_ | refine r_block ?_ | refine r_inBlock ?_ | refine x_ ?_ | refine w_ v_p ?_ | refine w_ v_cv ?_ | refine w_ v_and ?_ | refine w_ v_or ?_ | refine w_ v_f ?_ | refine w_ v_b ?_ | refine w_ v_r ?_ | refine w_ v_i ?_ | refine w_ v_a ?_ | refine w_ v_l ?_ | refine w_ v_la ?_ | refine w_ v_ls ?_ | refine w_ v_lr ?_ | refine w_ v_ln ?_ | refine w_ v_bd ?_ | refine w_ v_ba ?_ | refine w_ v_mf ?_ | refine w_ v_sap ?_ | refine w_ v_pkf ?_ | refine w_ v_pkt ?_ | refine w_ v_nl ?_ | refine w_ v_nn ?_ | refine e_ (f_st ?_) | refine e_ (f_al fun _ => ?_) | refine e_ (f_bx fun _ => ?_))
    refine c_ (t := true) (fun _ => ?_) (fun h => by cases h)
    repeat (first | refine r_seq ?_ | refine r_nil ?_ | refine r_region ?_ | refine r_skip ?_ | refine r_block ?_ | refine r_inBlock ?_ | refine x_ ?_ | refine w_ v_p ?_ | refine w_ v_cv ?_ | refine w_ v_and ?_ | refine w_ v_or ?_ | refine w_ v_f ?_ | refine w_ v_b ?_ | refine w_ v_r ?_ | refine w_ v_i ?_ | refine w_ v_a ?_ | refine w_ v_l ?_ | refine w_ v_la ?_ | refine w_ v_ls ?_ | refine w_ v_lr ?_ | refine w_ v_ln ?_ | refine w_ v_bd ?_ | refine w_ v_ba ?_ | refine w_ v_mf ?_ | refine w_ v_sap ?_ | refine w_ v_pkf ?_ | refine w_ v_pkt ?_ | refine w_ v_nl ?_ | refine w_ v_nn ?_ | refine e_ (f_st ?_) | refine e_ (f_al fun _ => ?_) | refine e_ (f_bx fun _ => ?_))
    refine t_ rfl (.tmp rfl .nil) (List.nil_sublist _) ⟨none, 0, rfl, .inl ⟨rfl, rfl, rfl, rfl⟩⟩
  · have hpos : 0 < l.length := List.length_pos_iff.2 h0
    have hp : nilOf 2 (.slice p l.length c) = some false := by rw [hs.sl.ptr hpos]; rfl
    have hle := hs.le
    repeat (first | refine w_ (v_nl (hv := hp)) ?_ | refine r_seq ?_ | refine r_nil ?_ | refine r_region ?_ | refine r_skip ?_ | refine r_block ?_ | refine r_inBlock ?_ | refine x_ ?_ | refine w_ v_p ?_ | refine w_ v_cv ?_ | refine w_ v_and ?_ | refine w_ v_or ?_ | refine w_ v_f ?_ | refine w_ v_b ?_ | refine w_ v_r ?_ | refine w_ v_i ?_ | refine w_ v_a ?_ | refine w_ v_l ?_ | refine w_ v_la ?_ | refine w_ v_ls ?_ | refine w_ v_lr ?_ | refine w_ v_ln ?_ | refine w_ v_bd ?_ | refine w_ v_ba ?_ | refine w_ v_mf ?_ | refine w_ v_sap ?_ | refine w_ v_pkf ?_ | refine w_ v_pkt ?_ | refine w_ v_nl ?_ | refine w_ v_nn ?_ | refine e_ (f_st ?_) | refine e_ (f_al fun _ => ?_) | refine e_ (f_bx fun _ => ?_))
    refine c_ (t := false) (fun h => by cases h) (fun _ => ?_)
    repeat (first | refine r_seq ?_ | refine r_nil ?_ | refine r_region ?_ | refine r_skip ?_ | refine r_block ?_ | refine r_inBlock ?_ | refine x_ ?_ | refine w_ v_p ?_ | refine w_ v_cv ?_ | refine w_ v_and ?_ | refine w_ v_or ?_ | refine w_ v_f ?_ | refine w_ v_b ?_ | refine w_ v_r ?_ | refine w_ v_i ?_ | refine w_ v_a ?_ | refine w_ v_l ?_ | refine w_ v_la ?_ | refine w_ v_ls ?_ | refine w_ v_lr ?_ | refine w_ v_ln ?_ | refine w_ v_bd ?_ | refine w_ v_ba ?_ | refine w_ v_mf ?_ | refine w_ v_sap ?_ | refine w_ v_pkf ?_ | refine w_ v_pkt ?_ | refine w_ v_nl ?_ | refine w_ v_nn ?_ | refine e_ (f_st ?_) | refine e_ (f_al fun _ => ?_) | refine e_ (f_bx fun _ => ?_))
    refine e_ (f_bs (l := []) fun _ => ?_)
    refine r_cr 0 3 ?_
    repeat (first | refine r_seq ?_ | refine r_nil ?_ | refine r_region ?_ | refine r_skip ?_ | refine r_block ?_ | refine r_inBlock ?_ | refine x_ ?_ | refine w_ v_p ?_ | refine w_ v_cv ?_ | refine w_ v_and ?_ | refine w_ v_or ?_ | refine w_ v_f ?_ | refine w_ v_b ?_ | refine w_ v_r ?_ | refine w_ v_i ?_ | refine w_ v_a ?_ | refine w_ v_l ?_ | refine w_ v_la ?_ | refine w_ v_ls ?_ | refine w_ v_lr ?_ | refine w_ v_ln ?_ | refine w_ v_bd ?_ | refine w_ v_ba ?_ | refine w_ v_mf ?_ | refine w_ v_sap ?_ | refine w_ v_pkf ?_ | refine w_ v_pkt ?_ | refine w_ v_nl ?_ | refine w_ v_nn ?_ | refine e_ (f_st ?_) | refine e_ (f_al fun _ => ?_) | refine e_ (f_bx fun _ => ?_))
    refine e_ (f_a (fun w hw => hs.sl.now hw) (trsC_plain l) fun q c => ?_)
    repeat (first | refine r_seq ?_ | refine r_nil ?_ | refine r_region ?_ | refine r_skip ?_ | refine r_block ?_ | refine r_inBlock ?_ | refine x_ ?_ | refine w_ v_p ?_ | refine w_ v_cv ?_ | refine w_ v_and ?_ | refine w_ v_or ?_ | refine w_ v_f ?_ | refine w_ v_b ?_ | refine w_ v_r ?_ | refine w_ v_i ?_ | refine w_ v_a ?_ | refine w_ v_l ?_ | refine w_ v_la ?_ | refine w_ v_ls ?_ | refine w_ v_lr ?_ | refine w_ v_ln ?_ | refine w_ v_bd ?_ | refine w_ v_ba ?_ | refine w_ v_mf ?_ | refine w_ v_sap ?_ | refine w_ v_pkf ?_ | refine w_ v_pkt ?_ | refine w_ v_nl ?_ | refine w_ v_nn ?_ | refine e_ (f_st ?_) | refine e_ (f_al fun _ => ?_) | refine e_ (f_bx fun _ => ?_))
    refine t_ rfl (.tmp rfl .nil) (List.Sublist.refl _) ⟨q, c, ?_, .inr ⟨h0, ?_⟩⟩
    · show Value.slice q (0 + l.length) c = _
      rw [Nat.zero_add]
    · show [En.row q (0 + l.length) c ([] ++ trsC l) 143 3] = _
      rw [Nat.zero_add, List.nil_append]

theorem mul64_does (n : Nat) (w : World) (hn : n = 8 ∨ n = 40) : Does Tryz.prog 249 [.int .u64 1, .int .u64 n] w [] (fun v L => v = .tuple #[.int .u64 0, .int .u64 n] ∧ L = []) := by
  refine does_of Tryz.func249 rfl rfl ?_
  repeat (first | refine r_seq ?_ | refine r_nil ?_ | refine r_region ?_ | refine r_skip ?_ | refine r_block ?_ | refine r_inBlock ?_ | refine x_ ?_ | refine w_ v_p ?_ | refine w_ v_cv ?_ | refine w_ v_and ?_ | refine w_ v_or ?_ | refine w_ v_f ?_ | refine w_ v_b ?_ | refine w_ v_r ?_ | refine w_ v_i ?_ | refine w_ v_a ?_ | refine w_ v_l ?_ | refine w_ v_la ?_ | refine w_ v_ls ?_ | refine w_ v_lr ?_ | refine w_ v_ln ?_ | refine w_ v_bd ?_ | refine w_ v_ba ?_ | refine w_ v_mf ?_ | refine w_ v_sap ?_ | refine w_ v_pkf ?_ | refine w_ v_pkt ?_ | refine w_ v_nl ?_ | refine w_ v_nn ?_ | refine e_ (f_st ?_) | refine e_ (f_al fun _ => ?_) | refine e_ (f_bx fun _ => ?_))
  refine t_ rfl (.tmp rfl (.tmp rfl .nil)) (List.nil_sublist _) ⟨?_, rfl⟩
  rcases hn with rfl | rfl <;> rfl

theorem mul_does (n : Nat) (w : World) (hn : n = 8 ∨ n = 40) : Does Tryz.prog 228 [.int .u64 1, .int .u64 n] w [] (fun v L => v = .tuple #[.int .u64 0, .int .u64 n] ∧ L = []) := by
  refine does_of Tryz.func228 rfl rfl ?_
  repeat (first | refine r_seq ?_ | refine r_nil ?_ | refine r_region ?_ | refine r_skip ?_ | refine r_block ?_ | refine r_inBlock ?_ | refine x_ ?_ | refine w_ v_p ?_ | refine w_ v_cv ?_ | refine w_ v_and ?_ | refine w_ v_or ?_ | refine w_ v_f ?_ | refine w_ v_b ?_ | refine w_ v_r ?_ | refine w_ v_i ?_ | refine w_ v_a ?_ | refine w_ v_l ?_ | refine w_ v_la ?_ | refine w_ v_ls ?_ | refine w_ v_lr ?_ | refine w_ v_ln ?_ | refine w_ v_bd ?_ | refine w_ v_ba ?_ | refine w_ v_mf ?_ | refine w_ v_sap ?_ | refine w_ v_pkf ?_ | refine w_ v_pkt ?_ | refine w_ v_nl ?_ | refine w_ v_nn ?_ | refine e_ (f_st ?_) | refine e_ (f_al fun _ => ?_) | refine e_ (f_bx fun _ => ?_))
  refine c_ (t := false) (fun h => by cases h) (fun _ => ?_)
  repeat (first | refine r_seq ?_ | refine r_nil ?_ | refine r_region ?_ | refine r_skip ?_ | refine r_block ?_ | refine r_inBlock ?_ | refine x_ ?_ | refine w_ v_p ?_ | refine w_ v_cv ?_ | refine w_ v_and ?_ | refine w_ v_or ?_ | refine w_ v_f ?_ | refine w_ v_b ?_ | refine w_ v_r ?_ | refine w_ v_i ?_ | refine w_ v_a ?_ | refine w_ v_l ?_ | refine w_ v_la ?_ | refine w_ v_ls ?_ | refine w_ v_lr ?_ | refine w_ v_ln ?_ | refine w_ v_bd ?_ | refine w_ v_ba ?_ | refine w_ v_mf ?_ | refine w_ v_sap ?_ | refine w_ v_pkf ?_ | refine w_ v_pkt ?_ | refine w_ v_nl ?_ | refine w_ v_nn ?_ | refine e_ (f_st ?_) | refine e_ (f_al fun _ => ?_) | refine e_ (f_bx fun _ => ?_))
  refine e_ (f_c (fun w _ => mul64_does n w hn) fun v L' h => ?_)
  obtain ⟨rfl, rfl⟩ := h
  repeat (first | refine r_seq ?_ | refine r_nil ?_ | refine r_region ?_ | refine r_skip ?_ | refine r_block ?_ | refine r_inBlock ?_ | refine x_ ?_ | refine w_ v_p ?_ | refine w_ v_cv ?_ | refine w_ v_and ?_ | refine w_ v_or ?_ | refine w_ v_f ?_ | refine w_ v_b ?_ | refine w_ v_r ?_ | refine w_ v_i ?_ | refine w_ v_a ?_ | refine w_ v_l ?_ | refine w_ v_la ?_ | refine w_ v_ls ?_ | refine w_ v_lr ?_ | refine w_ v_ln ?_ | refine w_ v_bd ?_ | refine w_ v_ba ?_ | refine w_ v_mf ?_ | refine w_ v_sap ?_ | refine w_ v_pkf ?_ | refine w_ v_pkt ?_ | refine w_ v_nl ?_ | refine w_ v_nn ?_ | refine e_ (f_st ?_) | refine e_ (f_al fun _ => ?_) | refine e_ (f_bx fun _ => ?_))
  exact t_ rfl (.tmp rfl (.tmp rfl .nil)) (List.nil_sublist _) ⟨rfl, rfl⟩
end Go.Proofs

namespace Go.Proofs
open Go.Cf
set_option maxRecDepth 10000

theorem rep_split (b : UInt8) (i n : Nat) (hi : i ≤ n) : splice (bys (List.replicate i b ++ List.replicate (n - i) 0)) i (bys (List.replicate (min i (n - i)) b)) = bys (List.replicate (i + min i (n - i)) b ++ List.replicate (n - (i + min i (n - i))) 0) := by
  have h1 : List.replicate (n - i) (0 : UInt8) = List.replicate (min i (n - i)) 0 ++ List.replicate (n - (i + min i (n - i))) 0 := by
    rw [List.replicate_append_replicate]; congr 1; omega
  rw [h1, bys_append, bys_append]
  rw [spl_at (by simp [bys]) (by simp [bys])]
  rw [← bys_append, ← bys_append, ← List.append_assoc, List.replicate_append_replicate]

theorem repeat_does (b : UInt8) (p : Option Addr) (c n : Nat) (w : World) (hn : n = 8 ∨ n = 40) (hs : Sl w [] p 1 1 (bys [b])) :
    Does Tryz.prog 187 [.slice p 1 c, .int .i64 n] w [] (fun v L => ∃ q d, v = .slice q n d ∧ L = [.row q n d (bys (List.replicate n b)) 5 1]) := by
  refine does_of Tryz.func187 rfl rfl ?_
  have hnb : n ≤ 40 := by omega
  have hn0 : 8 ≤ n := by omega
  repeat (first | refine r_seq ?_ | refine r_nil ?_ | refine r_region ?_ | refine r_skip ?_ | refine r_block ?_ | refine r_inBlock ?_ | refine x_ ?_ | refine w_ v_p ?_ | refine w_ v_cv ?_ | refine w_ v_and ?_ | refine w_ v_or ?_ | refine w_ v_f ?_ | refine w_ v_b ?_ | refine w_ v_r ?_ | refine w_ v_i ?_ | refine w_ v_a ?_ | refine w_ v_l ?_ | refine w_ v_la ?_ | refine w_ v_ls ?_ | refine w_ v_lr ?_ | refine w_ v_ln ?_ | refine w_ v_bd ?_ | refine w_ v_ba ?_ | refine w_ v_mf ?_ | refine w_ v_sap ?_ | refine w_ v_pkf ?_ | refine w_ v_pkt ?_ | refine w_ v_nl ?_ | refine w_ v_nn ?_ | refine e_ (f_st ?_) | refine e_ (f_al fun _ => ?_) | refine e_ (f_bx fun _ => ?_))
  refine c_ (t := false) (fun h => by cases h) (fun _ => ?_) (by
    have : decide ((n : Int) < 0) = false := by simp
    exact congrArg (fun x => some (Value.bool x)) this)
  repeat (first | refine w_ (v_cv (hc := wrap_u64 (by omega))) ?_ | refine r_seq ?_ | refine r_nil ?_ | refine r_region ?_ | refine r_skip ?_ | refine r_block ?_ | refine r_inBlock ?_ | refine x_ ?_ | refine w_ v_p ?_ | refine w_ v_cv ?_ | refine w_ v_and ?_ | refine w_ v_or ?_ | refine w_ v_f ?_ | refine w_ v_b ?_ | refine w_ v_r ?_ | refine w_ v_i ?_ | refine w_ v_a ?_ | refine w_ v_l ?_ | refine w_ v_la ?_ | refine w_ v_ls ?_ | refine w_ v_lr ?_ | refine w_ v_ln ?_ | refine w_ v_bd ?_ | refine w_ v_ba ?_ | refine w_ v_mf ?_ | refine w_ v_sap ?_ | refine w_ v_pkf ?_ | refine w_ v_pkt ?_ | refine w_ v_nl ?_ | refine w_ v_nn ?_ | refine e_ (f_st ?_) | refine e_ (f_al fun _ => ?_) | refine e_ (f_bx fun _ => ?_))
  refine e_ (f_c (fun w _ => mul_does n w hn) fun v L' h => ?_)
  obtain ⟨rfl, rfl⟩ := h
  repeat (first | refine r_seq ?_ | refine r_nil ?_ | refine r_region ?_ | refine r_skip ?_ | refine r_block ?_ | refine r_inBlock ?_ | refine x_ ?_ | refine w_ v_p ?_ | refine w_ v_cv ?_ | refine w_ v_and ?_ | refine w_ v_or ?_ | refine w_ v_f ?_ | refine w_ v_b ?_ | refine w_ v_r ?_ | refine w_ v_i ?_ | refine w_ v_a ?_ | refine w_ v_l ?_ | refine w_ v_la ?_ | refine w_ v_ls ?_ | refine w_ v_lr ?_ | refine w_ v_ln ?_ | refine w_ v_bd ?_ | refine w_ v_ba ?_ | refine w_ v_mf ?_ | refine w_ v_sap ?_ | refine w_ v_pkf ?_ | refine w_ v_pkt ?_ | refine w_ v_nl ?_ | refine w_ v_nn ?_ | refine e_ (f_st ?_) | refine e_ (f_al fun _ => ?_) | refine e_ (f_bx fun _ => ?_))
  refine c_ (t := false) (fun h => by cases h) (fun _ => ?_) (by
    have : decide ((9223372036854775807 : Int) < (n : Int)) = false := by rw [decide_eq_false_iff_not]; omega
    exact congrArg (fun x => some (Value.bool x)) this)
  repeat (first | refine r_seq ?_ | refine r_nil ?_ | refine r_region ?_ | refine r_skip ?_ | refine r_block ?_ | refine r_inBlock ?_ | refine x_ ?_ | refine w_ v_p ?_ | refine w_ v_cv ?_ | refine w_ v_and ?_ | refine w_ v_or ?_ | refine w_ v_f ?_ | refine w_ v_b ?_ | refine w_ v_r ?_ | refine w_ v_i ?_ | refine w_ v_a ?_ | refine w_ v_l ?_ | refine w_ v_la ?_ | refine w_ v_ls ?_ | refine w_ v_lr ?_ | refine w_ v_ln ?_ | refine w_ v_bd ?_ | refine w_ v_ba ?_ | refine w_ v_mf ?_ | refine w_ v_sap ?_ | refine w_ v_pkf ?_ | refine w_ v_pkt ?_ | refine w_ v_nl ?_ | refine w_ v_nn ?_ | refine e_ (f_st ?_) | refine e_ (f_al fun _ => ?_) | refine e_ (f_bx fun _ => ?_))
  refine e_ (f_mk n fun b7 => ?_)
  rw [zeros_one, Nat.mul_one]
  repeat (first | refine r_seq ?_ | refine r_nil ?_ | refine r_region ?_ | refine r_skip ?_ | refine r_block ?_ | refine r_inBlock ?_ | refine x_ ?_ | refine w_ v_p ?_ | refine w_ v_cv ?_ | refine w_ v_and ?_ | refine w_ v_or ?_ | refine w_ v_f ?_ | refine w_ v_b ?_ | refine w_ v_r ?_ | refine w_ v_i ?_ | refine w_ v_a ?_ | refine w_ v_l ?_ | refine w_ v_la ?_ | refine w_ v_ls ?_ | refine w_ v_lr ?_ | refine w_ v_ln ?_ | refine w_ v_bd ?_ | refine w_ v_ba ?_ | refine w_ v_mf ?_ | refine w_ v_sap ?_ | refine w_ v_pkf ?_ | refine w_ v_pkt ?_ | refine w_ v_nl ?_ | refine w_ v_nn ?_ | refine e_ (f_st ?_) | refine e_ (f_al fun _ => ?_) | refine e_ (f_bx fun _ => ?_))
  refine e_ (f_cp (b := b7) (off := 0) (xs' := bys (List.replicate 1 b ++ List.replicate (n - 1) 0)) (fun w hw => hs.now hw) (bys_plain _) ?_ ?_ ?_)
  rotate_left
  · omega
  · have h2 : min 1 n = 1 := by omega
    rw [h2]
    have h1 : List.replicate n (Value.int .u8 0) = .int .u8 (0 : UInt8).toNat :: List.replicate (n - 1) (.int .u8 (0 : UInt8).toNat) := by
      rw [← List.replicate_succ]; congr 1; omega
    rw [h1]
    have h3 := splice_mid [] (List.replicate (n - 1) (.int .u8 (0 : UInt8).toNat)) (.int .u8 (0 : UInt8).toNat) (.int .u8 b.toNat)
    simp only [List.nil_append, List.length_nil] at h3
    simpa [bys] using h3
  have h1n : min 1 n = 1 := by omega
  rw [h1n]
  repeat (first | refine r_seq ?_ | refine r_nil ?_ | refine r_region ?_ | refine r_skip ?_ | refine r_block ?_ | refine r_inBlock ?_ | refine x_ ?_ | refine w_ v_p ?_ | refine w_ v_cv ?_ | refine w_ v_and ?_ | refine w_ v_or ?_ | refine w_ v_f ?_ | refine w_ v_b ?_ | refine w_ v_r ?_ | refine w_ v_i ?_ | refine w_ v_a ?_ | refine w_ v_l ?_ | refine w_ v_la ?_ | refine w_ v_ls ?_ | refine w_ v_lr ?_ | refine w_ v_ln ?_ | refine w_ v_bd ?_ | refine w_ v_ba ?_ | refine w_ v_mf ?_ | refine w_ v_sap ?_ | refine w_ v_pkf ?_ | refine w_ v_pkt ?_ | refine w_ v_nl ?_ | refine w_ v_nn ?_ | refine e_ (f_st ?_) | refine e_ (f_al fun _ => ?_) | refine e_ (f_bx fun _ => ?_))
  refine r_loop (τ := Nat) (fun i => 1 ≤ i ∧ i ≤ n) (fun i => n - i) (fun i => [(7, .v (.slice (some ⟨b7, 0, none⟩) n n)), (8, .v (.int .i64 i))])
    (fun i => [.row (some ⟨b7, 0, none⟩) n n (bys (List.replicate i b ++ List.replicate (n - i) 0)) 5 1]) 1 (by omega) ⟨rfl, rfl, trivial⟩ (List.Sublist.refl _) ?_
  rintro i ⟨hi1, hi⟩ f
  repeat (first | refine r_seq ?_ | refine r_nil ?_ | refine r_region ?_ | refine r_skip ?_ | refine r_block ?_ | refine r_inBlock ?_ | refine x_ ?_ | refine w_ v_p ?_ | refine w_ v_cv ?_ | refine w_ v_and ?_ | refine w_ v_or ?_ | refine w_ v_f ?_ | refine w_ v_b ?_ | refine w_ v_r ?_ | refine w_ v_i ?_ | refine w_ v_a ?_ | refine w_ v_l ?_ | refine w_ v_la ?_ | refine w_ v_ls ?_ | refine w_ v_lr ?_ | refine w_ v_ln ?_ | refine w_ v_bd ?_ | refine w_ v_ba ?_ | refine w_ v_mf ?_ | refine w_ v_sap ?_ | refine w_ v_pkf ?_ | refine w_ v_pkt ?_ | refine w_ v_nl ?_ | refine w_ v_nn ?_ | refine e_ (f_st ?_) | refine e_ (f_al fun _ => ?_) | refine e_ (f_bx fun _ => ?_))
  refine c_ (fun h => ?_) (fun h => ?_)
  · simp only [decide_eq_true_eq] at h
    have hlt : i < n := by omega
    refine r_skip ?_
    refine r_block ?_
    refine d_in [] [] ?_
    first | (refine dp 0 ?_; first | refine tp (fun _ => v_p) ?_)
    first | (refine dp 1 ?_; first | refine tp (fun _ => v_p) ?_)
    first | (refine dp 2 ?_; first | refine tp (fun _ => v_p) ?_)
    first | (refine dp 3 ?_; first | refine tp (fun _ => v_sl) ?_ | refine tp (fun _ => v_sl) ?_)
    first | (refine dp 4 ?_; first | refine tp (fun _ => v_p) ?_)
    first | (refine dp 5 ?_; first | refine tp (fun _ => v_p) ?_)
    first | (refine dp 6 ?_; first | refine tp (fun _ => v_sh) ?_ | refine tp (fun _ => v_sl) ?_)
    have hin : ((i : Nat) : Int).toNat = i := by omega
    refine d_as 41 (v' := .slice (some ⟨b7, i, none⟩) (n - i) (n - i)) ?_ ?_
    · show Value.slice (slp (some ⟨b7, 0, none⟩) n ((i : Nat) : Int).toNat 1) (n - ((i : Nat) : Int).toNat) (n - ((i : Nat) : Int).toNat) = _
      rw [hin, slp, if_neg (by omega)]
      simp [add_none]
    refine d_as 44 (v' := .slice (some ⟨b7, 0, none⟩) i n) ?_ ?_
    · show Value.slice (slp (some ⟨b7, 0, none⟩) n 0 1) (((i : Nat) : Int).toNat - 0) (n - 0) = _
      rw [hin, slp, if_neg (by omega)]
      simp [add_none]
    refine d_e 7 ?_
    refine f_cp (b := b7) (off := i) (m2 := i) (xs' := bys (List.replicate (i + min i (n - i)) b ++ List.replicate (n - (i + min i (n - i))) 0)) (ys := bys (List.replicate i b)) (fun w hw => ?_) (bys_plain _) ⟨?_, ?_⟩ ?_ ?_
    · have := sl_row_part hw (.head _) 0 i (Nat.zero_le _) hi
      have e1 : slp (some ⟨b7, 0, none⟩) n 0 1 = some ⟨b7, 0, none⟩ := by rw [slp, if_neg (by omega)]; simp [add_none]
      rw [e1, bys_append] at this
      simp only [Nat.sub_zero, Nat.mul_one, List.drop_zero] at this
      rw [List.take_append_of_le_length (by simp [bys]), List.take_of_length_le (by simp [bys])] at this
      exact this
    · first | exact st_n | exact st_l rfl | exact st_s (by repeat (first | exact List.Sublist.refl _ | exact List.nil_sublist _ | exact List.sublist_append_right _ _ | apply List.Sublist.cons_cons | apply List.Sublist.cons))
    · first | (refine dp 8 ?_; first | refine tp (fun _ => v_p) ?_ | refine tp (fun _ => v_nl) ?_ | refine tp (fun _ => v_nn) ?_ | refine tp (fun _ => v_bq) ?_)
      first | (refine dp 9 ?_; first | refine tp (fun _ => v_p) ?_)
      refine d_z ?_
      repeat (first | refine r_seq ?_ | refine r_nil ?_ | refine r_region ?_ | refine r_skip ?_ | refine r_block ?_ | refine r_inBlock ?_ | refine x_ ?_ | refine w_ v_p ?_ | refine w_ v_cv ?_ | refine w_ v_and ?_ | refine w_ v_or ?_ | refine w_ v_f ?_ | refine w_ v_b ?_ | refine w_ v_r ?_ | refine w_ v_i ?_ | refine w_ v_a ?_ | refine w_ v_l ?_ | refine w_ v_la ?_ | refine w_ v_ls ?_ | refine w_ v_lr ?_ | refine w_ v_ln ?_ | refine w_ v_bd ?_ | refine w_ v_ba ?_ | refine w_ v_mf ?_ | refine w_ v_sap ?_ | refine w_ v_pkf ?_ | refine w_ v_pkt ?_ | refine w_ v_nl ?_ | refine w_ v_nn ?_ | refine e_ (f_st ?_) | refine e_ (f_al fun _ => ?_) | refine e_ (f_bx fun _ => ?_))
      exact r_again (i + min i (n - i)) (by omega) (by omega) ⟨rfl, congrArg (Value.int .i64) (by omega), trivial⟩ (List.Sublist.refl _)
    · simp only [Nat.mul_one]; omega
    · have := rep_split b i n hi
      rw [← this, bys_take, Nat.mul_one, List.take_replicate]
      congr 3; omega
  · simp only [decide_eq_false_iff_not] at h
    have hin : i = n := by omega
    subst hin
    repeat (first | refine r_seq ?_ | refine r_nil ?_ | refine r_region ?_ | refine r_skip ?_ | refine r_block ?_ | refine r_inBlock ?_ | refine x_ ?_ | refine w_ v_p ?_ | refine w_ v_cv ?_ | refine w_ v_and ?_ | refine w_ v_or ?_ | refine w_ v_f ?_ | refine w_ v_b ?_ | refine w_ v_r ?_ | refine w_ v_i ?_ | refine w_ v_a ?_ | refine w_ v_l ?_ | refine w_ v_la ?_ | refine w_ v_ls ?_ | refine w_ v_lr ?_ | refine w_ v_ln ?_ | refine w_ v_bd ?_ | refine w_ v_ba ?_ | refine w_ v_mf ?_ | refine w_ v_sap ?_ | refine w_ v_pkf ?_ | refine w_ v_pkt ?_ | refine w_ v_nl ?_ | refine w_ v_nn ?_ | refine e_ (f_st ?_) | refine e_ (f_al fun _ => ?_) | refine e_ (f_bx fun _ => ?_))
    refine t_ rfl (.tmp rfl .nil) (List.Sublist.refl _) ⟨some ⟨b7, 0, none⟩, i, rfl, ?_⟩
    rw [Nat.sub_self, List.replicate_zero, List.append_nil]
end Go.Proofs

namespace Go.Cf
def rowG (g : Pg) (row : Nat) (d : List UInt8) : Pg :=
  if row = 0 ∨ 24 < row then g else { g with rows := updF g.rows row (mergeR (g.rows row) d (g.there row)), there := updF g.there row true }
def baseG (h : Hd) (old : Pg) (had : Bool) : Pg := if had && !h.c 0 then old else pg0
def newG (h : Hd) (t : List UInt8) (old : Pg) (had : Bool) : Pg :=
  { baseG h old had with hd := h, rows := updF (baseG h old had).rows 0 (mergeR ((baseG h old had).rows 0) (List.replicate 8 (makeOdd 0x20) ++ t) ((baseG h old had).there 0)), there := updF (baseG h old had).there 0 true }
end Go.Cf
namespace Go.Proofs
open Go.Cf
set_option maxRecDepth 10000

/-- What a page's maker hands back. -/
def PageR (g : Pg) (v : Value) (L : Hp) : Prop := ∃ q d, v = .agg (pgC g q d).toArray ∧ ExL q d g.extra L

theorem row_does (g : Pg) (p : Option Addr) (c row : Nat) (d : List UInt8) (q : Option Addr) (m cd : Nat) (w : World) (hm : d.length = m) (hr : row < 100) (hx : ExI w [] p c g.extra) (hs : Sl w [] q m 1 (bys d)) :
    Does Tryz.prog 132 [.agg (pgC g p c).toArray, .int .i64 row, .slice q m cd] w [] (PageR (rowG g row d)) := by
  refine does_of Tryz.func132 rfl rfl ?_
  repeat (first | refine e_ (f_bx fun b3 => ?_) | refine e_ (f_al fun b6 => ?_) | refine w_ (v_l (hv := pg_extra rfl)) ?_ | refine r_seq ?_ | refine r_nil ?_ | refine r_region ?_ | refine r_skip ?_ | refine r_block ?_ | refine r_inBlock ?_ | refine x_ ?_ | refine w_ v_p ?_ | refine w_ v_cv ?_ | refine w_ v_and ?_ | refine w_ v_or ?_ | refine w_ v_f ?_ | refine w_ v_b ?_ | refine w_ v_r ?_ | refine w_ v_i ?_ | refine w_ v_a ?_ | refine w_ v_l ?_ | refine w_ v_la ?_ | refine w_ v_ls ?_ | refine w_ v_lr ?_ | refine w_ v_ln ?_ | refine w_ v_bd ?_ | refine w_ v_ba ?_ | refine w_ v_mf ?_ | refine w_ v_sap ?_ | refine w_ v_pkf ?_ | refine w_ v_pkt ?_ | refine w_ v_nl ?_ | refine w_ v_nn ?_ | refine e_ (f_st ?_) | refine e_ (f_al fun _ => ?_) | refine e_ (f_bx fun _ => ?_))
  refine e_ (f_c (fun w hw => clone3_does g.extra p c _ w rfl ⟨hx.sl.now hw, hx.nil, hx.le⟩) fun v L' h => ?_)
  obtain ⟨p2, c2, rfl, hL⟩ := h
  refine r_swap ?_
  dsimp only [List.cons_append, List.nil_append]
  repeat (first | refine e_ (f_st (hl := pg_sExtra (l := g.extra) rfl rfl) (hr := pgb (by omega)) ?_) | refine r_seq ?_ | refine r_nil ?_ | refine r_region ?_ | refine r_skip ?_ | refine r_block ?_ | refine r_inBlock ?_ | refine x_ ?_ | refine w_ v_p ?_ | refine w_ v_cv ?_ | refine w_ v_and ?_ | refine w_ v_or ?_ | refine w_ v_f ?_ | refine w_ v_b ?_ | refine w_ v_r ?_ | refine w_ v_i ?_ | refine w_ v_a ?_ | refine w_ v_l ?_ | refine w_ v_la ?_ | refine w_ v_ls ?_ | refine w_ v_lr ?_ | refine w_ v_ln ?_ | refine w_ v_bd ?_ | refine w_ v_ba ?_ | refine w_ v_mf ?_ | refine w_ v_sap ?_ | refine w_ v_pkf ?_ | refine w_ v_pkt ?_ | refine w_ v_nl ?_ | refine w_ v_nn ?_ | refine e_ (f_st ?_) | refine e_ (f_al fun _ => ?_) | refine e_ (f_bx fun _ => ?_))
  refine c_ (fun h => ?_) (fun h => ?_)
  · simp only [Bool.or_eq_true, decide_eq_true_eq] at h
    repeat (first | refine w_ (v_la (hv := pg_all rfl)) ?_ | refine e_ (f_st (hl := pg_sAll rfl) (hc := pgC_length _ _ _) (hp := pgC_plain _ _ _) (hr := pgb (by omega)) ?_) | refine r_seq ?_ | refine r_nil ?_ | refine r_region ?_ | refine r_skip ?_ | refine r_block ?_ | refine r_inBlock ?_ | refine x_ ?_ | refine w_ v_p ?_ | refine w_ v_cv ?_ | refine w_ v_and ?_ | refine w_ v_or ?_ | refine w_ v_f ?_ | refine w_ v_b ?_ | refine w_ v_r ?_ | refine w_ v_i ?_ | refine w_ v_a ?_ | refine w_ v_l ?_ | refine w_ v_la ?_ | refine w_ v_ls ?_ | refine w_ v_lr ?_ | refine w_ v_ln ?_ | refine w_ v_bd ?_ | refine w_ v_ba ?_ | refine w_ v_mf ?_ | refine w_ v_sap ?_ | refine w_ v_pkf ?_ | refine w_ v_pkt ?_ | refine w_ v_nl ?_ | refine w_ v_nn ?_ | refine e_ (f_st ?_) | refine e_ (f_al fun _ => ?_) | refine e_ (f_bx fun _ => ?_))
    refine t2 (L' := L') (.cons _ (.cons _ (List.Sublist.refl _))) ⟨p2, c2, ?_, by rw [rowG, if_pos (by omega)]; exact hL⟩ (.cella rfl (.head _) (pg_all rfl) .nil)
    rw [rowG, if_pos (by omega)]; rfl
  · simp only [Bool.or_eq_false_iff, decide_eq_false_iff_not] at h
    have h1 : row < 25 := by omega
    have h0 : ¬ (row = 0 ∨ 24 < row) := by omega
    refine r_skip ?_
    refine r_seq ?_
    refine d_all [13] ?_
    first | (refine dp 0 ?_; first | refine tp (fun _ => v_p) ?_)
    first | (refine dp 1 ?_; first | refine tp (fun _ => v_p) ?_)
    first | (refine dp 2 ?_; first | refine tp (fun _ => v_f) ?_)
    first | (refine dp 3 ?_; first | refine tp (fun _ => v_a) ?_ | refine tp (fun _ => v_i) ?_) | (refine dw 3 ?_; first | refine tw (v_b) ?_ | refine tw (v_r) ?_)
    first | (refine dw 4 ?_; first | refine tw (v_la (hv := pg_row (k := row) h1 (by simp))) ?_ | refine tw (v_l) ?_ | refine tw (v_la) ?_ | refine tw (v_ls) ?_ | refine tw (v_lr) ?_ | refine tw ((v_ge hG)) ?_)
    first | (refine dp 5 ?_; first | refine tp (fun _ => v_p) ?_)
    first | (refine dp 6 ?_; first | refine tp (fun _ => v_p) ?_)
    first | (refine dp 7 ?_; first | refine tp (fun _ => v_f) ?_)
    first | (refine dp 8 ?_; first | refine tp (fun _ => v_a) ?_ | refine tp (fun _ => v_i) ?_) | (refine dw 8 ?_; first | refine tw (v_b) ?_ | refine tw (v_r) ?_)
    first | (refine dw 9 ?_; first | refine tw (v_l (hv := pg_there (k := row) h1 (by simp))) ?_ | refine tw (v_l) ?_ | refine tw (v_la) ?_ | refine tw (v_ls) ?_ | refine tw (v_lr) ?_ | refine tw ((v_ge hG)) ?_)
    first | (refine dp 11 ?_; first | refine tp (fun _ => v_f) ?_)
    refine d_e 10 ?_
    refine f_c (fun w hw => merge_does (g.rows row) d (g.there row) q cd m w hm (hs.now hw)) fun v L2 h => ?_
    obtain ⟨rfl, rfl⟩ := h
    refine ⟨?_, ?_⟩
    · first | exact st_n | exact st_l rfl | exact st_s (by repeat (first | exact List.Sublist.refl _ | exact List.nil_sublist _ | exact List.sublist_append_right _ _ | apply List.Sublist.cons_cons | apply List.Sublist.cons))
    first | (refine dp 12 ?_; first | refine tp (fun _ => v_a) ?_ | refine tp (fun _ => v_i) ?_) | (refine dw 12 ?_; first | refine tw (v_b) ?_ | refine tw (v_r) ?_)
    refine d_e 13 ?_
    first | refine f_st (hl := pg_sRow (k := row) h1 (by simp)) (hc := rowC_length _) (hp := rowC_plain _) (hr := pgb (by simp; omega)) ⟨?_, ?_⟩ | refine f_st ⟨?_, ?_⟩
    · first | exact st_n | exact st_l rfl | exact st_s (by repeat (first | exact List.Sublist.refl _ | exact List.nil_sublist _ | exact List.sublist_append_right _ _ | apply List.Sublist.cons_cons | apply List.Sublist.cons))
    refine d_z ?_
    repeat (first | refine e_ (f_st (hl := pg_sThere (k := row) h1 (by simp)) (hr := pgb (by simp; omega)) ?_) | refine w_ (v_la (hv := pg_all rfl)) ?_ | refine e_ (f_st (hl := pg_sAll rfl) (hc := pgC_length _ _ _) (hp := pgC_plain _ _ _) (hr := pgb (by omega)) ?_) | refine r_seq ?_ | refine r_nil ?_ | refine r_region ?_ | refine r_skip ?_ | refine r_block ?_ | refine r_inBlock ?_ | refine x_ ?_ | refine w_ v_p ?_ | refine w_ v_cv ?_ | refine w_ v_and ?_ | refine w_ v_or ?_ | refine w_ v_f ?_ | refine w_ v_b ?_ | refine w_ v_r ?_ | refine w_ v_i ?_ | refine w_ v_a ?_ | refine w_ v_l ?_ | refine w_ v_la ?_ | refine w_ v_ls ?_ | refine w_ v_lr ?_ | refine w_ v_ln ?_ | refine w_ v_bd ?_ | refine w_ v_ba ?_ | refine w_ v_mf ?_ | refine w_ v_sap ?_ | refine w_ v_pkf ?_ | refine w_ v_pkt ?_ | refine w_ v_nl ?_ | refine w_ v_nn ?_ | refine e_ (f_st ?_) | refine e_ (f_al fun _ => ?_) | refine e_ (f_bx fun _ => ?_))
    refine t2 (L' := L') (.cons _ (.cons _ (List.Sublist.refl _))) ⟨p2, c2, ?_, by rw [rowG, if_neg h0]; exact hL⟩ (.cella rfl (.head _) (pg_all rfl) .nil)
    rw [rowG, if_neg h0]; rfl

abbrev stA {P : Program} {n : Nat} {f : Nat → Value} {σ : Bd} {w0 : World} {F : List Nat} {L : Hp} := @f_st P n f σ w0 F L

theorem newP_does (h : Hd) (t : List UInt8) (old : Pg) (had : Bool) (p : Option Addr) (c : Nat) (q : Option Addr) (m cd : Nat) (w : World) (hm : t.length = m) (hle : m ≤ 1000) (hx : ExI w [] p c old.extra) (hs : Sl w [] q m 1 (bys t)) :
    Does Tryz.prog 123 [.agg (hdC h).toArray, .slice q m cd, .agg (pgC old p c).toArray, .bool had] w [] (PageR (newG h t old had)) := by
  refine does_of Tryz.func123 rfl rfl ?_
  repeat (first | refine e_ (f_bx fun b4 => ?_) | refine e_ (f_bx fun b6 => ?_) | refine e_ (f_al fun b8 => ?_) | refine e_ (f_st (hl := pg_sAll rfl) (hc := pgC_length _ _ _) (hp := pgC_plain _ _ _) (hr := pgb (by omega)) ?_) | refine r_seq ?_ | refine r_nil ?_ | refine r_region ?_ | refine r_skip ?_ | refine r_block ?_ | refine r_inBlock ?_ | refine x_ ?_ | refine w_ v_p ?_ | refine w_ v_cv ?_ | refine w_ v_and ?_ | refine w_ v_or ?_ | refine w_ v_f ?_ | refine w_ v_b ?_ | refine w_ v_r ?_ | refine w_ v_i ?_ | refine w_ v_a ?_ | refine w_ v_l ?_ | refine w_ v_la ?_ | refine w_ v_ls ?_ | refine w_ v_lr ?_ | refine w_ v_ln ?_ | refine w_ v_bd ?_ | refine w_ v_ba ?_ | refine w_ v_mf ?_ | refine w_ v_sap ?_ | refine w_ v_pkf ?_ | refine w_ v_pkt ?_ | refine w_ v_nl ?_ | refine w_ v_nn ?_ | refine e_ (f_st ?_) | refine e_ (f_al fun _ => ?_) | refine e_ (f_bx fun _ => ?_))
  rename_i b4' b8'
  refine r_meet (τ := Option Addr × Nat × Hp) (fun t => ExL t.1 t.2.1 (baseG h old had).extra t.2.2) (fun _ => [(1, .v (.slice q m cd)), (4, .v (.pointer (some ⟨b4', 0, none⟩))), (8, .v (.pointer (some ⟨b8', 0, none⟩))), (9, .v (.pointer (some ⟨b8, 0, none⟩)))])
    (fun t => [.cells b8 (pgC (baseG h old had) t.1 t.2.1) 55, .cells b8' pgZ 55, .cells b4' (hdC h) 48] ++ t.2.2) ?_ ?_
  · refine c_ (fun h1 => ?_) (fun h1 => ?_)
    · have hb : baseG h old had = old := by rw [baseG, if_pos h1]
      rw [hb]
      repeat (first | refine w_ (v_la (hv := pg_all rfl)) ?_ | refine w_ (v_l (hv := pg_extra rfl)) ?_ | refine e_ (f_st (hl := pg_sAll rfl) (hc := pgC_length _ _ _) (hp := pgC_plain _ _ _) (hr := pgb (by omega)) ?_) | refine r_seq ?_ | refine r_nil ?_ | refine r_region ?_ | refine r_skip ?_ | refine r_block ?_ | refine r_inBlock ?_ | refine x_ ?_ | refine w_ v_p ?_ | refine w_ v_cv ?_ | refine w_ v_and ?_ | refine w_ v_or ?_ | refine w_ v_f ?_ | refine w_ v_b ?_ | refine w_ v_r ?_ | refine w_ v_i ?_ | refine w_ v_a ?_ | refine w_ v_l ?_ | refine w_ v_la ?_ | refine w_ v_ls ?_ | refine w_ v_lr ?_ | refine w_ v_ln ?_ | refine w_ v_bd ?_ | refine w_ v_ba ?_ | refine w_ v_mf ?_ | refine w_ v_sap ?_ | refine w_ v_pkf ?_ | refine w_ v_pkt ?_ | refine w_ v_nl ?_ | refine w_ v_nn ?_ | refine e_ (f_st ?_) | refine e_ (f_al fun _ => ?_) | refine e_ (f_bx fun _ => ?_))
      refine e_ (f_c (fun w hw => clone3_does old.extra p c _ w rfl ⟨hx.sl.now hw, hx.nil, hx.le⟩) fun v L' h => ?_)
      obtain ⟨p2, c2, rfl, hL⟩ := h
      refine r_swap ?_
      dsimp only [List.cons_append, List.nil_append]
      repeat (first | refine e_ (f_st (hl := pg_sExtra (l := old.extra) rfl rfl) (hr := pgb (by omega)) ?_) | refine r_seq ?_ | refine r_nil ?_ | refine r_region ?_ | refine r_skip ?_ | refine r_block ?_ | refine r_inBlock ?_ | refine x_ ?_ | refine w_ v_p ?_ | refine w_ v_cv ?_ | refine w_ v_and ?_ | refine w_ v_or ?_ | refine w_ v_f ?_ | refine w_ v_b ?_ | refine w_ v_r ?_ | refine w_ v_i ?_ | refine w_ v_a ?_ | refine w_ v_l ?_ | refine w_ v_la ?_ | refine w_ v_ls ?_ | refine w_ v_lr ?_ | refine w_ v_ln ?_ | refine w_ v_bd ?_ | refine w_ v_ba ?_ | refine w_ v_mf ?_ | refine w_ v_sap ?_ | refine w_ v_pkf ?_ | refine w_ v_pkt ?_ | refine w_ v_nl ?_ | refine w_ v_nn ?_ | refine e_ (f_st ?_) | refine e_ (f_al fun _ => ?_) | refine e_ (f_bx fun _ => ?_))
      exact r_met (p2, c2, L') hL ⟨rfl, rfl, rfl, rfl, trivial⟩ (.cons_cons _ (.cons_cons _ (.cons _ (.cons_cons _ (List.Sublist.refl _)))))
    · have hb : baseG h old had = pg0 := by rw [baseG, if_neg (by rw [h1]; decide)]
      rw [hb]
      refine r_skip ?_
      exact r_met (none, 0, []) (.inl ⟨rfl, rfl, rfl, rfl⟩) ⟨rfl, rfl, rfl, rfl, trivial⟩ (.cons_cons _ (.cons_cons _ (.cons _ (.cons_cons _ (List.Sublist.refl _)))))
  rintro ⟨p2, c2, L2⟩ hL f
  dsimp only [List.cons_append, List.nil_append]
  dsimp only at hL
  repeat (first | refine w_ (v_la (hv := sub_all (hdC_length _))) ?_ | refine e_ (f_st (hl := pg_sHd (h' := h) rfl) (hr := pgb (by omega)) ?_) | refine r_seq ?_ | refine r_nil ?_ | refine r_region ?_ | refine r_skip ?_ | refine r_block ?_ | refine r_inBlock ?_ | refine x_ ?_ | refine w_ v_p ?_ | refine w_ v_cv ?_ | refine w_ v_and ?_ | refine w_ v_or ?_ | refine w_ v_f ?_ | refine w_ v_b ?_ | refine w_ v_r ?_ | refine w_ v_i ?_ | refine w_ v_a ?_ | refine w_ v_l ?_ | refine w_ v_la ?_ | refine w_ v_ls ?_ | refine w_ v_lr ?_ | refine w_ v_ln ?_ | refine w_ v_bd ?_ | refine w_ v_ba ?_ | refine w_ v_mf ?_ | refine w_ v_sap ?_ | refine w_ v_pkf ?_ | refine w_ v_pkt ?_ | refine w_ v_nl ?_ | refine w_ v_nn ?_ | refine e_ (f_st ?_) | refine e_ (f_al fun _ => ?_) | refine e_ (f_bx fun _ => ?_))
  refine e_ (f_c (fun w hw => makeOdd_does 0x20 w) fun v L' h1 => ?_)
  obtain ⟨rfl, rfl⟩ := h1
  refine e_ (f_bs (l := bys [makeOdd 0x20]) fun b27 => ?_)
  refine e_ (f_c (fun w hw => repeat_does (makeOdd 0x20) (some ⟨b27, 0, none⟩) 1 8 w (.inl rfl) (sl_of_cells hw (.head _) rfl)) fun v L' h1 => ?_)
  obtain ⟨q2, d2, rfl, rfl⟩ := h1
  repeat (first | refine r_seq ?_ | refine r_nil ?_ | refine r_region ?_ | refine r_skip ?_ | refine r_block ?_ | refine r_inBlock ?_ | refine x_ ?_ | refine w_ v_p ?_ | refine w_ v_cv ?_ | refine w_ v_and ?_ | refine w_ v_or ?_ | refine w_ v_f ?_ | refine w_ v_b ?_ | refine w_ v_r ?_ | refine w_ v_i ?_ | refine w_ v_a ?_ | refine w_ v_l ?_ | refine w_ v_la ?_ | refine w_ v_ls ?_ | refine w_ v_lr ?_ | refine w_ v_ln ?_ | refine w_ v_bd ?_ | refine w_ v_ba ?_ | refine w_ v_mf ?_ | refine w_ v_sap ?_ | refine w_ v_pkf ?_ | refine w_ v_pkt ?_ | refine w_ v_nl ?_ | refine w_ v_nn ?_ | refine e_ (f_st ?_) | refine e_ (f_al fun _ => ?_) | refine e_ (f_bx fun _ => ?_))
  refine e_ (f_a (fun w hw => hs.now hw) (bys_plain _) fun q3 c3 => ?_)
  repeat (first | refine r_seq ?_ | refine r_nil ?_ | refine r_region ?_ | refine r_skip ?_ | refine r_block ?_ | refine r_inBlock ?_ | refine x_ ?_ | refine w_ v_p ?_ | refine w_ v_cv ?_ | refine w_ v_and ?_ | refine w_ v_or ?_ | refine w_ v_f ?_ | refine w_ v_b ?_ | refine w_ v_r ?_ | refine w_ v_i ?_ | refine w_ v_a ?_ | refine w_ v_l ?_ | refine w_ v_la ?_ | refine w_ v_ls ?_ | refine w_ v_lr ?_ | refine w_ v_ln ?_ | refine w_ v_bd ?_ | refine w_ v_ba ?_ | refine w_ v_mf ?_ | refine w_ v_sap ?_ | refine w_ v_pkf ?_ | refine w_ v_pkt ?_ | refine w_ v_nl ?_ | refine w_ v_nn ?_ | refine e_ (f_st ?_) | refine e_ (f_al fun _ => ?_) | refine e_ (f_bx fun _ => ?_))
  refine w_ (v_la (hv := pg_row (k := 0) (by omega) (by simp))) ?_
  repeat (first | refine w_ (v_l (hv := pg_there (k := 0) (by omega) (by simp))) ?_ | refine r_seq ?_ | refine r_nil ?_ | refine r_region ?_ | refine r_skip ?_ | refine r_block ?_ | refine r_inBlock ?_ | refine x_ ?_ | refine w_ v_p ?_ | refine w_ v_cv ?_ | refine w_ v_and ?_ | refine w_ v_or ?_ | refine w_ v_f ?_ | refine w_ v_b ?_ | refine w_ v_r ?_ | refine w_ v_i ?_ | refine w_ v_a ?_ | refine w_ v_l ?_ | refine w_ v_la ?_ | refine w_ v_ls ?_ | refine w_ v_lr ?_ | refine w_ v_ln ?_ | refine w_ v_bd ?_ | refine w_ v_ba ?_ | refine w_ v_mf ?_ | refine w_ v_sap ?_ | refine w_ v_pkf ?_ | refine w_ v_pkt ?_ | refine w_ v_nl ?_ | refine w_ v_nn ?_ | refine e_ (f_st ?_) | refine e_ (f_al fun _ => ?_) | refine e_ (f_bx fun _ => ?_))
  refine e_ (f_c (fun w hw => merge_does ((baseG h old had).rows 0) (List.replicate 8 (makeOdd 0x20) ++ t) ((baseG h old had).there 0) q3 c3 (8 + m) w (by rw [List.length_append, List.length_replicate, hm]) (by
    have := sl_of_row hw (p := q3) (m := 8 + m) (cap := c3) (sz := 1) (xs := bys (List.replicate 8 (makeOdd 0x20)) ++ bys t) (T := 5) (.head _)
    rwa [← bys_append] at this)) fun v L' h1 => ?_)
  obtain ⟨rfl, rfl⟩ := h1
  repeat (first | refine e_ (f_st (hl := pg_sRow (k := 0) (by omega) (by simp)) (hc := rowC_length _) (hp := rowC_plain _) (hr := pgb (by simp)) ?_) | refine e_ (f_st (hl := pg_sThere (k := 0) (by omega) (by simp)) (hr := pgb (by simp)) ?_) | refine w_ (v_la (hv := pg_all rfl)) ?_ | refine e_ (f_st (hl := pg_sAll rfl) (hc := pgC_length _ _ _) (hp := pgC_plain _ _ _) (hr := pgb (by omega)) ?_) | refine r_seq ?_ | refine r_nil ?_ | refine r_region ?_ | refine r_skip ?_ | refine r_block ?_ | refine r_inBlock ?_ | refine x_ ?_ | refine w_ v_p ?_ | refine w_ v_cv ?_ | refine w_ v_and ?_ | refine w_ v_or ?_ | refine w_ v_f ?_ | refine w_ v_b ?_ | refine w_ v_r ?_ | refine w_ v_i ?_ | refine w_ v_a ?_ | refine w_ v_l ?_ | refine w_ v_la ?_ | refine w_ v_ls ?_ | refine w_ v_lr ?_ | refine w_ v_ln ?_ | refine w_ v_bd ?_ | refine w_ v_ba ?_ | refine w_ v_mf ?_ | refine w_ v_sap ?_ | refine w_ v_pkf ?_ | refine w_ v_pkt ?_ | refine w_ v_nl ?_ | refine w_ v_nn ?_ | refine e_ (f_st ?_) | refine e_ (f_al fun _ => ?_) | refine e_ (f_bx fun _ => ?_))
  refine t2 (L' := L2) (.cons _ (.cons _ (.cons _ (.cons _ (.cons _ (List.Sublist.refl _)))))) ⟨p2, c2, rfl, hL⟩ (.cella rfl (.tail _ (.tail _ (.tail _ (.head _)))) (pg_all rfl) .nil)
end Go.Proofs

namespace Go.Cf
def tr0 : Tr := ⟨0, 0, 0⟩
def padT (e : List Tr) (n : Nat) : List Tr := e ++ List.replicate (n - e.length) tr0
def extE (e : List Tr) (code : Nat) (l : List Tr) : List Tr := (padT e (13 * (code + 1))).take (13 * code) ++ (l ++ (padT e (13 * (code + 1))).drop (13 * code + 13))
def extG (g : Pg) (code : Nat) (l : List Tr) : Pg := if 16 ≤ code then g else { g with extra := extE g.extra code l }
theorem padT_length (e : List Tr) (n : Nat) : (padT e n).length = max e.length n := by simp [padT]; omega
theorem extE_length (e : List Tr) (code : Nat) (l : List Tr) (hl : l.length = 13) : (extE e code l).length = (padT e (13 * (code + 1))).length := by
  simp only [extE, List.length_append, List.length_take, List.length_drop, padT_length, hl]; omega
theorem trsC_append (a b : List Tr) : trsC (a ++ b) = trsC a ++ trsC b := by simp [trsC]
theorem trsC_take (l : List Tr) (n : Nat) : (trsC l).take (n * 3) = trsC (l.take n) := by
  induction l generalizing n with
  | nil => simp [trsC]
  | cons t r ih =>
    cases n with
    | zero => simp [trsC]
    | succ n =>
      have := ih n
      simp only [trsC, List.flatMap_cons, List.take_succ_cons] at this ⊢
      rw [show (n + 1) * 3 = (trC t).length + n * 3 from by simp; omega, List.take_append, List.take_of_length_le (by omega), show (trC t).length + n * 3 - (trC t).length = n * 3 from by omega, this]
theorem trsC_splice (x y : List Tr) (k off : Nat) (ho : off = k * 3) (h : k + y.length ≤ x.length) : splice (trsC x) off (trsC y) = trsC (x.take k ++ (y ++ x.drop (k + y.length))) := by
  subst ho
  have h1 : x = x.take k ++ ((x.drop k).take y.length ++ x.drop (k + y.length)) := by
    rw [← List.drop_drop, List.take_append_drop, List.take_append_drop]
  conv => lhs; rw [h1]
  rw [trsC_append, trsC_append, trsC_append, trsC_append]
  exact spl_at (by rw [trsC_length, List.length_take]; congr 1; omega) (by rw [trsC_length, trsC_length, List.length_take, List.length_drop]; congr 1; omega)
theorem pg_ex {g : Pg} {p : Option Addr} {c : Nat} {l l' : List Tr} (h : l.length = l'.length) : pgC { g with extra := l } p c = pgC { g with extra := l' } p c := by
  rw [pgC, pgC]; simp only [h]
end Go.Cf
namespace Go.Proofs
open Go.Cf
set_option maxRecDepth 10000

theorem extra_does (g : Pg) (p : Option Addr) (c code : Nat) (l : List Tr) (q : Option Addr) (cd : Nat) (w : World) (hl : l.length = 13) (hc : code < 100) (hx : ExI w [] p c g.extra) (hs : Sl w [] q 13 3 (trsC l)) :
    Does Tryz.prog 195 [.agg (pgC g p c).toArray, .int .i64 code, .slice q 13 cd] w [] (PageR (extG g code l)) := by
  refine does_of Tryz.func195 rfl rfl ?_
  repeat (first | refine e_ (f_bx fun b3 => ?_) | refine e_ (f_al fun b6 => ?_) | refine w_ (v_l (hv := pg_extra rfl)) ?_ | refine r_seq ?_ | refine r_nil ?_ | refine r_region ?_ | refine r_skip ?_ | refine r_block ?_ | refine r_inBlock ?_ | refine x_ ?_ | refine w_ v_p ?_ | refine w_ v_cv ?_ | refine w_ v_and ?_ | refine w_ v_or ?_ | refine w_ v_f ?_ | refine w_ v_b ?_ | refine w_ v_r ?_ | refine w_ v_i ?_ | refine w_ v_a ?_ | refine w_ v_l ?_ | refine w_ v_la ?_ | refine w_ v_ls ?_ | refine w_ v_lr ?_ | refine w_ v_ln ?_ | refine w_ v_bd ?_ | refine w_ v_ba ?_ | refine w_ v_mf ?_ | refine w_ v_sap ?_ | refine w_ v_pkf ?_ | refine w_ v_pkt ?_ | refine w_ v_nl ?_ | refine w_ v_nn ?_ | refine e_ (f_st ?_) | refine e_ (f_al fun _ => ?_) | refine e_ (f_bx fun _ => ?_))
  refine e_ (f_c (fun w hw => clone3_does g.extra p c _ w rfl ⟨hx.sl.now hw, hx.nil, hx.le⟩) fun v L' h => ?_)
  obtain ⟨p2, c2, rfl, hL⟩ := h
  refine r_swap ?_
  dsimp only [List.cons_append, List.nil_append]
  repeat (first | refine e_ (f_st (hl := pg_sExtra (l := g.extra) rfl rfl) (hr := pgb (by omega)) ?_) | refine r_seq ?_ | refine r_nil ?_ | refine r_region ?_ | refine r_skip ?_ | refine r_block ?_ | refine r_inBlock ?_ | refine x_ ?_ | refine w_ v_p ?_ | refine w_ v_cv ?_ | refine w_ v_and ?_ | refine w_ v_or ?_ | refine w_ v_f ?_ | refine w_ v_b ?_ | refine w_ v_r ?_ | refine w_ v_i ?_ | refine w_ v_a ?_ | refine w_ v_l ?_ | refine w_ v_la ?_ | refine w_ v_ls ?_ | refine w_ v_lr ?_ | refine w_ v_ln ?_ | refine w_ v_bd ?_ | refine w_ v_ba ?_ | refine w_ v_mf ?_ | refine w_ v_sap ?_ | refine w_ v_pkf ?_ | refine w_ v_pkt ?_ | refine w_ v_nl ?_ | refine w_ v_nn ?_ | refine e_ (f_st ?_) | refine e_ (f_al fun _ => ?_) | refine e_ (f_bx fun _ => ?_))
  refine c_ (fun h => ?_) (fun h => ?_)
  · simp only [Bool.or_eq_true, decide_eq_true_eq] at h
    repeat (first | refine w_ (v_la (hv := pg_all rfl)) ?_ | refine e_ (f_st (hl := pg_sAll rfl) (hc := pgC_length _ _ _) (hp := pgC_plain _ _ _) (hr := pgb (by omega)) ?_) | refine r_seq ?_ | refine r_nil ?_ | refine r_region ?_ | refine r_skip ?_ | refine r_block ?_ | refine r_inBlock ?_ | refine x_ ?_ | refine w_ v_p ?_ | refine w_ v_cv ?_ | refine w_ v_and ?_ | refine w_ v_or ?_ | refine w_ v_f ?_ | refine w_ v_b ?_ | refine w_ v_r ?_ | refine w_ v_i ?_ | refine w_ v_a ?_ | refine w_ v_l ?_ | refine w_ v_la ?_ | refine w_ v_ls ?_ | refine w_ v_lr ?_ | refine w_ v_ln ?_ | refine w_ v_bd ?_ | refine w_ v_ba ?_ | refine w_ v_mf ?_ | refine w_ v_sap ?_ | refine w_ v_pkf ?_ | refine w_ v_pkt ?_ | refine w_ v_nl ?_ | refine w_ v_nn ?_ | refine e_ (f_st ?_) | refine e_ (f_al fun _ => ?_) | refine e_ (f_bx fun _ => ?_))
    refine t2 (L' := L') (.cons _ (.cons _ (List.Sublist.refl _))) ⟨p2, c2, ?_, by rw [extG, if_pos (by omega)]; exact hL⟩ (.cella rfl (.head _) (pg_all rfl) .nil)
    rw [extG, if_pos (by omega)]; rfl
  · simp only [Bool.or_eq_false_iff, decide_eq_false_iff_not] at h
    refine r_meet (τ := Unit) (fun _ => True) (fun _ => [(1, .v (.int .i64 code)), (2, .v (.slice q 13 cd)), (3, .v (.pointer (some ⟨b3, 0, none⟩))), (6, .v (.pointer (some ⟨b6, 0, none⟩)))])
      (fun _ => [.row p2 g.extra.length c2 (trsC g.extra) 143 3, .cells b3 (pgC g p2 c2) 55, .cells b6 pgZ 55]) ?_ ?_
    · rcases hL with ⟨he, rfl, rfl, rfl⟩ | ⟨he, rfl⟩
      · refine r_row (T := 143) (sz := 3) ?_
        have e1 : En.row none 0 0 [] 143 3 = En.row none g.extra.length 0 (trsC g.extra) 143 3 := by rw [he]; rfl
        rw [e1]
        refine r_skip ?_
        exact r_ord (r_met () trivial ⟨rfl, rfl, rfl, rfl, trivial⟩ (List.Sublist.refl _))
      · refine r_skip ?_
        exact r_ord (r_met () trivial ⟨rfl, rfl, rfl, rfl, trivial⟩ (List.Sublist.refl _))
    rintro - - f
    have hle := hx.le
    refine r_seq ?_
    refine r_block ?_
    refine r_loop (τ := List Tr × Option Addr × Nat) (fun t => (∃ i, t.1 = g.extra ++ List.replicate i tr0) ∧ (t.1.length ≤ 13 * (code + 1) ∨ t.1 = g.extra)) (fun t => 13 * (code + 1) - t.1.length)
      (fun _ => [(1, .v (.int .i64 code)), (2, .v (.slice q 13 cd)), (3, .v (.pointer (some ⟨b3, 0, none⟩))), (6, .v (.pointer (some ⟨b6, 0, none⟩)))])
      (fun t => [.row t.2.1 t.1.length t.2.2 (trsC t.1) 143 3, .cells b3 (pgC { g with extra := t.1 } t.2.1 t.2.2) 55, .cells b6 pgZ 55]) (g.extra, p2, c2) ⟨⟨0, by simp⟩, .inr rfl⟩ ⟨rfl, rfl, rfl, rfl, trivial⟩ (List.Sublist.refl _) ?_
    rintro ⟨x, p3, c3⟩ ⟨⟨i, hxi⟩, hxl⟩ f
    dsimp only at hxi hxl ⊢
    have hxb : x.length ≤ 200000 := by
      rcases hxl with h | h
      · omega
      · rw [h]; omega
    repeat (first | refine w_ (v_l (hv := pg_extra rfl)) ?_ | refine r_seq ?_ | refine r_nil ?_ | refine r_region ?_ | refine r_skip ?_ | refine r_block ?_ | refine r_inBlock ?_ | refine x_ ?_ | refine w_ v_p ?_ | refine w_ v_cv ?_ | refine w_ v_and ?_ | refine w_ v_or ?_ | refine w_ v_f ?_ | refine w_ v_b ?_ | refine w_ v_r ?_ | refine w_ v_i ?_ | refine w_ v_a ?_ | refine w_ v_l ?_ | refine w_ v_la ?_ | refine w_ v_ls ?_ | refine w_ v_lr ?_ | refine w_ v_ln ?_ | refine w_ v_bd ?_ | refine w_ v_ba ?_ | refine w_ v_mf ?_ | refine w_ v_sap ?_ | refine w_ v_pkf ?_ | refine w_ v_pkt ?_ | refine w_ v_nl ?_ | refine w_ v_nn ?_ | refine e_ (f_st ?_) | refine e_ (f_al fun _ => ?_) | refine e_ (f_bx fun _ => ?_))
    refine c_ (fun h1 => ?_) (fun h1 => ?_)
    · simp only [decide_eq_true_eq] at h1
      have hlt : x.length < 13 * (code + 1) := by omega
      repeat (first | refine w_ (v_l (hv := pg_extra rfl)) ?_ | refine r_seq ?_ | refine r_nil ?_ | refine r_region ?_ | refine r_skip ?_ | refine r_block ?_ | refine r_inBlock ?_ | refine x_ ?_ | refine w_ v_p ?_ | refine w_ v_cv ?_ | refine w_ v_and ?_ | refine w_ v_or ?_ | refine w_ v_f ?_ | refine w_ v_b ?_ | refine w_ v_r ?_ | refine w_ v_i ?_ | refine w_ v_a ?_ | refine w_ v_l ?_ | refine w_ v_la ?_ | refine w_ v_ls ?_ | refine w_ v_lr ?_ | refine w_ v_ln ?_ | refine w_ v_bd ?_ | refine w_ v_ba ?_ | refine w_ v_mf ?_ | refine w_ v_sap ?_ | refine w_ v_pkf ?_ | refine w_ v_pkt ?_ | refine w_ v_nl ?_ | refine w_ v_nn ?_ | refine e_ (f_st ?_) | refine e_ (f_al fun _ => ?_) | refine e_ (f_bx fun _ => ?_))
      refine e_ (f_bs (l := trsC [tr0]) fun b29 => ?_)
      refine e_ (f_a (m := x.length) (m2 := 1) (fun w hw => sl_of_cells hw (.head _) rfl) (trsC_plain _) fun q3 c3 => ?_)
      have e1 : trsC x ++ trsC [tr0] = trsC (x ++ [tr0]) := (trsC_append _ _).symm
      have e2 : x.length + 1 = (x ++ [tr0]).length := by simp
      rw [e1, e2]
      repeat (first | refine e_ (f_st (hl := pg_sExtra (l := x ++ [tr0]) rfl rfl) (hr := pgb (by omega)) ?_) | refine r_seq ?_ | refine r_nil ?_ | refine r_region ?_ | refine r_skip ?_ | refine r_block ?_ | refine r_inBlock ?_ | refine x_ ?_ | refine w_ v_p ?_ | refine w_ v_cv ?_ | refine w_ v_and ?_ | refine w_ v_or ?_ | refine w_ v_f ?_ | refine w_ v_b ?_ | refine w_ v_r ?_ | refine w_ v_i ?_ | refine w_ v_a ?_ | refine w_ v_l ?_ | refine w_ v_la ?_ | refine w_ v_ls ?_ | refine w_ v_lr ?_ | refine w_ v_ln ?_ | refine w_ v_bd ?_ | refine w_ v_ba ?_ | refine w_ v_mf ?_ | refine w_ v_sap ?_ | refine w_ v_pkf ?_ | refine w_ v_pkt ?_ | refine w_ v_nl ?_ | refine w_ v_nn ?_ | refine e_ (f_st ?_) | refine e_ (f_al fun _ => ?_) | refine e_ (f_bx fun _ => ?_))
      exact r_ord (r_again (x ++ [tr0], q3, c3) ⟨⟨i + 1, by rw [hxi, List.append_assoc, List.replicate_succ']⟩, .inl (by simp; omega)⟩ (by simp; omega) ⟨rfl, rfl, rfl, rfl, trivial⟩ (List.Sublist.refl _))
    · simp only [decide_eq_false_iff_not] at h1
      have hge : 13 * (code + 1) ≤ x.length := by omega
      have hxp : x = padT g.extra (13 * (code + 1)) := by
        rw [padT]
        rcases hxl with h | h
        · rw [hxi] at h hge ⊢
          simp only [List.length_append, List.length_replicate] at h hge
          rw [show 13 * (code + 1) - g.extra.length = i from by omega]
        · rw [h] at hge
          rw [h, show 13 * (code + 1) - g.extra.length = 0 from by omega]; simp
      have hex : extE g.extra code l = x.take (13 * code) ++ (l ++ x.drop (13 * code + 13)) := by rw [extE, ← hxp]
      have hln : x.length = (extE g.extra code l).length := by rw [extE_length _ _ _ hl, ← hxp]
      refine x_ ?_
      refine r_own (.head _) (by omega) fun b hp hcap _ _ => ?_
      subst hp
      repeat (first | refine w_ (v_l (hv := pg_extra rfl)) ?_ | refine w_ (v_sl (hb := ⟨by omega, by show (13 : Int) * (code : Int) ≤ ((x.length : Nat) : Int); omega⟩)) ?_ | refine w_ (v_sh (hb := ⟨by omega, by omega⟩)) ?_ | refine r_seq ?_ | refine r_nil ?_ | refine r_region ?_ | refine r_skip ?_ | refine r_block ?_ | refine r_inBlock ?_ | refine x_ ?_ | refine w_ v_p ?_ | refine w_ v_cv ?_ | refine w_ v_and ?_ | refine w_ v_or ?_ | refine w_ v_f ?_ | refine w_ v_b ?_ | refine w_ v_r ?_ | refine w_ v_i ?_ | refine w_ v_a ?_ | refine w_ v_l ?_ | refine w_ v_la ?_ | refine w_ v_ls ?_ | refine w_ v_lr ?_ | refine w_ v_ln ?_ | refine w_ v_bd ?_ | refine w_ v_ba ?_ | refine w_ v_mf ?_ | refine w_ v_sap ?_ | refine w_ v_pkf ?_ | refine w_ v_pkt ?_ | refine w_ v_nl ?_ | refine w_ v_nn ?_ | refine e_ (f_st ?_) | refine e_ (f_al fun _ => ?_) | refine e_ (f_bx fun _ => ?_))
      have hn : ((13 : Int) * (code : Int)).toNat = 13 * code := by omega
      have hv : Value.slice (slp (slp (some ⟨b, 0, none⟩) c3 ((13 : Int) * (code : Int)).toNat 3) (c3 - ((13 : Int) * (code : Int)).toNat) 0 3) ((13 : Int).toNat - 0) (c3 - ((13 : Int) * (code : Int)).toNat - 0) = .slice (some ⟨b, 13 * code * 3, none⟩) 13 (c3 - 13 * code) := by
        rw [hn, slp, slp, if_neg (by omega), if_neg (by omega)]
        simp [add_none]
      refine r_as 7 hv ?_
      refine r_as 38 hv ?_
      refine e_ (f_cl (sz := 3) (b := b) (off := 13 * code * 3) (m := x.length) (xs' := trsC (x.take (13 * code) ++ (List.replicate 13 tr0 ++ x.drop (13 * code + 13)))) ?_ ?_ rfl ?_ ?_ ?_)
      rotate_left
      · omega
      · exact trsC_plain (List.replicate 13 tr0)
      · omega
      · exact trsC_splice x (List.replicate 13 tr0) (13 * code) _ rfl (by simp; omega)
      repeat (first | refine r_seq ?_ | refine r_nil ?_ | refine r_region ?_ | refine r_skip ?_ | refine r_block ?_ | refine r_inBlock ?_ | refine x_ ?_ | refine w_ v_p ?_ | refine w_ v_cv ?_ | refine w_ v_and ?_ | refine w_ v_or ?_ | refine w_ v_f ?_ | refine w_ v_b ?_ | refine w_ v_r ?_ | refine w_ v_i ?_ | refine w_ v_a ?_ | refine w_ v_l ?_ | refine w_ v_la ?_ | refine w_ v_ls ?_ | refine w_ v_lr ?_ | refine w_ v_ln ?_ | refine w_ v_bd ?_ | refine w_ v_ba ?_ | refine w_ v_mf ?_ | refine w_ v_sap ?_ | refine w_ v_pkf ?_ | refine w_ v_pkt ?_ | refine w_ v_nl ?_ | refine w_ v_nn ?_ | refine e_ (f_st ?_) | refine e_ (f_al fun _ => ?_) | refine e_ (f_bx fun _ => ?_))
      refine e_ (f_cp (b := b) (off := 13 * code * 3) (m := x.length) (xs' := trsC (extE g.extra code l)) (fun w hw => hs.now hw) (trsC_plain l) ?_ ?_ ?_)
      rotate_left
      · omega
      · have htk : (trsC l).take (min 13 13 * 3) = trsC l := List.take_of_length_le (by rw [trsC_length, hl]; decide)
        rw [htk, trsC_splice _ l (13 * code) _ rfl (by simp [hl]; omega), hex]
        have ht : (x.take (13 * code)).length = 13 * code := by rw [List.length_take]; omega
        congr 1
        rw [List.take_append_of_le_length (by omega), List.take_of_length_le (by omega)]
        congr 2
        rw [List.drop_append, ht, List.drop_of_length_le (by omega), List.nil_append, hl, show 13 * code + 13 - 13 * code = 13 from by omega, List.drop_append]
        simp
      rw [pg_ex hln]
      repeat (first | refine w_ (v_la (hv := pg_all rfl)) ?_ | refine e_ (f_st (hl := pg_sAll rfl) (hc := pgC_length _ _ _) (hp := pgC_plain _ _ _) (hr := pgb (by omega)) ?_) | refine r_seq ?_ | refine r_nil ?_ | refine r_region ?_ | refine r_skip ?_ | refine r_block ?_ | refine r_inBlock ?_ | refine x_ ?_ | refine w_ v_p ?_ | refine w_ v_cv ?_ | refine w_ v_and ?_ | refine w_ v_or ?_ | refine w_ v_f ?_ | refine w_ v_b ?_ | refine w_ v_r ?_ | refine w_ v_i ?_ | refine w_ v_a ?_ | refine w_ v_l ?_ | refine w_ v_la ?_ | refine w_ v_ls ?_ | refine w_ v_lr ?_ | refine w_ v_ln ?_ | refine w_ v_bd ?_ | refine w_ v_ba ?_ | refine w_ v_mf ?_ | refine w_ v_sap ?_ | refine w_ v_pkf ?_ | refine w_ v_pkt ?_ | refine w_ v_nl ?_ | refine w_ v_nn ?_ | refine e_ (f_st ?_) | refine e_ (f_al fun _ => ?_) | refine e_ (f_bx fun _ => ?_))
      have hg : extG g code l = { g with extra := extE g.extra code l } := by rw [extG, if_neg (by omega)]
      rw [hln]
      refine t2 (.cons_cons _ (List.nil_sublist _)) ⟨some ⟨b, 0, none⟩, c3, ?_, ?_⟩ (.cella rfl (.tail _ (.tail _ (.head _))) (pg_all rfl) .nil)
      · rw [hg]; rfl
      · rw [hg]
        refine .inr ⟨fun h0 => ?_, rfl⟩
        have h0' : extE g.extra code l = [] := h0
        rw [h0'] at hln
        simp only [List.length_nil] at hln; omega
end Go.Proofs

