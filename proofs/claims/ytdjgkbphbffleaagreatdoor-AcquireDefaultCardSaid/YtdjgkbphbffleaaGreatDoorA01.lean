/-
  A layer over the walk: frames, what is known of memory, operations, statements that draw.
-/
import Derived.Calls
import Derived.Tactics
import Derived.KernelRfl
import Derived.Shelf.Abstract
import Derived.Laws.AppendOwn
import Derived.OrdersIn
import Derived.TacticsIn
import Derived.RangeFuncLeaves
import Derived.RangeFuncNested
import Derived.OrdersHeld
import Derived.Deep.RegionHeld3
import Derived.WideLaws
import Derived.Lib.SliceRun
import Derived.Laws.Pointers
import Derived.Laws.Small
import Derived.Laws.Cover3
import Derived.Laws.Slices
import Derived.Laws.MakeOwn
import Derived.Laws.CopyRow
namespace Go.Cf

/-- What a temporary holds: a value; or a value where a condition held, else nothing (the operation was guarded). -/
inductive SV where
  | v (x : Value)
  | g (c : Bool) (x : Value)

def SV.val : SV → Value
  | .v x => x
  | .g c x => match c with | true => x | false => undef

abbrev Bd := List (Nat × SV)

def look (f : Nat → Value) : Bd → Nat → SV
  | [], t => .v (f t)
  | (i, s) :: r, t => match Nat.beq i t with | true => s | false => look f r t

theorem beq_no {i t : Nat} (h : ¬ i = t) : Nat.beq i t = false := by
  cases hb : Nat.beq i t with
  | false => rfl
  | true => exact absurd (Nat.eq_of_beq_eq_true hb) h

theorem look_cons (f : Nat → Value) (i : Nat) (s : SV) (r : Bd) (t : Nat) : look f ((i, s) :: r) t = if i = t then s else look f r t := by
  simp only [look]
  by_cases h : i = t
  · subst h; simp [Nat.beq_refl]
  · have : Nat.beq i t = false := beq_no h
    simp [this, h]

/-- The mark of a range over a function: hidden behind the last temporary, as one that holds nothing. -/
def dfs : SV → List Deferred
  | .g false (.int _ D) => [{ target := .collected D.toNat, args := #[] }]
  | _ => []

/-- No mark. -/
def nod (n : Nat) : Bd → Bool
  | [] => true
  | (i, _) :: r => match Nat.beq i n with | true => false | false => nod n r

theorem nod_dfs {n : Nat} {f : Nat → Value} {σ : Bd} (h : nod n σ = true) : dfs (look f σ n) = [] := by
  induction σ with
  | nil => rfl
  | cons p r ih =>
    obtain ⟨i, x⟩ := p
    simp only [nod] at h
    simp only [look]
    cases hb : Nat.beq i n with
    | true => rw [hb] at h; cases h
    | false => rw [hb] at h; exact ih h

/-- The frame. -/
structure Rep (n : Nat) (f : Nat → Value) (σ : Bd) (a : Act) : Prop where
  size : a.tmps.size = n
  defers : a.defers = dfs (look f σ n)
  val : ∀ t, a.tmps.getD t undef = (look f σ t).val

theorem Rep.put {n : Nat} {f : Nat → Value} {σ : Bd} {a : Act} (h : Rep n f σ a) {d : Nat} (hd : d < n) (s : SV) : Rep n f ((d, s) :: σ) (a.put (some d) s.val) := by
  refine ⟨by simp [Act.put, h.size], by rw [look_cons, if_neg (by omega)]; exact h.defers, fun t => ?_⟩
  rw [look_cons]
  by_cases ht : d = t
  · subst ht
    have : d < a.tmps.size := by rw [h.size]; exact hd
    simp [Act.put, Array.getD_eq_getD_getElem?, this]
  · have := h.val t
    simp only [Act.put, ht, if_false]
    rw [← this]
    simp [Array.getD_eq_getD_getElem?, ht]

theorem Rep.put_none {n : Nat} {f : Nat → Value} {σ : Bd} {a : Act} (h : Rep n f σ a) (v : Value) : Rep n f σ (a.put none v) := h

def ev (f : Nat → Value) (σ : Bd) : Operand → Value
  | .tmp t => (look f σ t).val
  | .const v => v
  | .global g => .pointer (some ⟨g, 0, none⟩)
  | .func k => .func (.func k) #[] #[]

theorem Rep.eval {n : Nat} {f : Nat → Value} {σ : Bd} {a : Act} (h : Rep n f σ a) : a.eval = ev f σ := by
  funext x
  cases x with
  | tmp t => exact h.val t
  | const v => rfl
  | global g => rfl
  | func k => rfl

def SubF (f : Nat → Value) (σ : Bd) : Bd → Prop
  | [] => True
  | (t, s) :: r => (look f σ t).val = s.val ∧ SubF f σ r

theorem SubF.rep {n : Nat} {f : Nat → Value} {σ σ' : Bd} {a : Act} (h : Rep n f σ a) (hs : SubF f σ σ') (hn : nod n σ = true) (hn' : nod n σ' = true) : ∃ f', Rep n f' σ' a := by
  refine ⟨fun t => a.tmps.getD t undef, h.size, by rw [h.defers, nod_dfs hn, nod_dfs hn'], ?_⟩
  clear hn'
  induction σ' with
  | nil => intro t; rfl
  | cons p r ih =>
    obtain ⟨i, s⟩ := p
    intro t
    rw [look_cons]
    by_cases ht : i = t
    · subst ht; simp only [if_true]; rw [← hs.1]; exact h.val i
    · simp only [ht, if_false]; exact ih hs.2 t

/-- What is known of one's own memory: a block of cells; a map; a slice that is appended to (or nil). -/
inductive En where
  | cells (b : Nat) (l : List Value) (T : TypeId)
  | map (b : Nat) (es : List MapEntry) (clock : Nat)
  | row (p : Option Addr) (n cap : Nat) (xs : List Value) (T : TypeId) (sz : Nat)
  | obj (b : Nat) (o : Obj)

def En.blk : En → Option Nat
  | .cells b _ _ => some b
  | .map b _ _ => some b
  | .row p _ _ _ _ _ => p.map (·.block)
  | .obj b _ => some b

def En.at (w : World) : En → Prop
  | .cells b l T => w.heap[b]? = some (.cells l.toArray T (0, 0))
  | .map b es c => w.heap[b]? = some (.map es.toArray c)
  | .row p n cap xs T sz => xs.length = n * sz ∧ ((p = none ∧ n = 0 ∧ cap = 0) ∨
      ∃ b cur, p = some ⟨b, 0, none⟩ ∧ w.heap[b]? = some (.cells cur T (0, 0)) ∧ n ≤ cap ∧ cap ≤ maxLen ∧ cur.size = cap * sz ∧ cur.toList.take (n * sz) = xs)
  | .obj b o => w.heap[b]? = some o

theorem En.at_congr {w w' : World} {e : En} (h : ∀ b, e.blk = some b → w'.heap[b]? = w.heap[b]?) (ha : e.at w) : e.at w' := by
  cases e with
  | cells b l T => simpa [En.at, h b rfl] using ha
  | map b es c => simpa [En.at, h b rfl] using ha
  | obj b o => simpa [En.at, h b rfl] using ha
  | row p n cap xs T sz =>
    obtain ⟨h1, h2⟩ := ha
    refine ⟨h1, ?_⟩
    rcases h2 with h2 | ⟨b, cur, rfl, hb, h3⟩
    · exact .inl h2
    · exact .inr ⟨b, cur, rfl, by rw [h b rfl]; exact hb, h3⟩

theorem En.at_lt {w : World} {e : En} (ha : e.at w) {b : Nat} (hb : e.blk = some b) : b < w.heap.size := by
  have key : ∀ {o : Obj}, w.heap[b]? = some o → b < w.heap.size := fun h => (Array.getElem?_eq_some_iff.1 h).1
  cases e with
  | cells b' l T => simp only [En.blk, Option.some.injEq] at hb; subst hb; exact key ha
  | map b' es c => simp only [En.blk, Option.some.injEq] at hb; subst hb; exact key ha
  | obj b' o => simp only [En.blk, Option.some.injEq] at hb; subst hb; exact key ha
  | row p n cap xs T sz =>
    rcases ha.2 with ⟨rfl, -⟩ | ⟨b', cur, rfl, hb', -⟩
    · simp [En.blk] at hb
    · simp only [En.blk, Option.map_some, Option.some.injEq] at hb; subst hb; exact key hb'

theorem aold (w : World) (o : Obj) (k : Nat) (h : k < w.heap.size) : (w.alloc o).heap[k]? = w.heap[k]? := by
  simp only [World.alloc, Array.getElem?_push, Nat.ne_of_lt h, if_false]

abbrev Hp := List En

structure St where
  w0 : World
  F : List Nat
  L : Hp

structure St.holds (s : St) (w : World) : Prop where
  os : w.os = s.w0.os
  tape : w.tape = s.w0.tape
  output : w.output = s.w0.output
  size : s.w0.heap.size ≤ w.heap.size
  old : ∀ k, k < s.w0.heap.size → k ∉ s.F → w.heap[k]? = s.w0.heap[k]?
  own : ∀ e, e ∈ s.L → e.at w
  nodup : (s.L.filterMap En.blk).Nodup
  fp : ∀ e b, e ∈ s.L → e.blk = some b → b < s.w0.heap.size → b ∈ s.F

theorem St.holds.refl (w : World) (F : List Nat) : (St.mk w F []).holds w :=
  ⟨rfl, rfl, rfl, Nat.le_refl _, fun _ _ _ => rfl, fun _ h => by simp at h, by simp, fun _ _ h => by simp at h⟩

theorem St.holds.lt {s : St} {w : World} (h : s.holds w) {e : En} (hm : e ∈ s.L) {b : Nat} (hb : e.blk = some b) : b < w.heap.size := En.at_lt (h.own e hm) hb

/-- Less is known. -/
theorem St.holds.sub {w0 : World} {F : List Nat} {L L' : Hp} {w : World} (h : (St.mk w0 F L).holds w) (hs : L'.Sublist L) : (St.mk w0 F L').holds w :=
  ⟨h.os, h.tape, h.output, h.size, h.old, fun e hm => h.own e (hs.subset hm), h.nodup.sublist (hs.filterMap _), fun e b hm => h.fp e b (hs.subset hm)⟩

theorem St.holds.perm {w0 : World} {F : List Nat} {L L' : Hp} {w : World} (h : (St.mk w0 F L).holds w) (hp : L.Perm L') : (St.mk w0 F L').holds w :=
  ⟨h.os, h.tape, h.output, h.size, h.old, fun e hm => h.own e (hp.mem_iff.2 hm), (hp.filterMap _).nodup_iff.1 h.nodup, fun e b hm => h.fp e b (hp.mem_iff.2 hm)⟩

/-- A list with one entry changed. -/
inductive Upd : Hp → En → En → Hp → Prop where
  | head {e e' : En} {L : Hp} : Upd (e :: L) e e' (e' :: L)
  | tail {c e e' : En} {L L' : Hp} : Upd L e e' L' → Upd (c :: L) e e' (c :: L')

theorem Upd.mem {L L' : Hp} {e e' : En} (h : Upd L e e' L') : e ∈ L := by
  induction h with
  | head => exact .head _
  | tail _ ih => exact .tail _ ih

theorem Upd.mem' {L L' : Hp} {e e' : En} (h : Upd L e e' L') : e' ∈ L' := by
  induction h with
  | head => exact .head _
  | tail _ ih => exact .tail _ ih

theorem Upd.split {L L' : Hp} {e e' : En} (h : Upd L e e' L') : ∃ A B, L = A ++ e :: B ∧ L' = A ++ e' :: B := by
  induction h with
  | @head e e' L => exact ⟨[], L, rfl, rfl⟩
  | @tail c e e' L L' _ ih => obtain ⟨A, B, rfl, rfl⟩ := ih; exact ⟨c :: A, B, rfl, rfl⟩

/-- A new world in which one entry (or none) has changed, and blocks have come. -/
theorem St.holds.change {w0 : World} {F : List Nat} {A B : Hp} {e e' : En} {w w' : World} (h : (St.mk w0 F (A ++ e :: B)).holds w)
    (hos : w'.os = w.os) (ht : w'.tape = w.tape) (ho : w'.output = w.output) (hsz : w.heap.size ≤ w'.heap.size)
    (hb : ∀ k, k < w.heap.size → e.blk ≠ some k → w'.heap[k]? = w.heap[k]?) (he : e'.at w')
    (hk : ∀ b, e'.blk = some b → e.blk = some b ∨ w.heap.size ≤ b) : (St.mk w0 F (A ++ e' :: B)).holds w' := by
  have hn := h.nodup
  simp only [List.filterMap_append] at hn
  have hne : ∀ x, x ∈ A ∨ x ∈ B → ∀ b, x.blk = some b → e.blk ≠ some b := by
    intro x hx b hxb heb
    simp only [List.filterMap_cons, heb] at hn
    rw [List.nodup_append] at hn
    rcases hx with hx | hx
    · exact hn.2.2 b (List.mem_filterMap.2 ⟨x, hx, hxb⟩) b (.head _) rfl
    · exact (List.nodup_cons.1 hn.2.1).1 (List.mem_filterMap.2 ⟨x, hx, hxb⟩)
  have hkeep : ∀ x, x ∈ A ∨ x ∈ B → x.at w' := by
    intro x hx
    have hxa : x.at w := h.own x (by rcases hx with hx | hx <;> simp [hx])
    exact En.at_congr (fun b hxb => hb b (En.at_lt hxa hxb) (hne x hx b hxb)) hxa
  refine ⟨hos.trans h.os, ht.trans h.tape, ho.trans h.output, Nat.le_trans h.size hsz, ?_, ?_, ?_, ?_⟩
  · intro k hk hkF
    rw [hb k (Nat.lt_of_lt_of_le hk h.size) ?_]
    · exact h.old k hk hkF
    · intro hek; exact hkF (h.fp e k (by simp) hek hk)
  · intro x hx
    simp only [List.mem_append, List.mem_cons] at hx
    rcases hx with hx | rfl | hx
    · exact hkeep x (.inl hx)
    · exact he
    · exact hkeep x (.inr hx)
  · simp only [List.filterMap_append, List.filterMap_cons]
    have hnA : (A.filterMap En.blk ++ B.filterMap En.blk).Nodup := by
      refine hn.sublist (List.Sublist.append (List.Sublist.refl _) ?_)
      simp only [List.filterMap_cons]
      split <;> simp
    cases hb' : e'.blk with
    | none => simpa using hnA
    | some b =>
      have hnot : ∀ x, x ∈ A ∨ x ∈ B → x.blk ≠ some b := by
        intro x hx hxb
        rcases hk b hb' with he2 | hge
        · exact hne x hx b hxb he2
        · have hxa : x.at w := h.own x (by rcases hx with hx | hx <;> simp [hx])
          have := En.at_lt hxa hxb; omega
      rw [List.nodup_append] at hnA ⊢
      refine ⟨hnA.1, List.nodup_cons.2 ⟨?_, hnA.2.1⟩, ?_⟩
      · intro hm; obtain ⟨x, hx, hxb⟩ := List.mem_filterMap.1 hm; exact hnot x (.inr hx) hxb
      · intro y hy z hz
        rcases List.mem_cons.1 hz with rfl | hz
        · rintro rfl; obtain ⟨x, hx, hxb⟩ := List.mem_filterMap.1 hy; exact hnot x (.inl hx) hxb
        · exact hnA.2.2 y hy z hz
  · intro x b hx hxb hlt
    simp only [List.mem_append, List.mem_cons] at hx
    rcases hx with hx | rfl | hx
    · exact h.fp x b (by simp [hx]) hxb hlt
    · rcases hk b hxb with he2 | hge
      · exact h.fp e b (by simp) he2 hlt
      · have := h.size; simp only at this hlt; omega
    · exact h.fp x b (by simp [hx]) hxb hlt

theorem St.holds.upd {w0 : World} {F : List Nat} {L L' : Hp} {e e' : En} {w w' : World} (h : (St.mk w0 F L).holds w) (hu : Upd L e e' L')
    (hos : w'.os = w.os) (ht : w'.tape = w.tape) (ho : w'.output = w.output) (hsz : w.heap.size ≤ w'.heap.size)
    (hb : ∀ k, k < w.heap.size → e.blk ≠ some k → w'.heap[k]? = w.heap[k]?) (he : e'.at w')
    (hk : ∀ b, e'.blk = some b → e.blk = some b ∨ w.heap.size ≤ b) : (St.mk w0 F L').holds w' := by
  obtain ⟨A, B, rfl, rfl⟩ := hu.split
  exact h.change hos ht ho hsz hb he hk

/-- A new entry. -/
theorem St.holds.cons {w0 : World} {F : List Nat} {L : Hp} {e' : En} {w w' : World} (h : (St.mk w0 F L).holds w)
    (hos : w'.os = w.os) (ht : w'.tape = w.tape) (ho : w'.output = w.output) (hsz : w.heap.size ≤ w'.heap.size)
    (hb : ∀ k, k < w.heap.size → w'.heap[k]? = w.heap[k]?) (he : e'.at w') (hk : ∀ b, e'.blk = some b → w.heap.size ≤ b) : (St.mk w0 F (e' :: L)).holds w' := by
  refine ⟨hos.trans h.os, ht.trans h.tape, ho.trans h.output, Nat.le_trans h.size hsz, ?_, ?_, ?_, ?_⟩
  · intro k hk hkF; rw [hb k (Nat.lt_of_lt_of_le hk h.size)]; exact h.old k hk hkF
  · intro x hx
    rcases List.mem_cons.1 hx with rfl | hx
    · exact he
    · exact En.at_congr (fun b hxb => hb b (En.at_lt (h.own x hx) hxb)) (h.own x hx)
  · simp only [List.filterMap_cons]
    cases hb' : e'.blk with
    | none => exact h.nodup
    | some b =>
      refine List.nodup_cons.2 ⟨?_, h.nodup⟩
      intro hm; obtain ⟨x, hx, hxb⟩ := List.mem_filterMap.1 hm
      have := En.at_lt (h.own x hx) hxb; have := hk b hb'; omega
  · intro x b hx hxb hlt
    rcases List.mem_cons.1 hx with rfl | hx
    · have := hk b hxb; have := h.size; simp only at this hlt; omega
    · exact h.fp x b hx hxb hlt

/-- What a call that changes the blocks of C alone (and makes new ones) leaves. -/
theorem St.holds.call {w0 : World} {F F' : List Nat} {C R L' : Hp} {w w' : World} (h : (St.mk w0 F (C ++ R)).holds w) (hF : ∀ b, b ∈ F' → b ∈ C.filterMap En.blk)
    (h' : (St.mk w F' L').holds w') : (St.mk w0 F (L' ++ R)).holds w' := by
  have hn := h.nodup
  simp only [List.filterMap_append] at hn
  rw [List.nodup_append] at hn
  have hR : ∀ x, x ∈ R → ∀ b, x.blk = some b → b < w.heap.size ∧ b ∉ F' := by
    intro x hx b hxb
    refine ⟨En.at_lt (h.own x (by simp [hx])) hxb, fun hm => ?_⟩
    exact hn.2.2 b (hF b hm) b (List.mem_filterMap.2 ⟨x, hx, hxb⟩) rfl
  refine ⟨h'.os.trans h.os, h'.tape.trans h.tape, h'.output.trans h.output, Nat.le_trans h.size h'.size, ?_, ?_, ?_, ?_⟩
  · intro k hk hkF
    have hlt := Nat.lt_of_lt_of_le hk h.size
    rw [h'.old k hlt ?_]
    · exact h.old k hk hkF
    · intro hm
      obtain ⟨x, hx, hxb⟩ := List.mem_filterMap.1 (hF k hm)
      exact hkF (h.fp x k (by simp [hx]) hxb hk)
  · intro x hx
    rcases List.mem_append.1 hx with hx | hx
    · exact h'.own x hx
    · refine En.at_congr (fun b hxb => ?_) (h.own x (by simp [hx]))
      obtain ⟨h1, h2⟩ := hR x hx b hxb
      exact h'.old b h1 h2
  · simp only [List.filterMap_append]
    rw [List.nodup_append]
    refine ⟨h'.nodup, hn.2.1, ?_⟩
    rintro y hy z hz rfl
    obtain ⟨x, hx, hxb⟩ := List.mem_filterMap.1 hy
    obtain ⟨x2, hx2, hxb2⟩ := List.mem_filterMap.1 hz
    obtain ⟨h1, h2⟩ := hR x2 hx2 y hxb2
    exact h2 (h'.fp x y hx hxb h1)
  · intro x b hx hxb hlt
    rcases List.mem_append.1 hx with hx | hx
    · have hm := h'.fp x b hx hxb (Nat.lt_of_lt_of_le hlt h.size)
      obtain ⟨x2, hx2, hxb2⟩ := List.mem_filterMap.1 (hF b hm)
      exact h.fp x2 b (by simp [hx2]) hxb2 hlt
    · exact h.fp x b (by simp [hx]) hxb hlt

/-- What is to be done. -/
inductive It where
  | code (c : Code)
  | block (id : Nat)
  | ops (all : Array Oper) (l : List Oper)
  | stop (S : Act → World → Prop)
  | rcode (l : Nat) (c : Code)
  | opsI (all : Array Oper) (l : List Oper)

def ex (P : Program) (Q : Exit → Act → World → Prop) : List It → Exit → Act → World → Prop
  | [], e, a, w => Q e a w
  | i :: k, .normal, a, w => (match i with
    | .code c => c.wp P (ex P Q k) a w
    | .block _ => ex P Q k .normal a w
    | .ops all l => wpList P all (ex P Q k) l a w
    | .stop S => S a w
    | .rcode l c => c.wpIn (Fence.wide.inRound l) 0 P (ex P Q k) a w
    | .opsI all l => wpListIn Fence.wide 0 P all (ex P Q k) l a w)
  | i :: k, .exit id, a, w => (match i with
    | .block id' => if id = id' then ex P Q k .normal a w else ex P Q k (.exit id) a w
    | _ => ex P Q k (.exit id) a w)
  | _ :: k, .goto l, a, w => ex P Q k (.goto l) a w
  | _ :: k, .ret, a, w => ex P Q k .ret a w
  | _ :: k, .panic c, a, w => ex P Q k (.panic c) a w
  | _ :: k, .outgrown, a, w => ex P Q k .outgrown a w

/-- From here on all goes well. -/
def Wk (P : Program) (n : Nat) (Q : Exit → Act → World → Prop) (k : List It) (f : Nat → Value) (σ : Bd) (s : St) : Prop :=
  ∀ a w, Rep n f σ a → s.holds w → ex P Q k .normal a w

section control
variable {P : Program} {n : Nat} {Q : Exit → Act → World → Prop} {k : List It} {f : Nat → Value} {σ : Bd} {s : St}

theorem r_seq {x y : Code} (h : Wk P n Q (.code x :: .code y :: k) f σ s) : Wk P n Q (.code (.seq x y) :: k) f σ s := by
  intro a w hr hs
  refine wp_seq (wp_mono (h a w hr hs) fun e a w q => ?_)
  cases e <;> exact q

theorem r_skip (h : Wk P n Q k f σ s) : Wk P n Q (.code .skip :: k) f σ s :=
  fun a w hr hs => wp_skip (h a w hr hs)

theorem r_block {id : Nat} {c : Code} (h : Wk P n Q (.code c :: .block id :: k) f σ s) : Wk P n Q (.code (.block id c) :: k) f σ s := by
  intro a w hr hs
  refine wp_block (wp_mono (h a w hr hs) fun e a w q => ?_)
  cases e <;> exact q

theorem r_inBlock {id : Nat} (h : Wk P n Q k f σ s) : Wk P n Q (.block id :: k) f σ s := h

/-- What lies behind a block. -/
def dropTo (id : Nat) : List It → Option (List It)
  | [] => none
  | .block id' :: k => match Nat.beq id id' with | true => some k | false => dropTo id k
  | .code _ :: k => dropTo id k
  | .ops _ _ :: k => dropTo id k
  | .stop _ :: k => dropTo id k
  | .rcode _ _ :: k => dropTo id k
  | .opsI _ _ :: k => dropTo id k

theorem ex_exit {id : Nat} {k k' : List It} (hd : dropTo id k = some k') (a : Act) (w : World) : ex P Q k (.exit id) a w = ex P Q k' .normal a w := by
  induction k with
  | nil => simp [dropTo] at hd
  | cons i k ih =>
    cases i with
    | code c => exact ih hd
    | ops all l => exact ih hd
    | stop S => exact ih hd
    | rcode _ _ => exact ih hd
    | opsI _ _ => exact ih hd
    | block id' =>
      simp only [dropTo] at hd
      by_cases h : id = id'
      · subst h; simp [Nat.beq_refl] at hd; subst hd; simp [ex]
      · have hb : Nat.beq id id' = false := beq_no h
        rw [hb] at hd; simp only [ex, h, if_false]; exact ih hd

theorem r_exit {id : Nat} {k' : List It} (hd : dropTo id k = some k') (h : Wk P n Q k' f σ s) : Wk P n Q (.code (.exit id) :: k) f σ s :=
  fun a w hr hs => wp_exit (by rw [ex_exit hd]; exact h a w hr hs)

theorem ex_ret (k : List It) (a : Act) (w : World) : ex P Q k .ret a w = Q .ret a w := by
  induction k with
  | nil => rfl
  | cons i k ih => exact ih

theorem r_ret (h : ∀ a w, Rep n f σ a → s.holds w → Q .ret a w) : Wk P n Q (.code .ret :: k) f σ s :=
  fun a w hr hs => wp_ret (by rw [ex_ret]; exact h a w hr hs)

theorem r_end (h : ∀ a w, Rep n f σ a → s.holds w → Q .normal a w) : Wk P n Q [] f σ s :=
  fun a w hr hs => h a w hr hs

theorem r_stop {S : Act → World → Prop} (h : ∀ a w, Rep n f σ a → s.holds w → S a w) : Wk P n Q (.stop S :: k) f σ s := h

theorem r_region {id : Nat} {ops : List Oper} (h : Wk P n Q (.ops ops.toArray ops :: k) f σ s) : Wk P n Q (.code (.region id ops.toArray false) :: k) f σ s :=
  fun a w hr hs => wp_region_lit (h a w hr hs)

theorem r_nil {all : Array Oper} (h : Wk P n Q k f σ s) : Wk P n Q (.ops all [] :: k) f σ s :=
  fun a w hr hs => wpList_nil (P := P) (ops := all) (Q := ex P Q k) (h a w hr hs)

theorem r_cond_true {c : Operand} {x y : Code} (hc : ev f σ c = .bool true) (h : Wk P n Q (.code x :: k) f σ s) : Wk P n Q (.code (.cond c x y) :: k) f σ s :=
  fun a w hr hs => wp_cond_true (by rw [hr.eval]; exact hc) (h a w hr hs)

theorem r_cond_false {c : Operand} {x y : Code} (hc : ev f σ c = .bool false) (h : Wk P n Q (.code y :: k) f σ s) : Wk P n Q (.code (.cond c x y) :: k) f σ s :=
  fun a w hr hs => wp_cond_false (by rw [hr.eval]; exact hc) (h a w hr hs)

theorem r_cond {c : Operand} {x y : Code} {t : Bool} (hc : ev f σ c = .bool t) (ht : t = true → Wk P n Q (.code x :: k) f σ s)
    (hf : t = false → Wk P n Q (.code y :: k) f σ s) : Wk P n Q (.code (.cond c x y) :: k) f σ s :=
  fun a w hr hs => wp_cond_split (t := t) (by rw [hr.eval]; exact hc) (fun h => ht h a w hr hs) (fun h => hf h a w hr hs)

/-- The state is weakened. -/
theorem r_weak {σ' : Bd} {L' : Hp} (hσ : SubF f σ σ') (hL : L'.Sublist s.L) (h : ∀ f', Wk P n Q k f' σ' { s with L := L' }) (hn : nod n σ = true := by exact rfl) (hn' : nod n σ' = true := by exact rfl) : Wk P n Q k f σ s := by
  intro a w hr hs
  obtain ⟨f', hr'⟩ := hσ.rep hr hn hn'
  exact h f' a w hr' (hs.sub hL)

theorem wp_loop_n {c : Code} {Q : Exit → Act → World → Prop} {a : Act} {w : World} (I : Nat → Act → World → Prop) {N : Nat} (h₀ : I N a w)
    (round : ∀ N a w, I N a w → c.wp P (Exit.then (fun a' w' => ∃ N', N' < N ∧ I N' a' w') Q) a w) : (Code.loop c).wp P Q a w := by
  intro b k cs
  have key : ∀ n a w, I n a w →
      ∃ e a' w', Q e a' w' ∧ Arrives P (lone (b.at a (.code c :: .inLoop c :: k)) cs w) b k cs e a' w' := by
    intro n
    induction n using Nat.strongRecOn with
    | _ n ih =>
      intro a w hI
      obtain ⟨e, a₁, w₁, hq, harr⟩ := round n a w hI b (.inLoop c :: k) cs
      cases e with
      | normal =>
        obtain ⟨N', hlt, hI₁⟩ := hq
        obtain ⟨e₂, a₂, w₂, hq₂, harr₂⟩ := ih N' hlt a₁ w₁ hI₁
        exact ⟨e₂, a₂, w₂, hq₂, .of_steps (Steps.trans harr (.one step_inLoop)) harr₂⟩
      | exit id => exact ⟨_, a₁, w₁, hq, .pass (x := .inLoop c) rfl (fun _ _ => .inl (by simp)) harr⟩
      | goto l => exact ⟨_, a₁, w₁, hq, .pass (x := .inLoop c) rfl (fun _ _ => .inl (by simp)) harr⟩
      | ret => exact ⟨_, a₁, w₁, hq, .pass (x := .inLoop c) rfl (fun _ _ => .inl (by simp)) harr⟩
      | panic ch => exact ⟨_, a₁, w₁, hq, .pass (x := .inLoop c) rfl (fun _ _ => .inl (by simp)) harr⟩
      | outgrown => exact ⟨_, a₁, w₁, hq, .pass (x := .inLoop c) rfl (fun _ _ => .inl (by simp)) harr⟩
  obtain ⟨e, a', w', hq, harr⟩ := key _ a w h₀
  exact ⟨e, a', w', hq, .of_steps (.one step_loop) harr⟩

/-- The loop comes round again, in a smaller state of the family. -/
def Again {τ : Type} (n : Nat) (w0 : World) (F : List Nat) (p : τ → Prop) (m : τ → Nat) (S : τ → Bd) (L : τ → Hp) (N : Nat) (a : Act) (w : World) : Prop :=
  ∃ t, p t ∧ m t < N ∧ ∃ f, Rep n f (S t) a ∧ (St.mk w0 F (L t)).holds w

theorem r_loop {c : Code} {w0 : World} {F : List Nat} {L0 : Hp} {τ : Type} (p : τ → Prop) (m : τ → Nat) (S : τ → Bd) (L : τ → Hp) (t0 : τ) (h0 : p t0) (hσ : SubF f σ (S t0)) (hL : (L t0).Sublist L0)
    (hr : ∀ t, p t → ∀ f, Wk P n Q (.code c :: .stop (Again n w0 F p m S L (m t)) :: k) f (S t) ⟨w0, F, L t⟩) (hn : nod n σ = true := by exact rfl) (hn' : nod n (S t0) = true := by exact rfl) : Wk P n Q (.code (.loop c) :: k) f σ ⟨w0, F, L0⟩ := by
  intro a w hrep hs
  obtain ⟨f0, hrep0⟩ := hσ.rep hrep hn hn'
  refine wp_loop_n (I := fun N a w => ∃ t, p t ∧ m t = N ∧ ∃ f, Rep n f (S t) a ∧ (St.mk w0 F (L t)).holds w) ⟨t0, h0, rfl, f0, hrep0, hs.sub hL⟩ ?_
  rintro N a w ⟨t, hp, rfl, f, hra, hsa⟩
  refine wp_mono (hr t hp f a w hra hsa) fun e a w q => ?_
  cases e with
  | normal => obtain ⟨t', hp', hm', f', hr', hs'⟩ := q; exact ⟨m t', hm', t', hp', rfl, f', hr', hs'⟩
  | _ => exact q

theorem r_again {w0 : World} {F : List Nat} {L0 : Hp} {τ : Type} {p : τ → Prop} {m : τ → Nat} {S : τ → Bd} {L : τ → Hp} {N : Nat} (t : τ) (hp : p t) (hm : m t < N) (hσ : SubF f σ (S t)) (hL : (L t).Sublist L0) (hn : nod n σ = true := by exact rfl) (hn' : nod n (S t) = true := by exact rfl) :
    Wk P n Q (.stop (Again n w0 F p m S L N) :: k) f σ ⟨w0, F, L0⟩ := by
  intro a w hrep hs
  obtain ⟨f0, hrep0⟩ := hσ.rep hrep hn hn'
  exact ⟨t, hp, hm, f0, hrep0, hs.sub hL⟩

/-- The ways through a piece of code meet again in one family of states. -/
def Meets {τ : Type} (n : Nat) (w0 : World) (F : List Nat) (p : τ → Prop) (S : τ → Bd) (L : τ → Hp) (a : Act) (w : World) : Prop :=
  ∃ t, p t ∧ ∃ f, Rep n f (S t) a ∧ (St.mk w0 F (L t)).holds w

theorem ex_meets {S : Act → World → Prop} {k : List It} (h : ∀ a w, S a w → ex P Q k .normal a w) : ∀ e a w, ex P Q (.stop S :: k) e a w → ex P Q k e a w := by
  intro e a w q
  cases e with
  | normal => exact h a w q
  | _ => exact q

theorem r_meet {w0 : World} {F : List Nat} {L0 : Hp} {τ : Type} (p : τ → Prop) (S : τ → Bd) (L : τ → Hp) {c : Code}
    (h1 : Wk P n Q (.code c :: .stop (Meets n w0 F p S L) :: k) f σ ⟨w0, F, L0⟩) (h2 : ∀ t, p t → ∀ f, Wk P n Q k f (S t) ⟨w0, F, L t⟩) : Wk P n Q (.code c :: k) f σ ⟨w0, F, L0⟩ := by
  intro a w hrep hs
  refine wp_mono (h1 a w hrep hs) fun e a w q => ex_meets (fun a w hS => ?_) e a w q
  obtain ⟨t, hp, f', hr', hs'⟩ := hS
  exact h2 t hp f' a w hr' hs'

theorem r_met {w0 : World} {F : List Nat} {L0 : Hp} {τ : Type} {p : τ → Prop} {S : τ → Bd} {L : τ → Hp} (t : τ) (hp : p t) (hσ : SubF f σ (S t)) (hL : (L t).Sublist L0) (hn : nod n σ = true := by exact rfl) (hn' : nod n (S t) = true := by exact rfl) :
    Wk P n Q (.stop (Meets n w0 F p S L) :: k) f σ ⟨w0, F, L0⟩ := by
  intro a w hrep hs
  obtain ⟨f0, hrep0⟩ := hσ.rep hrep hn hn'
  exact ⟨t, hp, f0, hrep0, hs.sub hL⟩

end control
end Go.Cf

namespace Go.Cf

/-! ### Guards -/

def gdOf (f : Nat → Value) (σ : Bd) (all : List Oper) : Option (Nat × Bool) → Option (Option Bool)
  | none => some none
  | some (j, w) => match (all[j]?).bind (·.dst) with
    | none => none
    | some t => match look f σ t with
      | .v (.bool b) => some (some (match w with | true => b | false => !b))
      | .g c (.bool b) => some (some (c && (match w with | true => b | false => !b)))
      | _ => none

def gdc : Option Bool → Bool
  | none => true
  | some c => c

def mk : Option Bool → Value → SV
  | none, x => .v x
  | some c, x => .g c x

theorem yielded_of {n : Nat} {f : Nat → Value} {σ : Bd} {a : Act} (hr : Rep n f σ a) {all : List Oper} {j t : Nat} (ht : (all[j]?).bind (·.dst) = some t) :
    yielded all.toArray a.tmps j = (match (look f σ t).val with | .bool b => some b | _ => none) := by
  have hv := hr.val t
  have : (all.toArray[j]?).bind (·.dst) = some t := by simpa using ht
  simp only [yielded, this, Option.bind_some]
  rw [← hv, Array.getD_eq_getD_getElem?]
  cases h : a.tmps[t]? with
  | none => simp [undef]
  | some x => cases x <;> simp

theorem wanted_of {n : Nat} {f : Nat → Value} {σ : Bd} {a : Act} (hr : Rep n f σ a) {all : List Oper} {o : Oper} {gd : Option Bool} (hg : gdOf f σ all o.guard = some gd) :
    Region.wanted o (yielded all.toArray a.tmps) = gdc gd := by
  unfold Region.wanted
  cases hgd : o.guard with
  | none => rw [hgd] at hg; simp only [gdOf, Option.some.injEq] at hg; subst hg; rfl
  | some p =>
    obtain ⟨j, w⟩ := p
    rw [hgd] at hg
    simp only [gdOf] at hg
    cases ht : (all[j]?).bind (·.dst) with
    | none => simp [ht] at hg
    | some t =>
      rw [ht] at hg
      simp only at hg ⊢
      rw [yielded_of hr ht]
      cases hl : look f σ t with
      | v x =>
        rw [hl] at hg
        cases x <;> simp at hg
        subst hg
        rename_i b
        cases w <;> cases b <;> simp [SV.val, gdc]
      | g c x =>
        rw [hl] at hg
        cases x <;> simp at hg
        subst hg
        rename_i b
        cases c <;> cases w <;> cases b <;> simp [SV.val, gdc, undef]

def tmpsOf : List Operand → List Nat
  | [] => []
  | .tmp t :: r => t :: tmpsOf r
  | .const _ :: r => tmpsOf r
  | .global _ :: r => tmpsOf r
  | .func _ :: r => tmpsOf r

/-- The operands that were guarded, taken for what they hold. -/
def degs (f : Nat → Value) (σ : Bd) : List Nat → Bd → Bd
  | [], r => r
  | t :: ts, r => match look f σ t with
    | .g _ x => (t, .v x) :: degs f σ ts r
    | .v _ => degs f σ ts r

def gob (f : Nat → Value) (σ : Bd) (c : Bool) : List Nat → Prop
  | [] => True
  | t :: ts => match look f σ t with
    | .g c' _ => (c = true → c' = true) ∧ gob f σ c ts
    | .v _ => gob f σ c ts

theorem Rep.degs {n : Nat} {f : Nat → Value} {σ : Bd} {a : Act} (hr : Rep n f σ a) {c : Bool} (hc : c = true) (ts : List Nat) (h : gob f σ c ts) : Rep n f (degs f σ ts σ) a := by
  have key : ∀ t, (look f (Cf.degs f σ ts σ) t).val = (look f σ t).val := by
    induction ts with
    | nil => intro t; rfl
    | cons t ts ih =>
      intro t'
      simp only [Cf.degs, gob] at h ⊢
      cases hl : look f σ t with
      | v x => rw [hl] at h; exact ih h t'
      | g c' x =>
        rw [hl] at h
        simp only at h ⊢
        rw [look_cons]
        by_cases he : t = t'
        · subst he; rw [hl]; simp [SV.val, h.1 hc]
        · simp only [he, if_false]; exact ih h.2 t'
  have key2 : ∀ t, dfs (look f (Cf.degs f σ ts σ) t) = dfs (look f σ t) := by
    clear key
    induction ts with
    | nil => intro t; rfl
    | cons t ts ih =>
      intro t'
      simp only [Cf.degs, gob] at h ⊢
      cases hl : look f σ t with
      | v x => rw [hl] at h; exact ih h t'
      | g c' x =>
        rw [hl] at h
        simp only at h ⊢
        rw [look_cons]
        by_cases he : t = t'
        · subst he; rw [hl, h.1 hc]; simp [dfs]
        · simp only [he, if_false]; exact ih h.2 t'
  exact ⟨hr.size, hr.defers.trans (key2 n).symm, fun t => (hr.val t).trans (key t).symm⟩


section
variable {P : Program} {n : Nat} {Q : Exit → Act → World → Prop} {k : List It} {f : Nat → Value} {σ : Bd} {s : St} {all : List Oper} {o : Oper} {rest : List Oper}

/-- An operation, at large: it hands on a value, or it is not wanted. -/
theorem r_op {gd : Option Bool} (hg : gdOf f σ all o.guard = some gd)
    (hyes : gdc gd = true → ∀ a w, Rep n f σ a → s.holds w → ∀ K : Act → World → Prop, (∀ a w, wpList P all.toArray (ex P Q k) rest a w → K a w) → o.wp P a w K (ex P Q k))
    (hno : gdc gd = false → ∀ a w, Rep n f σ a → s.holds w → wpList P all.toArray (ex P Q k) rest (a.put o.dst undef) w) :
    Wk P n Q (.ops all.toArray (o :: rest) :: k) f σ s := by
  intro a w hr hs
  refine wpList_step fun K hK => ?_
  rw [wanted_of hr hg]
  cases hc : gdc gd with
  | true => exact hyes hc a w hr hs K hK
  | false => exact hK _ _ (hno hc a w hr hs)


/-- An operation hands on a value, and changes nothing. -/
structure Val (P : Program) (n : Nat) (f : Nat → Value) (σ : Bd) (all : List Oper) (s : St) (o : Oper) (d : Nat) (gd : Option Bool) (v : Value) : Prop where
  hd : o.dst = some d
  hn : Nat.ble (d + 1) n = true
  hg : gdOf f σ all o.guard = some gd
  hr : ∀ a W, Rep n f σ a → gdc gd = true → s.holds W → (execOp a.eval o).run P W = .ok (.value v) W

theorem Val.of {gd : Option Bool} {d : Nat} {v : Value} (hd : o.dst = some d) (hn : Nat.ble (d + 1) n = true) (hg : gdOf f σ all o.guard = some gd)
    (hr : ∀ W, s.holds W → (execOp (ev f (degs f σ (tmpsOf o.op.operands.toList) σ)) o).run P W = .ok (.value v) W) (hob : gob f σ (gdc gd) (tmpsOf o.op.operands.toList)) : Val P n f σ all s o d gd v :=
  ⟨hd, hn, hg, fun a W hrep hc hW => by rw [(hrep.degs hc _ hob).eval]; exact hr W hW⟩

theorem mk_true {gd : Option Bool} {v : Value} (h : gdc gd = true) : (mk gd v).val = v := by cases gd <;> simp_all [mk, SV.val, gdc]
theorem mk_false {gd : Option Bool} {v : Value} (h : gdc gd = false) : (mk gd v).val = undef := by cases gd <;> simp_all [mk, SV.val, gdc]

theorem w_ {gd : Option Bool} {d : Nat} {v : Value} (hv : Val P n f σ all s o d gd v) (h : Wk P n Q (.ops all.toArray rest :: k) f ((d, mk gd v) :: σ) s) : Wk P n Q (.ops all.toArray (o :: rest) :: k) f σ s := by
  have hdn : d < n := Nat.le_of_ble_eq_true hv.hn
  refine r_op hv.hg (fun hc a w hrep hs K hK => ?_) (fun hc a w hrep hs => ?_)
  · unfold Oper.wp
    rw [hv.hr a w hrep hc hs]
    simp only [Oper.upon, hv.hd]
    refine hK _ _ ?_
    have := hrep.put hdn (mk gd v)
    rw [mk_true hc] at this
    exact h _ w this hs
  · rw [hv.hd]
    have := hrep.put hdn (mk gd v)
    rw [mk_false hc] at this
    exact h _ w this hs

/-- An operation changes what is known, in a way that K takes. -/
structure Ef (P : Program) (n : Nat) (f : Nat → Value) (σ : Bd) (s : St) (o : Oper) (K : Bd → St → Prop) : Prop where
  hg : o.guard = none
  hw : ∀ (Q : Exit → Act → World → Prop) a w, Rep n f σ a → s.holds w → ∀ N : Act → World → Prop, (∀ σ' s' a' w', K σ' s' → Rep n f σ' a' → s'.holds w' → N a' w') → o.wp P a w N Q

theorem e_ (h : Ef P n f σ s o (fun σ' s' => Wk P n Q (.ops all.toArray rest :: k) f σ' s')) : Wk P n Q (.ops all.toArray (o :: rest) :: k) f σ s :=
  r_op (gd := none) (by rw [h.hg]; rfl) (fun _ a w hrep hs K hK => h.hw _ a w hrep hs K fun σ' s' a' w' hk hr' hs' => hK _ _ (hk a' w' hr' hs')) (fun hc => by simp [gdc] at hc)

/-- A guarded operation, the guard held. -/
theorem g_ {j : Nat} {w : Bool} {c : Bool} (ht : c = true → Wk P n Q (.ops all.toArray ({ o with guard := none } :: rest) :: k) f σ s)
    (hf : c = false → ∀ d, o.dst = some d → Wk P n Q (.ops all.toArray rest :: k) f ((d, .v undef) :: σ) s) {d : Nat} (hgd : o.guard = some (j, w) := by exact rfl) (hg : gdOf f σ all (some (j, w)) = some (some c) := by exact rfl) (hd : o.dst = some d := by exact rfl) (hn : Nat.ble (d + 1) n = true := by exact rfl) :
    Wk P n Q (.ops all.toArray (o :: rest) :: k) f σ s := by
  have hdn : d < n := Nat.le_of_ble_eq_true hn
  intro a w' hr hs
  have hw : Region.wanted o (yielded all.toArray a.tmps) = c := by
    have := wanted_of (all := all) (o := o) hr (gd := some c) (by rw [hgd]; exact hg)
    simpa [gdc] using this
  cases hc : c with
  | true =>
    have h1 := ht hc a w' hr hs
    simp only [ex, wpList] at h1 ⊢
    rw [hw, hc]
    simp only [if_true]
    have : Region.wanted { o with guard := none } (yielded all.toArray a.tmps) = true := rfl
    rw [this] at h1
    simp only [if_true] at h1
    exact h1
  | false =>
    have h1 := hf hc d hd
    simp only [ex, wpList]
    rw [hw, hc]
    simp only [Bool.false_eq_true, if_false]
    rw [hd]
    exact h1 _ w' (hr.put hdn (.v undef)) hs
end

def sv (f : Nat → Value) (σ : Bd) : Operand → SV
  | .tmp t => look f σ t
  | .const v => .v v
  | .global g => .v (.pointer (some ⟨g, 0, none⟩))
  | .func j => .v (.func (.func j) #[] #[])

def SV.raw : SV → Value
  | .v x => x
  | .g _ x => x

def SV.cnd : SV → Bool
  | .v _ => true
  | .g c _ => c

theorem ev_sv (f : Nat → Value) (σ : Bd) (x : Operand) : ev f σ x = (sv f σ x).val := by cases x <;> rfl

theorem SV.val_raw {s : SV} (h : s.cnd = true) : s.val = s.raw := by cases s <;> simp_all [SV.val, SV.raw, SV.cnd]


/-! ### Memory -/

section runs
variable {P : Program}

theorem cell_of {w : World} {b : Nat} {l : List Value} {T : TypeId} {fr : Nat × Nat} (h : w.heap[b]? = some (.cells l.toArray T fr)) (off : Nat) : w.cell? ⟨b, off, none⟩ = l[off]? := by
  simp [World.cell?, h]

theorem add_none (b off j : Nat) : (Addr.mk b off none).add j = ⟨b, off + j, none⟩ := by
  unfold Addr.add
  split
  · rename_i h; subst h; rfl
  · rfl

/-- So many of a list from a place on. -/
def sub (l : List Value) (off n : Nat) : Option (List Value) := match Nat.ble (off + n) l.length with | true => some ((l.drop off).take n) | false => none

theorem sub_get {l l' : List Value} {off n : Nat} (h : sub l off n = some l') : l'.length = n ∧ ∀ j v, l'[j]? = some v → l[off + j]? = some v := by
  unfold sub at h
  cases hb : Nat.ble (off + n) l.length with
  | false => rw [hb] at h; simp at h
  | true =>
    rw [hb] at h
    simp only [Option.some.injEq] at h
    subst h
    have hle := Nat.le_of_ble_eq_true hb
    refine ⟨by rw [List.length_take, List.length_drop]; omega, fun j v hj => ?_⟩
    rw [List.getElem?_take] at hj
    split at hj
    · rw [List.getElem?_drop] at hj; exact hj
    · simp at hj

theorem run_loadCells_at {w : World} {b off : Nat} {l' : List Value} (h : ∀ j v, l'[j]? = some v → w.cell? ⟨b, off + j, none⟩ = some v) : (loadCells ⟨b, off, none⟩ l'.length).run P w = .ok l'.toArray w :=
  run_loadCells_list w _ l' fun j v hj => by rw [add_none]; exact h j v hj

def aggOf (P : Program) (T : TypeId) : Bool := match P.underlying T with | some (.struct _) => true | some (.array _ _) => true | _ => false
def szOf (P : Program) (T : TypeId) : Nat := ((P.info? T).map (·.size)).getD 0
def byOf (P : Program) (T : TypeId) : Nat := ((P.info? T).map (·.bytes)).getD 0
def knows (P : Program) (T : TypeId) : Bool := (P.info? T).isSome && (P.underlying T).isSome
def zeroOf (P : Program) (T : TypeId) : Option Value := (P.info? T).bind (·.zero)

/-- What is known of a type: is it a struct or an array; its cells; its bytes. -/
class TyA (P : Program) (T : TypeId) (agg : outParam Bool) (sz : outParam Nat) : Prop where
  knows : knows P T = true
  agg : aggOf P T = agg
  sz : szOf P T = sz

/-- The bytes of a type. -/
class TyB (P : Program) (T : TypeId) (by_ : outParam Nat) : Prop where
  by_ : byOf P T = by_

/-- The zero value of a type, as cells. -/
class TyZ (P : Program) (T : TypeId) (z : outParam (List Value)) : Prop where
  zero : (zeroOf P T).map (·.cells.toList) = some z

/-- The fields of a struct: where each lies, and its type. -/
class TyStruct (P : Program) (T : TypeId) (fs : outParam (List (Nat × TypeId))) : Prop where
  fields : (match P.underlying T with | some (.struct l) => some (l.toList.map fun x => (x.offset, x.type)) | _ => none) = some fs

class TySlice (P : Program) (T : TypeId) (e : outParam TypeId) : Prop where
  under : P.underlying T = some (.slice e)

class TyArr (P : Program) (T : TypeId) (len : outParam Nat) (e : outParam TypeId) : Prop where
  under : P.underlying T = some (.array len e)

theorem run_isAgg {T : TypeId} (h : knows P T = true) (w : World) : (isAgg T).run P w = .ok (aggOf P T) w := by
  simp only [knows, Bool.and_eq_true, Option.isSome_iff_exists] at h
  obtain ⟨⟨i, hi⟩, ⟨u, hu⟩⟩ := h
  simp only [isAgg, underlying, Sem.run_bind, run_program, Result.andThen_ok, hu, Sem.run_pure, aggOf]
  cases u <;> rfl

theorem run_sizeOf {T : TypeId} (h : knows P T = true) (w : World) : (sizeOf T).run P w = .ok (szOf P T) w := by
  simp only [knows, Bool.and_eq_true, Option.isSome_iff_exists] at h
  obtain ⟨⟨i, hi⟩, ⟨u, hu⟩⟩ := h
  simp [sizeOf, typeInfo, hi, szOf]

theorem run_zeroValue {T : TypeId} {z : List Value} [hz : TyZ P T z] (w : World) : ∃ v, (zeroValue T).run P w = .ok v w ∧ v.cells.toList = z := by
  have := hz.zero
  simp only [zeroOf] at this
  cases hi : P.info? T with
  | none => simp [hi] at this
  | some i =>
    cases hv : i.zero with
    | none => simp [hi, hv] at this
    | some v =>
      simp only [hi, hv, Option.bind_some, Option.map_some, Option.some.injEq] at this
      exact ⟨v, by simp [zeroValue, typeInfo, hi, hv], this⟩

theorem run_underSlice {T e : TypeId} [h : TySlice P T e] (w : World) : (underlying T).run P w = .ok (.slice e) w := by simp [underlying, h.under]
theorem run_underArr {T e : TypeId} {len : Nat} [h : TyArr P T len e] (w : World) : (underlying T).run P w = .ok (.array len e) w := by simp [underlying, h.under]

theorem run_loadVar_s {T : TypeId} {sz : Nat} [ht : TyA P T false sz] {w : World} {b off : Nat} {v : Value} (hv : w.cell? ⟨b, off, none⟩ = some v) : (loadVar T ⟨b, off, none⟩).run P w = .ok v w := by
  simp [loadVar, run_isAgg ht.knows, ht.agg, run_load, hv]

theorem run_loadVar_a {T : TypeId} {sz : Nat} [ht : TyA P T true sz] {w : World} {b off : Nat} {l' : List Value} (hl : l'.length = sz)
    (hv : ∀ j v, l'[j]? = some v → w.cell? ⟨b, off + j, none⟩ = some v) : (loadVar T ⟨b, off, none⟩).run P w = .ok (.agg l'.toArray) w := by
  simp [loadVar, run_isAgg ht.knows, ht.agg, run_sizeOf ht.knows, ht.sz, ← hl, run_loadCells_at hv]

end runs

/-! ### Reading -/

/-- A place outside one's own blocks that holds a value: it was there when the call began, and nobody turns it. -/
def Rd (w0 : World) (F : List Nat) (b off : Nat) (v : Value) : Prop := b < w0.heap.size ∧ b ∉ F ∧ w0.cell? ⟨b, off, none⟩ = some v

theorem St.holds.rd {s : St} {w : World} (h : s.holds w) {b off : Nat} {v : Value} (hr : Rd s.w0 s.F b off v) : w.cell? ⟨b, off, none⟩ = some v := by
  have := h.old b hr.1 hr.2.1
  rw [← hr.2.2]
  simp [World.cell?, this]

end Go.Cf

namespace Go.Cf
variable {P : Program} {n : Nat} {Q : Exit → Act → World → Prop} {k : List It} {f : Nat → Value} {σ : Bd} {w0 : World} {F : List Nat} {L : Hp} {s : St} {all : List Oper} {o : Oper} {rest : List Oper} {dst : Option Tmp} {ty : TypeId} {pos : String} {after : Array Edge} {guard : Option (Nat × Bool)}

theorem andl {a b : Bool} (h : (a && b) = true) : a = true := by cases a <;> simp_all

/-- An operand's value, a guarded one's too. -/
def evo (f : Nat → Value) (σ : Bd) : Operand → Option Value
  | .tmp t => match look f σ t with | .v y => some y | .g _ y => some y
  | .const v => some v
  | .global g => some (.pointer (some ⟨g, 0, none⟩))
  | .func j => some (.func (.func j) #[] #[])

theorem look_degs (f : Nat → Value) (σ : Bd) (ts : List Nat) (t : Nat) (h : t ∈ ts) : (look f (degs f σ ts σ) t).val = (look f σ t).raw := by
  have key : ∀ ts, (t ∈ ts → (look f (degs f σ ts σ) t).val = (look f σ t).raw) ∧ (t ∉ ts → look f (degs f σ ts σ) t = look f σ t) := by
    intro ts
    induction ts with
    | nil => exact ⟨fun h => by simp at h, fun _ => rfl⟩
    | cons u us ih =>
      simp only [degs]
      by_cases hu : u = t
      · subst hu
        refine ⟨fun _ => ?_, fun h => by simp at h⟩
        cases hl : look f σ u with
        | v x =>
          by_cases hm : u ∈ us
          · simp only [ih.1 hm, hl]
          · simp only [ih.2 hm, hl]; rfl
        | g c x => simp only [look_cons, if_true]; rfl
      · have hm : t ∈ u :: us ↔ t ∈ us := by simp [Ne.symm hu]
        refine ⟨fun h => ?_, fun h => ?_⟩
        · have := ih.1 (hm.1 h)
          cases hl : look f σ u with
          | v x => exact this
          | g c x => simp only [look_cons, hu, if_false]; exact this
        · have := ih.2 (fun h' => h (hm.2 h'))
          cases hl : look f σ u with
          | v x => exact this
          | g c x => simp only [look_cons, hu, if_false]; exact this
  exact (key ts).1 h

theorem ev_evo {x : Operand} {v : Value} (h : evo f σ x = some v) {l : List Operand} (hm : x ∈ l) : ev f (degs f σ (tmpsOf l) σ) x = v := by
  cases x with
  | tmp t =>
    have ht : t ∈ tmpsOf l := by
      clear h
      revert hm
      induction l with
      | nil => intro hm; simp at hm
      | cons y r ih =>
        intro hm
        rcases List.mem_cons.1 hm with hy | hm2
        · subst hy; exact .head _
        · cases y <;> simp only [tmpsOf] <;> first | exact .tail _ (ih hm2) | exact ih hm2
    show (look f (degs f σ (tmpsOf l) σ) t).val = v
    rw [look_degs f σ _ t ht]
    simp only [evo] at h
    cases hl : look f σ t with
    | v y => rw [hl] at h; simpa [SV.raw] using h
    | g c y => rw [hl] at h; simpa [SV.raw] using h
  | const u => simpa [evo, ev] using h
  | global g => simpa [evo, ev] using h
  | func j => simpa [evo, ev] using h

theorem wrap_i64 {z : Int} (h : -9223372036854775808 ≤ z ∧ z ≤ 9223372036854775807) : IntKind.i64.wrap z = z := by
  have e1 : (2 : Int) ^ IntKind.i64.bits = 18446744073709551616 := by decide
  have e2 : (2 : Int) ^ (IntKind.i64.bits - 1) = 9223372036854775808 := by decide
  simp only [IntKind.wrap, IntKind.signed, e1, e2, Bool.true_and, decide_eq_true_eq]
  split <;> omega

theorem wrap_u8 {z : Int} (h : 0 ≤ z ∧ z ≤ 255) : IntKind.u8.wrap z = z := by
  have e1 : (2 : Int) ^ IntKind.u8.bits = 256 := by decide
  simp only [IntKind.wrap, IntKind.signed, e1, Bool.false_and, Bool.false_eq_true, if_false]
  omega

section laws
variable {T : TypeId} {a b : Int} {W : World}
theorem b_add (h : -9223372036854775808 ≤ a + b ∧ a + b ≤ 9223372036854775807) : (binOp .add T (.int .i64 a) (.int .i64 b)).run P W = .ok (.int .i64 (a + b)) W := by
  simp [binOp, Op.intArith, wrap_i64 h]
theorem b_sub (h : -9223372036854775808 ≤ a - b ∧ a - b ≤ 9223372036854775807) : (binOp .sub T (.int .i64 a) (.int .i64 b)).run P W = .ok (.int .i64 (a - b)) W := by
  simp [binOp, Op.intArith, wrap_i64 h]
theorem b_mul (h : -9223372036854775808 ≤ a * b ∧ a * b ≤ 9223372036854775807) : (binOp .mul T (.int .i64 a) (.int .i64 b)).run P W = .ok (.int .i64 (a * b)) W := by
  simp [binOp, Op.intArith, wrap_i64 h]
theorem b_rem {kd : IntKind} (ha : 0 ≤ a) (hb : 0 < b) : (binOp .rem T (.int kd a) (.int kd b)).run P W = .ok (.int kd (a % b)) W := by
  have : b ≠ 0 := by omega
  simp [binOp, Op.intDiv, this, Int.tmod_eq_emod_of_nonneg ha]
theorem b_tmod {kd : IntKind} (hb : 0 < b) : (binOp .rem T (.int kd a) (.int kd b)).run P W = .ok (.int kd (a.tmod b)) W := by
  have : b ≠ 0 := by omega
  simp [binOp, Op.intDiv, this]
theorem b_quo (ha : 0 ≤ a) (hm : a ≤ 9223372036854775807) (hb : 0 < b) : (binOp .quo T (.int .i64 a) (.int .i64 b)).run P W = .ok (.int .i64 (a / b)) W := by
  have hb0 : b ≠ 0 := by omega
  have h1 : 0 ≤ a / b := Int.ediv_nonneg ha (by omega)
  have h2 : a / b ≤ a := Int.ediv_le_self b ha
  have h3 : IntKind.i64.wrap (a / b) = a / b := wrap_i64 (by omega)
  simp [binOp, Op.intDiv, hb0, Int.tdiv_eq_ediv_of_nonneg ha, h3]
theorem b_shr {kd kd2 : IntKind} (hb : 0 ≤ b ∧ b.toNat ≤ kd.bits) : (binOp .shr T (.int kd a) (.int kd2 b)).run P W = .ok (.int kd (a / 2 ^ b.toNat)) W := by
  have h0 : ¬ b < 0 := by omega
  have h1 : min b.toNat kd.bits = b.toNat := by omega
  have h2 : (0 : Int) ≤ 2 ^ b.toNat := Int.le_of_lt (Int.pow_pos (by decide))
  simp only [binOp, Op.shift, h0, if_false, h1]
  rw [Int.fdiv_eq_ediv_of_nonneg _ h2]; rfl
/-- The bits of numbers, as the model has them. -/
def bw (op : BinOp) (kd : IntKind) (a b : Int) : Int := kd.wrap (match op with
  | .and => BitVec.ofInt kd.bits a &&& BitVec.ofInt kd.bits b
  | .or => BitVec.ofInt kd.bits a ||| BitVec.ofInt kd.bits b
  | .xor => BitVec.ofInt kd.bits a ^^^ BitVec.ofInt kd.bits b
  | _ => BitVec.ofInt kd.bits a &&& ~~~BitVec.ofInt kd.bits b).toNat
theorem b_and {kd : IntKind} : (binOp .and T (.int kd a) (.int kd b)).run P W = .ok (.int kd (bw .and kd a b)) W := by simp [binOp, Op.intBits, bw]
theorem b_or {kd : IntKind} : (binOp .or T (.int kd a) (.int kd b)).run P W = .ok (.int kd (bw .or kd a b)) W := by simp [binOp, Op.intBits, bw]
theorem b_xor {kd : IntKind} : (binOp .xor T (.int kd a) (.int kd b)).run P W = .ok (.int kd (bw .xor kd a b)) W := by simp [binOp, Op.intBits, bw]
theorem b_andNot {kd : IntKind} : (binOp .andNot T (.int kd a) (.int kd b)).run P W = .ok (.int kd (bw .andNot kd a b)) W := by simp [binOp, Op.intBits, bw]
def shl (kd : IntKind) (a b : Int) : Int := kd.wrap (a * 2 ^ (min b.toNat kd.bits))
theorem b_shl {kd kd2 : IntKind} (hb : 0 ≤ b) : (binOp .shl T (.int kd a) (.int kd2 b)).run P W = .ok (.int kd (shl kd a b)) W := by
  have h0 : ¬ b < 0 := by omega
  simp [binOp, Op.shift, h0, shl]
theorem b_eql {kd : IntKind} : (binOp .eql T (.int kd a) (.int kd b)).run P W = .ok (.bool (a == b)) W := by simp [binOp, Op.intCmp]
theorem b_neq {kd : IntKind} : (binOp .neq T (.int kd a) (.int kd b)).run P W = .ok (.bool (a != b)) W := by simp [binOp, Op.intCmp]
theorem b_lss {kd : IntKind} : (binOp .lss T (.int kd a) (.int kd b)).run P W = .ok (.bool (decide (a < b))) W := by simp [binOp, Op.intCmp]
theorem b_leq {kd : IntKind} : (binOp .leq T (.int kd a) (.int kd b)).run P W = .ok (.bool (decide (a ≤ b))) W := by simp [binOp, Op.intCmp]
theorem b_gtr {kd : IntKind} : (binOp .gtr T (.int kd a) (.int kd b)).run P W = .ok (.bool (decide (b < a))) W := by simp [binOp, Op.intCmp]
theorem b_geq {kd : IntKind} : (binOp .geq T (.int kd a) (.int kd b)).run P W = .ok (.bool (decide (b ≤ a))) W := by simp [binOp, Op.intCmp]
end laws

class TyInt (P : Program) (T : TypeId) (kd : outParam IntKind) : Prop where
  under : P.underlying T = some (.int kd)

class TyStr (P : Program) (T : TypeId) : Prop where
  under : P.underlying T = some .string

def sameK : IntKind → IntKind → Bool
  | .i64, .i64 => true | .u8, .u8 => true | .i32, .i32 => true | .u32, .u32 => true | .u64, .u64 => true | .i8, .i8 => true | .i16, .i16 => true | .u16, .u16 => true
  | _, _ => false

theorem sameK_eq {a b : IntKind} (h : sameK a b = true) : a = b := by cases a <;> cases b <;> simp_all [sameK]

def isI64 : IntKind → Bool
  | .i64 => true
  | _ => false

def is64 : IntKind → Bool
  | .i64 => true
  | .u64 => true
  | _ => false

def is32 : IntKind → Bool
  | .i32 => true
  | .u32 => true
  | _ => false

def R64 (z : Int) : Prop := -9223372036854775808 ≤ z ∧ z ≤ 9223372036854775807

/-- What an operator makes of two numbers, and what it asks. -/
def ibin : BinOp → IntKind → Int → IntKind → Int → Option (Value × Prop)
  | .shr, k, a, _, b => match is64 k, is32 k with
    | true, _ => some (.int k (a / 2 ^ b.toNat), 0 ≤ b ∧ b ≤ 64)
    | false, true => some (.int k (a / 2 ^ b.toNat), 0 ≤ b ∧ b ≤ 32)
    | false, false => some (.int k (a / 2 ^ b.toNat), 0 ≤ b ∧ b ≤ 8)
  | .shl, k, a, _, b => some (.int k (shl k a b), 0 ≤ b)
  | op, k, a, k', b => match sameK k k' with
    | false => none
    | true => match op with
      | .eql => some (.bool (a == b), True)
      | .neq => some (.bool (a != b), True)
      | .lss => some (.bool (decide (a < b)), True)
      | .leq => some (.bool (decide (a ≤ b)), True)
      | .gtr => some (.bool (decide (b < a)), True)
      | .geq => some (.bool (decide (b ≤ a)), True)
      | .and => some (.int k (bw .and k a b), True)
      | .or => some (.int k (bw .or k a b), True)
      | .xor => some (.int k (bw .xor k a b), True)
      | .andNot => some (.int k (bw .andNot k a b), True)
      | .rem => some (.int k (a % b), 0 ≤ a ∧ 0 < b)
      | .add => match isI64 k with
        | true => some (.int .i64 (a + b), -9223372036854775808 ≤ a + b ∧ a + b ≤ 9223372036854775807)
        | false => some (.int k (k.wrap (a + b)), True)
      | .sub => match isI64 k with
        | true => some (.int .i64 (a - b), -9223372036854775808 ≤ a - b ∧ a - b ≤ 9223372036854775807)
        | false => some (.int k (k.wrap (a - b)), True)
      | .mul => match isI64 k with
        | true => some (.int .i64 (a * b), -9223372036854775808 ≤ a * b ∧ a * b ≤ 9223372036854775807)
        | false => some (.int k (k.wrap (a * b)), True)
      | .quo => match isI64 k with
        | true => some (.int .i64 (a / b), 0 ≤ a ∧ a ≤ 9223372036854775807 ∧ 0 < b)
        | false => none
      | _ => none

theorem ibin_ok {op : BinOp} {k k' : IntKind} {a b : Int} {v : Value} {ob : Prop} (h : ibin op k a k' b = some (v, ob)) (hob : ob) (T : TypeId) (W : World) : (binOp op T (.int k a) (.int k' b)).run P W = .ok v W := by
  have i64 : ∀ {k : IntKind}, isI64 k = true → k = .i64 := fun {k} h => by cases k <;> simp_all [isI64]
  have shr : ∀ {k k' : IntKind} {v : Value} {ob : Prop}, ibin .shr k a k' b = some (v, ob) → ob → (binOp .shr T (.int k a) (.int k' b)).run P W = .ok v W := by
    intro k k' v ob h hob
    simp only [ibin] at h
    cases h1 : is64 k with
    | true =>
      simp only [h1, Option.some.injEq, Prod.mk.injEq] at h
      obtain ⟨rfl, rfl⟩ := h
      refine b_shr ⟨hob.1, ?_⟩
      have : k.bits = 64 := by cases k <;> simp_all [is64] <;> decide
      omega
    | false =>
      cases h2 : is32 k with
      | true =>
        simp only [h1, h2, Option.some.injEq, Prod.mk.injEq] at h
        obtain ⟨rfl, rfl⟩ := h
        refine b_shr ⟨hob.1, ?_⟩
        have : k.bits = 32 := by cases k <;> simp_all [is32] <;> decide
        omega
      | false =>
        simp only [h1, h2, Option.some.injEq, Prod.mk.injEq] at h
        obtain ⟨rfl, rfl⟩ := h
        refine b_shr ⟨hob.1, ?_⟩
        have : 8 ≤ k.bits := by cases k <;> decide
        omega
  by_cases hop : op = .shr
  · subst hop; exact shr h hob
  cases hs : sameK k k' with
  | false =>
    cases op <;> simp only [reduceCtorEq, not_false_eq_true, not_true] at hop <;> simp only [ibin, hs, Option.some.injEq, Prod.mk.injEq, reduceCtorEq] at h
    · obtain ⟨rfl, rfl⟩ := h; exact b_shl hob
  | true =>
    have hk := sameK_eq hs
    subst hk
    cases op <;> simp only [reduceCtorEq, not_false_eq_true, not_true] at hop <;> simp only [ibin, hs, Option.some.injEq, Prod.mk.injEq] at h
    case add => cases hi : isI64 k with
      | true => have := i64 hi; subst this; simp only [isI64, Option.some.injEq, Prod.mk.injEq] at h; obtain ⟨rfl, rfl⟩ := h; exact b_add hob
      | false => simp only [hi, Option.some.injEq, Prod.mk.injEq] at h; obtain ⟨rfl, rfl⟩ := h; simp [binOp, Op.intArith]
    case sub => cases hi : isI64 k with
      | true => have := i64 hi; subst this; simp only [isI64, Option.some.injEq, Prod.mk.injEq] at h; obtain ⟨rfl, rfl⟩ := h; exact b_sub hob
      | false => simp only [hi, Option.some.injEq, Prod.mk.injEq] at h; obtain ⟨rfl, rfl⟩ := h; simp [binOp, Op.intArith]
    case mul => cases hi : isI64 k with
      | true => have := i64 hi; subst this; simp only [isI64, Option.some.injEq, Prod.mk.injEq] at h; obtain ⟨rfl, rfl⟩ := h; exact b_mul hob
      | false => simp only [hi, Option.some.injEq, Prod.mk.injEq] at h; obtain ⟨rfl, rfl⟩ := h; simp [binOp, Op.intArith]
    case quo => cases hi : isI64 k with
      | true => have := i64 hi; subst this; simp only [isI64, Option.some.injEq, Prod.mk.injEq] at h; obtain ⟨rfl, rfl⟩ := h; exact b_quo hob.1 hob.2.1 hob.2.2
      | false => simp [hi] at h
    case rem => obtain ⟨rfl, rfl⟩ := h; exact b_rem hob.1 hob.2
    case and => obtain ⟨rfl, rfl⟩ := h; exact b_and
    case or => obtain ⟨rfl, rfl⟩ := h; exact b_or
    case xor => obtain ⟨rfl, rfl⟩ := h; exact b_xor
    case andNot => obtain ⟨rfl, rfl⟩ := h; exact b_andNot
    case shl => obtain ⟨rfl, rfl⟩ := h; exact b_shl hob
    case eql => obtain ⟨rfl, rfl⟩ := h; exact b_eql
    case neq => obtain ⟨rfl, rfl⟩ := h; exact b_neq
    case lss => obtain ⟨rfl, rfl⟩ := h; exact b_lss
    case leq => obtain ⟨rfl, rfl⟩ := h; exact b_leq
    case gtr => obtain ⟨rfl, rfl⟩ := h; exact b_gtr
    case geq => obtain ⟨rfl, rfl⟩ := h; exact b_geq

/-- What a plain operation makes, and what it asks. -/
def pv (ρ : Operand → Option Value) : Op → Option (Value × Prop)
  | .move x => match ρ x with | some v => some (v, True) | none => none
  | .assign x => match ρ x with | some v => some (v, True) | none => none
  | .nilCheck x => match ρ x with | some (.pointer (some a)) => some (.pointer (some a), True) | _ => none
  | .extract x i => match ρ x with | some (.tuple vs) => (match vs.toList[i]? with | some v => some (v, True) | none => none) | _ => none
  | .unOp .not _ x => match ρ x with | some (.bool b) => some (.bool !b, True) | _ => none
  | .unOp .neg _ x => match ρ x with | some (.int .i64 a) => some (.int .i64 (-a), -9223372036854775808 ≤ -a ∧ -a ≤ 9223372036854775807) | _ => none
  | .binOp op _ x y _ => match ρ x, ρ y with
    | some (.int k a), some (.int k' b) => ibin op k a k' b
    | _, _ => none
  | _ => none

theorem pv_ok {o : Oper} {v : Value} {ob : Prop} (h : pv (evo f σ) o.op = some (v, ob)) (hob : ob) (W : World) : (execOp (ev f (degs f σ (tmpsOf o.op.operands.toList) σ)) o).run P W = .ok (.value v) W := by
  obtain ⟨dst, op, ty, pos, after, guard⟩ := o
  cases op <;> simp only [pv, reduceCtorEq] at h
  case move x =>
    cases hx : evo f σ x with
    | none => simp [hx] at h
    | some u =>
      simp only [hx, Option.some.injEq, Prod.mk.injEq] at h; obtain ⟨rfl, rfl⟩ := h
      have key : ∀ ρ : Operand → Value, ρ x = u → (execOp ρ ⟨dst, .move x, ty, pos, after, guard⟩).run P W = .ok (.value u) W := fun ρ hρ => by simp [execOp, hρ]
      exact key _ (ev_evo hx (.head _))
  case assign x =>
    cases hx : evo f σ x with
    | none => simp [hx] at h
    | some u =>
      simp only [hx, Option.some.injEq, Prod.mk.injEq] at h; obtain ⟨rfl, rfl⟩ := h
      have key : ∀ ρ : Operand → Value, ρ x = u → (execOp ρ ⟨dst, .assign x, ty, pos, after, guard⟩).run P W = .ok (.value u) W := fun ρ hρ => by simp [execOp, hρ]
      exact key _ (ev_evo hx (.head _))
  case nilCheck x =>
    split at h <;> simp only [Option.some.injEq, Prod.mk.injEq, reduceCtorEq] at h
    rename_i a hx
    obtain ⟨rfl, rfl⟩ := h
    have key : ∀ ρ : Operand → Value, ρ x = .pointer (some a) → (execOp ρ ⟨dst, .nilCheck x, ty, pos, after, guard⟩).run P W = .ok (.value (.pointer (some a))) W := fun ρ hρ => by simp [execOp, hρ]
    exact key _ (ev_evo hx (.head _))
  case extract x i =>
    split at h <;> try (simp only [reduceCtorEq] at h; done)
    rename_i vs hx
    split at h <;> simp only [Option.some.injEq, Prod.mk.injEq, reduceCtorEq] at h
    rename_i u hi
    obtain ⟨rfl, rfl⟩ := h
    have hi' : vs[i]? = some u := by simpa using hi
    have key : ∀ ρ : Operand → Value, ρ x = .tuple vs → (execOp ρ ⟨dst, .extract x i, ty, pos, after, guard⟩).run P W = .ok (.value u) W := fun ρ hρ => by simp [execOp, hρ, Instr.extract, hi']
    exact key _ (ev_evo hx (.head _))
  case unOp uop T x =>
    cases uop <;> simp only [reduceCtorEq] at h
    · split at h <;> simp only [Option.some.injEq, Prod.mk.injEq, reduceCtorEq] at h
      rename_i a hx
      obtain ⟨rfl, rfl⟩ := h
      have key : ∀ ρ : Operand → Value, ρ x = .int .i64 a → (execOp ρ ⟨dst, .unOp .neg T x, ty, pos, after, guard⟩).run P W = .ok (.value (.int .i64 (-a))) W := fun ρ hρ => by simp [execOp, hρ, Op.unary, Op.intArith, wrap_i64 hob]
      exact key _ (ev_evo hx (.head _))
    split at h <;> simp only [Option.some.injEq, Prod.mk.injEq, reduceCtorEq] at h
    rename_i b hx
    obtain ⟨rfl, rfl⟩ := h
    have key : ∀ ρ : Operand → Value, ρ x = .bool b → (execOp ρ ⟨dst, .unOp .not T x, ty, pos, after, guard⟩).run P W = .ok (.value (.bool !b)) W := fun ρ hρ => by simp [execOp, hρ, Op.unary]
    exact key _ (ev_evo hx (.head _))
  case binOp bop T x y T' =>
    split at h <;> try (simp only [reduceCtorEq] at h; done)
    rename_i k1 a k2 b hx hy
    have hv := ibin_ok (P := P) h hob T
    have key : ∀ ρ : Operand → Value, ρ x = .int k1 a → ρ y = .int k2 b → (execOp ρ ⟨dst, .binOp bop T x y T', ty, pos, after, guard⟩).run P W = .ok (.value v) W := fun ρ hρ hρ2 => by
      have h1 : (eqGuard bop T x y (.int k1 a) (.int k2 b)).run P W = .ok () W := by unfold eqGuard; cases bop <;> simp
      simp [execOp, hρ, hρ2, h1, hv]
    exact key _ (ev_evo hx (.head _)) (ev_evo hy (.tail _ (.head _)))


/-- The tail that all value rules share. -/
theorem v_p {gd : Option Bool} {d : Nat} {v : Value} {ob : Prop}
    (hv : pv (evo f σ) o.op = some (v, ob) := by exact rfl) (hd : o.dst = some d := by exact rfl) (hn : Nat.ble (d + 1) n = true := by exact rfl) (hg : gdOf f σ all o.guard = some gd := by exact rfl)
    (hob : ob := by first | exact trivial | omega) (hgo : gob f σ (gdc gd) (tmpsOf o.op.operands.toList) := by first | exact trivial | exact ⟨id, trivial⟩ | exact ⟨id, id, trivial⟩ | exact ⟨andl, trivial⟩ | exact ⟨andl, andl, trivial⟩ | exact ⟨andl, id, trivial⟩ | exact ⟨id, andl, trivial⟩) : Val P n f σ all s o d gd v :=
  .of hd hn hg (fun W _ => pv_ok hv hob W) hgo

/-- A plain operation whose value is written otherwise. -/
theorem v_pe {gd : Option Bool} {d : Nat} {v v' : Value} {ob : Prop} (he : v = v') (hv : pv (evo f σ) o.op = some (v, ob)) (hob : ob)
    (hd : o.dst = some d := by exact rfl) (hn : Nat.ble (d + 1) n = true := by exact rfl) (hg : gdOf f σ all o.guard = some gd := by exact rfl)
    (hgo : gob f σ (gdc gd) (tmpsOf o.op.operands.toList) := by first | exact trivial | exact ⟨id, trivial⟩ | exact ⟨id, id, trivial⟩ | exact ⟨andl, trivial⟩ | exact ⟨andl, andl, trivial⟩ | exact ⟨andl, id, trivial⟩ | exact ⟨id, andl, trivial⟩) : Val P n f σ all s o d gd v' :=
  .of hd hn hg (fun W _ => he ▸ pv_ok hv hob W) hgo

/-- A remainder of a number that may lie below zero. -/
theorem v_tmod {T T' : TypeId} {x y : Operand} {gd : Option Bool} {d : Nat} {kd : IntKind} {a b c : Int} (hc : a.tmod b = c) (hb : 0 < b)
    (hx : evo f σ x = some (.int kd a) := by exact rfl) (hy : evo f σ y = some (.int kd b) := by exact rfl) (hd : dst = some d := by exact rfl) (hn : Nat.ble (d + 1) n = true := by exact rfl) (hg : gdOf f σ all guard = some gd := by exact rfl) (hob : gob f σ (gdc gd) (tmpsOf [x, y]) := by first | exact trivial | exact ⟨id, trivial⟩ | exact ⟨id, id, trivial⟩ | exact ⟨andl, trivial⟩ | exact ⟨andl, andl, trivial⟩ | exact ⟨andl, id, trivial⟩ | exact ⟨id, andl, trivial⟩) :
    Val P n f σ all s ⟨dst, .binOp .rem T x y T', ty, pos, after, guard⟩ d gd (.int kd c) :=
  .of hd hn hg (fun W _ => by
    have key : ∀ ρ : Operand → Value, ρ x = .int kd a → ρ y = .int kd b → (execOp ρ ⟨dst, .binOp .rem T x y T', ty, pos, after, guard⟩).run P W = .ok (.value (.int kd c)) W := fun ρ hρ hρ2 => by
      simp [execOp, hρ, hρ2, eqGuard, b_tmod hb, hc]
    exact key _ (ev_evo hx (.head _)) (ev_evo hy (.tail _ (.head _)))) hob

theorem v_cv {T T' : TypeId} {kd kd' : IntKind} [u1 : TyInt P T kd] [u2 : TyInt P T' kd'] {x : Operand} {gd : Option Bool} {d : Nat} {a c : Int} {k1 : IntKind}
    (hx : evo f σ x = some (.int k1 a) := by exact rfl) (hc : kd'.wrap a = c := by first | exact wrap_i64 (by omega) | exact wrap_u8 (by omega)) (hd : dst = some d := by exact rfl) (hn : Nat.ble (d + 1) n = true := by exact rfl) (hg : gdOf f σ all guard = some gd := by exact rfl)
    (hob : gob f σ (gdc gd) (tmpsOf [x]) := by first | exact trivial | exact ⟨id, trivial⟩ | exact ⟨id, id, trivial⟩ | exact ⟨andl, trivial⟩ | exact ⟨andl, andl, trivial⟩ | exact ⟨andl, id, trivial⟩ | exact ⟨id, andl, trivial⟩) : Val P n f σ all s ⟨dst, .convert T T' x, ty, pos, after, guard⟩ d gd (.int kd' c) :=
  .of hd hn hg (fun W _ => by
    have key : ∀ ρ : Operand → Value, ρ x = .int k1 a → (execOp ρ ⟨dst, .convert T T' x, ty, pos, after, guard⟩).run P W = .ok (.value (.int kd' c)) W := fun ρ hρ => by
      simp [execOp, hρ, convert, underlying, u1.under, u2.under, Conv.intToInt, hc]
    exact key _ (ev_evo hx (.head _))) hob

theorem v_pick {gd : Option Bool} {d : Nat} {x y z : Operand} {c b1 b2 : Bool} (b : Bool) (hb : b = (match c with | true => b1 | false => b2)) (hx : (sv f σ x).raw = .bool c) (hy : (sv f σ y).raw = .bool b1) (hz : (sv f σ z).raw = .bool b2)
    (hcx : gdc gd = true → (sv f σ x).cnd = true) (hcy : gdc gd = true → c = true → (sv f σ y).cnd = true) (hcz : gdc gd = true → c = false → (sv f σ z).cnd = true)
    (hd : dst = some d) (hn : Nat.ble (d + 1) n = true) (hg : gdOf f σ all guard = some gd) : Val P n f σ all s ⟨dst, .pick x y z, ty, pos, after, guard⟩ d gd (.bool b) :=
  ⟨hd, hn, hg, fun a W hrep hc hW => by
    simp only [execOp, hrep.eval, ev_sv, SV.val_raw (hcx hc), hx]
    cases c with
    | true => simp [SV.val_raw (hcy hc rfl), hy, asBool, hb]
    | false => simp [SV.val_raw (hcz hc rfl), hz, asBool, hb]⟩

theorem v_and {gd : Option Bool} {d : Nat} {x y : Operand} {c b1 : Bool}
    (hx : (sv f σ x).raw = .bool c := by exact rfl) (hy : (sv f σ y).raw = .bool b1 := by exact rfl) (hd : dst = some d := by exact rfl) (hn : Nat.ble (d + 1) n = true := by exact rfl) (hg : gdOf f σ all guard = some gd := by exact rfl)
    (hcx : gdc gd = true → (sv f σ x).cnd = true := by first | exact fun _ => rfl | exact id | exact andl) (hcy : gdc gd = true → c = true → (sv f σ y).cnd = true := by first | exact fun _ _ => rfl | exact fun _ h => h | exact fun h1 h2 => (Bool.and_eq_true_iff.2 ⟨h1, h2⟩)) :
    Val P n f σ all s ⟨dst, .pick x y (.const (.bool false)), ty, pos, after, guard⟩ d gd (.bool (c && b1)) :=
  v_pick _ (by cases c <;> rfl) hx hy rfl hcx hcy (fun _ _ => rfl) hd hn hg

theorem notf {c : Bool} (h : c = false) : (!c) = true := by cases c <;> simp_all
theorem andnf {a c : Bool} (h : a = true) (h2 : c = false) : (a && !c) = true := by cases a <;> cases c <;> simp_all

theorem v_or {gd : Option Bool} {d : Nat} {x y : Operand} {c b1 : Bool}
    (hx : (sv f σ x).raw = .bool c := by exact rfl) (hy : (sv f σ y).raw = .bool b1 := by exact rfl) (hd : dst = some d := by exact rfl) (hn : Nat.ble (d + 1) n = true := by exact rfl) (hg : gdOf f σ all guard = some gd := by exact rfl)
    (hcx : gdc gd = true → (sv f σ x).cnd = true := by first | exact fun _ => rfl | exact id | exact andl) (hcy : gdc gd = true → c = false → (sv f σ y).cnd = true := by first | exact fun _ _ => rfl | exact fun _ h => notf h | exact fun h h2 => andnf h h2) :
    Val P n f σ all s ⟨dst, .pick x (.const (.bool true)) y, ty, pos, after, guard⟩ d gd (.bool (c || b1)) :=
  v_pick _ (by cases c <;> rfl) hx rfl hy hcx (fun _ _ => rfl) hcy hd hn hg

/-! ### Cells -/

def plain : Value → Bool
  | .agg _ => false
  | .tuple _ => false
  | _ => true

theorem plain_one {v : Value} (h : plain v = true) : v.oneCell' = true := by cases v <;> simp_all [plain, Value.oneCell']

/-- A list written over from a place on. -/
def splice (l : List Value) (off : Nat) (vs : List Value) : List Value := l.take off ++ vs ++ l.drop (off + vs.length)

theorem take_splice {l vs : List Value} {off m : Nat} (h1 : off + vs.length ≤ m) (h2 : m ≤ l.length) : (splice l off vs).take m = splice (l.take m) off vs := by
  apply List.ext_getElem?
  intro j
  simp only [splice, List.getElem?_take, List.getElem?_append, List.getElem?_drop, List.length_append, List.length_take]
  by_cases a : j < off
  · have b : j < min off l.length + vs.length := by omega
    have c : j < min off l.length := by omega
    have d : j < m := by omega
    have e : j < min off (min m l.length) + vs.length := by omega
    have g : j < min off (min m l.length) := by omega
    simp [a, b, c, d, e, g]
  · by_cases a2 : j < off + vs.length
    · have b : j < min off l.length + vs.length := by omega
      have c : ¬ j < min off l.length := by omega
      have d : j < m := by omega
      have e : j < min off (min m l.length) + vs.length := by omega
      have g : ¬ j < min off (min m l.length) := by omega
      have k : min off l.length = min off (min m l.length) := by omega
      simp [d, e, g, k]
    · have b : ¬ j < min off l.length + vs.length := by omega
      have e : ¬ j < min off (min m l.length) + vs.length := by omega
      have k1 : off + vs.length + (j - (min off l.length + vs.length)) = j := by omega
      have k2 : off + vs.length + (j - (min off (min m l.length) + vs.length)) = j := by omega
      simp [b, e, k1, k2]

theorem sp0 (l : List Value) : splice l 0 [] = l := by simp [splice]
theorem sp1 {a v : Value} {l vs l' : List Value} (h : splice l 0 vs = l') : splice (a :: l) 0 (v :: vs) = v :: l' := by
  rw [← h]; simp [splice]
theorem sp2 {a : Value} {l vs l' : List Value} {n : Nat} (h : splice l n vs = l') : splice (a :: l) (n + 1) vs = a :: l' := by
  rw [← h]; simp only [splice, List.take_succ_cons, List.cons_append]
  rw [show n + 1 + vs.length = (n + vs.length) + 1 from by omega, List.drop_succ_cons]
theorem sb0 (l : List Value) : sub l 0 0 = some [] := by simp [sub, Nat.ble]
theorem sb_def (l : List Value) (off n : Nat) : sub l off n = if off + n ≤ l.length then some ((l.drop off).take n) else none := by
  unfold sub
  by_cases h : off + n ≤ l.length
  · rw [if_pos h, Nat.ble_eq_true_of_le h]
  · rw [if_neg h]
    have : Nat.ble (off + n) l.length = false := by
      cases hb : Nat.ble (off + n) l.length with
      | false => rfl
      | true => exact absurd (Nat.le_of_ble_eq_true hb) h
    rw [this]
theorem sb1 {a : Value} {l l' : List Value} {m : Nat} (h : sub l 0 m = some l') : sub (a :: l) 0 (m + 1) = some (a :: l') := by
  rw [sb_def] at h ⊢
  split at h
  · rename_i hle
    simp only [Option.some.injEq] at h
    rw [if_pos (by simp only [List.length_cons]; omega), ← h]; simp
  · simp at h
theorem sb2 {a : Value} {l l' : List Value} {n m : Nat} (h : sub l n m = some l') : sub (a :: l) (n + 1) m = some l' := by
  rw [sb_def] at h ⊢
  split at h
  · rename_i hle
    simp only [Option.some.injEq] at h
    rw [if_pos (by simp only [List.length_cons]; omega), ← h]; simp
  · simp at h

def cellsOf : Value → List Value
  | .agg cs => cs.toList
  | v => [v]

theorem co1 {l : List Value} : cellsOf (.agg l.toArray) = l := rfl
theorem co2 {v : Value} (h : plain v = true) : cellsOf v = [v] := by cases v <;> simp_all [plain, cellsOf]

theorem cellsOf_cells (v : Value) : v.cells.toList = cellsOf v := by cases v <;> rfl

/-! ### Addresses -/

theorem run_fieldAt {T : TypeId} {fs : List (Nat × TypeId)} [h : TyStruct P T fs] {b o i off : Nat} {T' : TypeId} (hf : fs[i]? = some (off, T')) {agg : Bool} {sz : Nat} [ht : TyA P T' agg (sz + 1)] (w : World) :
    (Instr.fieldAt T (.pointer (some ⟨b, o, none⟩)) i).run P w = .ok (.pointer (some ⟨b, o + off, none⟩)) w := by
  have hh := h.fields
  cases hu : P.underlying T with
  | none => simp [hu] at hh
  | some u =>
    cases u <;> simp only [hu] at hh <;> try (cases hh; done)
    rename_i l
    simp only [Option.some.injEq] at hh
    rw [← hh, List.getElem?_map] at hf
    rw [Array.getElem?_toList] at hf
    cases hl : l[i]? with
    | none => simp [hl] at hf
    | some x =>
      simp only [hl, Option.map_some, Option.some.injEq, Prod.mk.injEq] at hf
      obtain ⟨rfl, rfl⟩ := hf
      have hsz := run_sizeOf ht.knows w
      rw [ht.sz] at hsz
      simp [Instr.fieldAt, underlying, hu, hl, Instr.sureAddr, fieldPlace, hsz, add_none]

/-- The block and the place of an address that may be nil. -/
def pb (p : Option Addr) : Nat := match p with | some a => a.block | none => 0
def po (p : Option Addr) : Nat := match p with | some a => a.off | none => 0


theorem v_f {T : TypeId} {fs : List (Nat × TypeId)} [TyStruct P T fs] {b o i off : Nat} {T' : TypeId} {x : Operand} {agg : Bool} {sz : Nat} {gd : Option Bool} {d q : Nat}
    (hx : evo f σ x = some (.pointer (some ⟨b, o, none⟩)) := by exact rfl) (hf : fs[i]? = some (off, T') := by exact rfl) (hq : o + off = q := by first | exact Nat.zero_add _ | exact Nat.add_zero _ | (simp only [Nat.reduceAdd]; done) | exact rfl) (hd : dst = some d := by exact rfl) (hn : Nat.ble (d + 1) n = true := by exact rfl) (hg : gdOf f σ all guard = some gd := by exact rfl)
    (hob : gob f σ (gdc gd) (tmpsOf [x]) := by first | exact trivial | exact ⟨id, trivial⟩ | exact ⟨id, id, trivial⟩ | exact ⟨andl, trivial⟩ | exact ⟨andl, andl, trivial⟩ | exact ⟨andl, id, trivial⟩ | exact ⟨id, andl, trivial⟩) [TyA P T' agg (sz + 1)] : Val P n f σ all s ⟨dst, .fieldAddr T x i, ty, pos, after, guard⟩ d gd (.pointer (some ⟨b, q, none⟩)) := by
  subst hq
  exact .of hd hn hg (fun W _ => by
    have key : ∀ ρ : Operand → Value, ρ x = .pointer (some ⟨b, o, none⟩) → (execOp ρ ⟨dst, .fieldAddr T x i, ty, pos, after, guard⟩).run P W = .ok (.value (.pointer (some ⟨b, o + off, none⟩))) W := fun ρ hρ => by
      simp [execOp, hρ, run_fieldAt hf]
    exact key _ (ev_evo hx (.head _))) hob

theorem run_ixs {T e : TypeId} [TySlice P T e] {p : Option Addr} {len cap : Nat} {kd : IntKind} {i : Int} {agg : Bool} {sz : Nat} [TyA P e agg sz] (hp : p = some ⟨pb p, po p, none⟩) (hi : 0 ≤ i ∧ i < len) (W : World) :
    (Instr.indexAt T (.slice p len cap) (.int kd i)).run P W = .ok (.pointer (some ⟨pb p, po p + i.toNat * sz, none⟩)) W := by
  have hsz := run_sizeOf (‹TyA P e agg sz›).knows W
  rw [(‹TyA P e agg sz›).sz] at hsz
  generalize hb : pb p = b at *
  generalize ho : po p = o at *
  rw [hp]
  simp [Instr.indexAt, asIntOf, run_underSlice (P := P) (T := T) (e := e), hi, hsz, add_none]

theorem run_ixa {T e : TypeId} {len : Nat} [TyArr P T len e] {b o : Nat} {kd : IntKind} {i : Int} {agg : Bool} {sz : Nat} [TyA P e agg sz] (hi : 0 ≤ i ∧ i < len) (W : World) :
    (Instr.indexAt T (.pointer (some ⟨b, o, none⟩)) (.int kd i)).run P W = .ok (.pointer (some ⟨b, o + i.toNat * sz, none⟩)) W := by
  have hsz := run_sizeOf (‹TyA P e agg sz›).knows W
  rw [(‹TyA P e agg sz›).sz] at hsz
  simp [Instr.indexAt, asIntOf, run_underArr (P := P) (T := T) (e := e) (len := len), hi, hsz, add_none, Instr.sureAddr]

theorem ix_key {T : TypeId} {x y : Operand} {u v r : Value} {W : World} (h : (Instr.indexAt T u v).run P W = .ok r W) (hx : evo f σ x = some u) (hy : evo f σ y = some v) :
    (execOp (ev f (degs f σ (tmpsOf [x, y]) σ)) ⟨dst, .indexAddr T x y, ty, pos, after, guard⟩).run P W = .ok (.value r) W := by
  have key : ∀ ρ : Operand → Value, ρ x = u → ρ y = v → (execOp ρ ⟨dst, .indexAddr T x y, ty, pos, after, guard⟩).run P W = .ok (.value r) W := fun ρ hρ hρ2 => by
    simp [execOp, hρ, hρ2, h]
  exact key _ (ev_evo hx (.head _)) (ev_evo hy (.tail _ (.head _)))

/-- An element's address: a slice that is known to lie somewhere. -/
theorem v_i {T e : TypeId} [TySlice P T e] {x y : Operand} {p : Option Addr} {len cap : Nat} {kd : IntKind} {i : Int} {agg : Bool} {sz : Nat} [TyA P e agg sz] {gd : Option Bool} {d : Nat}
    (hx : evo f σ x = some (.slice p len cap) := by exact rfl) (hy : evo f σ y = some (.int kd i) := by exact rfl)
    (hp : p = some ⟨pb p, po p, none⟩ := by first | exact rfl | assumption) (hi : 0 ≤ i ∧ i < len := by omega) (hd : dst = some d := by exact rfl) (hn : Nat.ble (d + 1) n = true := by exact rfl) (hg : gdOf f σ all guard = some gd := by exact rfl)
    (hob : gob f σ (gdc gd) (tmpsOf [x, y]) := by first | exact trivial | exact ⟨id, trivial⟩ | exact ⟨id, id, trivial⟩ | exact ⟨andl, trivial⟩ | exact ⟨andl, andl, trivial⟩ | exact ⟨andl, id, trivial⟩ | exact ⟨id, andl, trivial⟩) : Val P n f σ all s ⟨dst, .indexAddr T x y, ty, pos, after, guard⟩ d gd (.pointer (some ⟨pb p, po p + i.toNat * sz, none⟩)) :=
  .of hd hn hg (fun W _ => ix_key (run_ixs (T := T) (e := e) (kd := kd) (agg := agg) (sz := sz) hp hi W) hx hy) hob

/-- An element's address: an array. -/
theorem v_a {T e : TypeId} {len : Nat} [TyArr P T len e] {x y : Operand} {b o : Nat} {kd : IntKind} {i : Int} {agg : Bool} {sz : Nat} [TyA P e agg sz] {gd : Option Bool} {d : Nat}
    (hx : evo f σ x = some (.pointer (some ⟨b, o, none⟩)) := by exact rfl) (hy : evo f σ y = some (.int kd i) := by exact rfl)
    (hi : 0 ≤ i ∧ i < len := by omega) (hd : dst = some d := by exact rfl) (hn : Nat.ble (d + 1) n = true := by exact rfl) (hg : gdOf f σ all guard = some gd := by exact rfl)
    (hob : gob f σ (gdc gd) (tmpsOf [x, y]) := by first | exact trivial | exact ⟨id, trivial⟩ | exact ⟨id, id, trivial⟩ | exact ⟨andl, trivial⟩ | exact ⟨andl, andl, trivial⟩ | exact ⟨andl, id, trivial⟩ | exact ⟨id, andl, trivial⟩) : Val P n f σ all s ⟨dst, .indexAddr T x y, ty, pos, after, guard⟩ d gd (.pointer (some ⟨b, o + i.toNat * sz, none⟩)) :=
  .of hd hn hg (fun W _ => ix_key (run_ixa (T := T) (e := e) (kd := kd) (agg := agg) (sz := sz) hi W) hx hy) hob

/-! ### Reading -/

/-- A slice that came in: its cells, which nobody turns. -/
structure Sl (w0 : World) (F : List Nat) (p : Option Addr) (m sz : Nat) (xs : List Value) : Prop where
  len : xs.length = m * sz
  ptr : 0 < m → p = some ⟨pb p, po p, none⟩
  rd : ∀ j v, xs[j]? = some v → Rd w0 F (pb p) (po p + j) v

theorem Sl.nil (w0 : World) (F : List Nat) (p : Option Addr) (sz : Nat) : Sl w0 F p 0 sz [] := ⟨by simp, fun h => absurd h (Nat.lt_irrefl 0), fun j v h => by simp at h⟩

/-- (what came in is as it was) -/
theorem Rd.now {s : St} {w : World} (h : s.holds w) {b off : Nat} {v : Value} (hr : Rd s.w0 s.F b off v) : Rd w [] b off v :=
  ⟨Nat.lt_of_lt_of_le hr.1 h.size, by simp, h.rd hr⟩

theorem Sl.now {w : World} (h : (St.mk w0 F L).holds w) {p : Option Addr} {m sz : Nat} {xs : List Value} (hs : Sl w0 F p m sz xs) : Sl w [] p m sz xs :=
  ⟨hs.len, hs.ptr, fun j v hj => Rd.now (s := ⟨w0, F, L⟩) h (hs.rd j v hj)⟩

theorem rd_of_cells {w : World} (h : (St.mk w0 F L).holds w) {b off : Nat} {l : List Value} {T : TypeId} {v : Value} (hm : En.cells b l T ∈ L) (hv : l[off]? = some v) : Rd w [] b off v :=
  ⟨h.lt hm rfl, by simp, (cell_of (h.own _ hm) off).trans hv⟩

theorem sl_of_cells {w : World} (h : (St.mk w0 F L).holds w) {b m sz : Nat} {l : List Value} {T : TypeId} (hm : En.cells b l T ∈ L) (hl : l.length = m * sz) : Sl w [] (some ⟨b, 0, none⟩) m sz l :=
  ⟨hl, fun _ => rfl, fun j v hj => by simpa [pb, po] using rd_of_cells h hm hj⟩

theorem row_cell {w : World} {p : Option Addr} {m cap sz : Nat} {xs : List Value} {T : TypeId} (h : (En.row p m cap xs T sz).at w) {j : Nat} {v : Value} (hv : xs[j]? = some v) :
    p = some ⟨pb p, po p, none⟩ ∧ pb p < w.heap.size ∧ w.cell? ⟨pb p, po p + j, none⟩ = some v := by
  obtain ⟨h1, ⟨rfl, rfl, rfl⟩ | ⟨b, cur, rfl, hb, h2, h3, h4, h5⟩⟩ := h
  · have : xs = [] := List.eq_nil_of_length_eq_zero (by simpa using h1)
    subst this; simp at hv
  · refine ⟨rfl, (Array.getElem?_eq_some_iff.1 hb).1, ?_⟩
    simp only [pb, po, Nat.zero_add, World.cell?, hb, Option.isSome_none, Bool.false_eq_true, if_false]
    rw [← h5, List.getElem?_take] at hv
    split at hv
    · simpa using hv
    · simp at hv

theorem sl_of_row {w : World} (h : (St.mk w0 F L).holds w) {p : Option Addr} {m cap sz : Nat} {xs : List Value} {T : TypeId} (hm : En.row p m cap xs T sz ∈ L) : Sl w [] p m sz xs := by
  have ha := h.own _ hm
  refine ⟨ha.1, fun hp => ?_, fun j v hj => ?_⟩
  · rcases ha.2 with ⟨_, rfl, _⟩ | ⟨b, cur, rfl, _⟩
    · omega
    · rfl
  · obtain ⟨h1, h2, h3⟩ := row_cell ha hj
    exact ⟨h2, by simp, h3⟩


theorem ld_key {T : TypeId} {x : Operand} {a : Addr} {r : Value} {W : World} (h : (loadVar T a).run P W = .ok r W) (hx : evo f σ x = some (.pointer (some a))) :
    (execOp (ev f (degs f σ (tmpsOf [x]) σ)) ⟨dst, .load T x, ty, pos, after, guard⟩).run P W = .ok (.value r) W := by
  have key : ∀ ρ : Operand → Value, ρ x = .pointer (some a) → (execOp ρ ⟨dst, .load T x, ty, pos, after, guard⟩).run P W = .ok (.value r) W := fun ρ hρ => by
    simp [execOp, Instr.loadAt, hρ, Instr.sureAddr, h]
  exact key _ (ev_evo hx (.head _))

/-- One cell of an own block. -/
theorem v_l {T b off : Nat} {x : Operand} {sz : Nat} [TyA P T false sz] {l : List Value} {T' : TypeId} {v : Value} {gd : Option Bool} {d : Nat}
    (hx : evo f σ x = some (.pointer (some ⟨b, off, none⟩)) := by exact rfl) (hm : En.cells b l T' ∈ s.L := by repeat (first | exact List.Mem.head _ | apply List.Mem.tail)) (hv : l[off]? = some v := by exact rfl)
    (hd : dst = some d := by exact rfl) (hn : Nat.ble (d + 1) n = true := by exact rfl) (hg : gdOf f σ all guard = some gd := by exact rfl) (hob : gob f σ (gdc gd) (tmpsOf [x]) := by first | exact trivial | exact ⟨id, trivial⟩ | exact ⟨id, id, trivial⟩ | exact ⟨andl, trivial⟩ | exact ⟨andl, andl, trivial⟩ | exact ⟨andl, id, trivial⟩ | exact ⟨id, andl, trivial⟩) :
    Val P n f σ all s ⟨dst, .load T x, ty, pos, after, guard⟩ d gd v :=
  .of hd hn hg (fun _ hW => ld_key (run_loadVar_s ((cell_of (hW.own _ hm) off).trans hv)) hx) hob

/-- A struct or an array out of an own block. -/
theorem v_la {T b off : Nat} {x : Operand} {sz : Nat} [TyA P T true sz] {l l' : List Value} {T' : TypeId} {gd : Option Bool} {d : Nat}
    (hx : evo f σ x = some (.pointer (some ⟨b, off, none⟩)) := by exact rfl) (hm : En.cells b l T' ∈ s.L := by repeat (first | exact List.Mem.head _ | apply List.Mem.tail)) (hv : sub l off sz = some l' := by repeat (first | with_reducible exact sb0 _ | with_reducible apply sb1 | with_reducible apply sb2 | exact rfl))
    (hd : dst = some d := by exact rfl) (hn : Nat.ble (d + 1) n = true := by exact rfl) (hg : gdOf f σ all guard = some gd := by exact rfl) (hob : gob f σ (gdc gd) (tmpsOf [x]) := by first | exact trivial | exact ⟨id, trivial⟩ | exact ⟨id, id, trivial⟩ | exact ⟨andl, trivial⟩ | exact ⟨andl, andl, trivial⟩ | exact ⟨andl, id, trivial⟩ | exact ⟨id, andl, trivial⟩) :
    Val P n f σ all s ⟨dst, .load T x, ty, pos, after, guard⟩ d gd (.agg l'.toArray) :=
  .of hd hn hg (fun _ hW => ld_key (run_loadVar_a (sub_get hv).1 (fun j v hj => (cell_of (hW.own _ hm) (off + j)).trans ((sub_get hv).2 j v hj))) hx) hob

/-- One cell of a block that was there. -/
theorem v_lb {T b off : Nat} {x : Operand} {sz : Nat} [TyA P T false sz] {v : Value} {gd : Option Bool} {d : Nat} (hv : Rd s.w0 s.F b off v)
    (hx : evo f σ x = some (.pointer (some ⟨b, off, none⟩)) := by exact rfl) (hd : dst = some d := by exact rfl) (hn : Nat.ble (d + 1) n = true := by exact rfl) (hg : gdOf f σ all guard = some gd := by exact rfl) (hob : gob f σ (gdc gd) (tmpsOf [x]) := by first | exact trivial | exact ⟨id, trivial⟩ | exact ⟨id, id, trivial⟩ | exact ⟨andl, trivial⟩ | exact ⟨andl, andl, trivial⟩ | exact ⟨andl, id, trivial⟩ | exact ⟨id, andl, trivial⟩) :
    Val P n f σ all s ⟨dst, .load T x, ty, pos, after, guard⟩ d gd v :=
  .of hd hn hg (fun _ hW => ld_key (run_loadVar_s (hW.rd hv)) hx) hob

/-- A struct or an array out of a block that was there. -/
theorem v_lba {T b off : Nat} {x : Operand} {sz : Nat} [TyA P T true sz] {l' : List Value} {gd : Option Bool} {d : Nat} (hl : l'.length = sz) (hv : ∀ j v, l'[j]? = some v → Rd s.w0 s.F b (off + j) v)
    (hx : evo f σ x = some (.pointer (some ⟨b, off, none⟩)) := by exact rfl) (hd : dst = some d := by exact rfl) (hn : Nat.ble (d + 1) n = true := by exact rfl) (hg : gdOf f σ all guard = some gd := by exact rfl) (hob : gob f σ (gdc gd) (tmpsOf [x]) := by first | exact trivial | exact ⟨id, trivial⟩ | exact ⟨id, id, trivial⟩ | exact ⟨andl, trivial⟩ | exact ⟨andl, andl, trivial⟩ | exact ⟨andl, id, trivial⟩ | exact ⟨id, andl, trivial⟩) :
    Val P n f σ all s ⟨dst, .load T x, ty, pos, after, guard⟩ d gd (.agg l'.toArray) :=
  .of hd hn hg (fun _ hW => ld_key (run_loadVar_a hl (fun j v hj => hW.rd (hv j v hj))) hx) hob

/-- An element's address in a slice that came in. -/
theorem v_b {T e : TypeId} [TySlice P T e] {x y : Operand} {p : Option Addr} {len cap : Nat} {xs : List Value} {kd : IntKind} {i : Int} {agg : Bool} {sz sz' : Nat} [TyA P e agg sz] {gd : Option Bool} {d : Nat}
    (hx : evo f σ x = some (.slice p len cap) := by exact rfl) (hs : Sl s.w0 s.F p len sz' xs := by assumption) (hy : evo f σ y = some (.int kd i) := by exact rfl)
    (hi : 0 ≤ i ∧ i < len := by omega) (hd : dst = some d := by exact rfl) (hn : Nat.ble (d + 1) n = true := by exact rfl) (hg : gdOf f σ all guard = some gd := by exact rfl)
    (hob : gob f σ (gdc gd) (tmpsOf [x, y]) := by first | exact trivial | exact ⟨id, trivial⟩ | exact ⟨id, id, trivial⟩ | exact ⟨andl, trivial⟩ | exact ⟨andl, andl, trivial⟩ | exact ⟨andl, id, trivial⟩ | exact ⟨id, andl, trivial⟩) : Val P n f σ all s ⟨dst, .indexAddr T x y, ty, pos, after, guard⟩ d gd (.pointer (some ⟨pb p, po p + i.toNat * sz, none⟩)) :=
  .of hd hn hg (fun W _ => ix_key (run_ixs (T := T) (e := e) (kd := kd) (agg := agg) (sz := sz) (hs.ptr (by omega)) hi W) hx hy) hob

/-- A cell of a slice that came in. -/
theorem v_ls {T : TypeId} {off : Nat} {x : Operand} {sz : Nat} [TyA P T false sz] {p : Option Addr} {m sz' : Nat} {xs : List Value} {v : Value} {gd : Option Bool} {d : Nat}
    (hx : evo f σ x = some (.pointer (some ⟨pb p, po p + off, none⟩)) := by exact rfl) (hs : Sl s.w0 s.F p m sz' xs := by assumption) (hv : xs[off]? = some v := by first | exact rfl | assumption) (hd : dst = some d := by exact rfl) (hn : Nat.ble (d + 1) n = true := by exact rfl) (hg : gdOf f σ all guard = some gd := by exact rfl) (hob : gob f σ (gdc gd) (tmpsOf [x]) := by first | exact trivial | exact ⟨id, trivial⟩ | exact ⟨id, id, trivial⟩ | exact ⟨andl, trivial⟩ | exact ⟨andl, andl, trivial⟩ | exact ⟨andl, id, trivial⟩ | exact ⟨id, andl, trivial⟩) :
    Val P n f σ all s ⟨dst, .load T x, ty, pos, after, guard⟩ d gd v :=
  .of hd hn hg (fun _ hW => ld_key (run_loadVar_s (hW.rd (hs.rd _ _ hv))) hx) hob

/-- An element's address in one's own slice. -/
theorem v_r {T e : TypeId} [TySlice P T e] {x y : Operand} {p : Option Addr} {len cap : Nat} {xs : List Value} {T' : TypeId} {sz' : Nat} {kd : IntKind} {i : Int} {agg : Bool} {sz : Nat} [TyA P e agg sz] {gd : Option Bool} {d : Nat}
    (hx : evo f σ x = some (.slice p len cap) := by exact rfl) (hy : evo f σ y = some (.int kd i) := by exact rfl)
    (hm : En.row p len cap xs T' sz' ∈ s.L := by repeat (first | exact List.Mem.head _ | apply List.Mem.tail))
    (hi : 0 ≤ i ∧ i < len := by omega) (hd : dst = some d := by exact rfl) (hn : Nat.ble (d + 1) n = true := by exact rfl) (hg : gdOf f σ all guard = some gd := by exact rfl)
    (hob : gob f σ (gdc gd) (tmpsOf [x, y]) := by first | exact trivial | exact ⟨id, trivial⟩ | exact ⟨id, id, trivial⟩ | exact ⟨andl, trivial⟩ | exact ⟨andl, andl, trivial⟩ | exact ⟨andl, id, trivial⟩ | exact ⟨id, andl, trivial⟩) : Val P n f σ all s ⟨dst, .indexAddr T x y, ty, pos, after, guard⟩ d gd (.pointer (some ⟨pb p, po p + i.toNat * sz, none⟩)) :=
  .of hd hn hg (fun W hW => ix_key (run_ixs (T := T) (e := e) (kd := kd) (agg := agg) (sz := sz) (by
    rcases (hW.own _ hm).2 with ⟨_, rfl, _⟩ | ⟨b, cur, rfl, _⟩
    · omega
    · rfl) hi W) hx hy) hob

/-- A cell of one's own slice. -/
theorem v_lr {T : TypeId} {off : Nat} {x : Operand} {sz : Nat} [TyA P T false sz] {p : Option Addr} {m cap sz' : Nat} {xs : List Value} {T' : TypeId} {v : Value} {gd : Option Bool} {d : Nat}
    (hx : evo f σ x = some (.pointer (some ⟨pb p, po p + off, none⟩)) := by exact rfl) (hm : En.row p m cap xs T' sz' ∈ s.L := by repeat (first | exact List.Mem.head _ | apply List.Mem.tail)) (hv : xs[off]? = some v := by first | exact rfl | assumption) (hd : dst = some d := by exact rfl) (hn : Nat.ble (d + 1) n = true := by exact rfl) (hg : gdOf f σ all guard = some gd := by exact rfl) (hob : gob f σ (gdc gd) (tmpsOf [x]) := by first | exact trivial | exact ⟨id, trivial⟩ | exact ⟨id, id, trivial⟩ | exact ⟨andl, trivial⟩ | exact ⟨andl, andl, trivial⟩ | exact ⟨andl, id, trivial⟩ | exact ⟨id, andl, trivial⟩) :
    Val P n f σ all s ⟨dst, .load T x, ty, pos, after, guard⟩ d gd v :=
  .of hd hn hg (fun _ hW => ld_key (run_loadVar_s (row_cell (hW.own _ hm) hv).2.2) hx) hob

/-- A slice's length. -/
theorem v_ln {T e : TypeId} [TySlice P T e] {x : Operand} {p : Option Addr} {m cap : Nat} {ats : Array TypeId} {gd : Option Bool} {d : Nat}
    (hx : evo f σ x = some (.slice p m cap) := by exact rfl) (hat : ats = #[T] := by exact rfl) (hd : dst = some d := by exact rfl) (hn : Nat.ble (d + 1) n = true := by exact rfl) (hg : gdOf f σ all guard = some gd := by exact rfl) (hob : gob f σ (gdc gd) (tmpsOf [x]) := by first | exact trivial | exact ⟨id, trivial⟩ | exact ⟨id, id, trivial⟩ | exact ⟨andl, trivial⟩ | exact ⟨andl, andl, trivial⟩ | exact ⟨andl, id, trivial⟩ | exact ⟨id, andl, trivial⟩) :
    Val P n f σ all s ⟨dst, .call { callee := .builtin .len, args := #[x], argTypes := ats }, ty, pos, after, guard⟩ d gd (.int .i64 m) :=
  .of hd hn hg (fun W _ => by
    subst hat
    have key : ∀ ρ : Operand → Value, ρ x = .slice p m cap → (execOp ρ (⟨dst, .call { callee := .builtin .len, args := #[x], argTypes := #[T] }, ty, pos, after, guard⟩ : Oper)).run P W = .ok (.value (.int .i64 m)) W := fun ρ hρ => by
      simp [execOp, resolve, invoke, builtin, hρ, Builtin.len_, run_underSlice (P := P) (T := T) (e := e), goInt]
    exact key _ (ev_evo hx (.head _))) hob

/-- A letter of a string. -/
theorem v_is {T : TypeId} [hT : TyStr P T] {x y : Operand} {t : ByteArray} {kd : IntKind} {i : Int} {b : UInt8} {gd : Option Bool} {d : Nat} (hb : 0 ≤ i ∧ t[i.toNat]? = some b)
    (hx : evo f σ x = some (.string t) := by exact rfl) (hy : evo f σ y = some (.int kd i) := by exact rfl) (hd : dst = some d := by exact rfl) (hn : Nat.ble (d + 1) n = true := by exact rfl) (hg : gdOf f σ all guard = some gd := by exact rfl) (hob : gob f σ (gdc gd) (tmpsOf [x, y]) := by first | exact trivial | exact ⟨id, trivial⟩ | exact ⟨id, id, trivial⟩ | exact ⟨andl, trivial⟩ | exact ⟨andl, andl, trivial⟩ | exact ⟨andl, id, trivial⟩ | exact ⟨id, andl, trivial⟩) :
    Val P n f σ all s ⟨dst, .index T x y, ty, pos, after, guard⟩ d gd (.int .u8 b.toNat) :=
  .of hd hn hg (fun W _ => by
    have key : ∀ ρ : Operand → Value, ρ x = .string t → ρ y = .int kd i → (execOp ρ ⟨dst, .index T x y, ty, pos, after, guard⟩).run P W = .ok (.value (.int .u8 b.toNat)) W := fun ρ hρ hρ2 => by
      simp [execOp, hρ, hρ2, Instr.index, asIntOf, underlying, hT.under, hb.1, hb.2]
    exact key _ (ev_evo hx (.head _)) (ev_evo hy (.tail _ (.head _)))) hob

theorem ev_of_evo {x : Operand} {v : Value} (h : evo f σ x = some v) (hc : (sv f σ x).cnd = true) : ev f σ x = v := by
  rw [ev_sv, SV.val_raw hc]
  cases x with
  | tmp t => simp only [evo, sv] at *; cases hl : look f σ t <;> rw [hl] at h <;> simpa [SV.raw] using h
  | const u => simpa [evo, sv, SV.raw] using h
  | global g => simpa [evo, sv, SV.raw] using h
  | func j => simpa [evo, sv, SV.raw] using h

def evs (f : Nat → Value) (σ : Bd) : List Operand → List Value
  | [] => []
  | x :: r => ev f σ x :: evs f σ r

theorem evs_map (f : Nat → Value) (σ : Bd) (l : List Operand) : l.map (ev f σ) = evs f σ l := by induction l <;> simp_all [evs]

def evd (f : Nat → Value) (σ : Bd) (x : Operand) : Value := match evo f σ x with | some v => v | none => undef

def evl (f : Nat → Value) (σ : Bd) : List Operand → List Value
  | [] => []
  | x :: r => evd f σ x :: evl f σ r

theorem evl_n : evl f σ [] = [] := rfl
theorem evl_c {x : Operand} {r : List Operand} {v : Value} {vs : List Value} (h1 : evo f σ x = some v) (h2 : evl f σ r = vs) : evl f σ (x :: r) = v :: vs := by
  simp only [evl, evd, h1, h2]
theorem pm_n : ([] : List (Nat × Value)) = ([] : List (Nat × Operand)).map (fun x => (x.1, evd f σ x.2)) := rfl
theorem pm_c {i : Nat} {x : Operand} {r : List (Nat × Operand)} {v : Value} {vs : List (Nat × Value)} (h1 : evo f σ x = some v) (h2 : vs = r.map (fun x => (x.1, evd f σ x.2))) :
    (i, v) :: vs = ((i, x) :: r).map (fun x => (x.1, evd f σ x.2)) := by
  simp only [List.map_cons, evd, h1, h2]

def cndl (f : Nat → Value) (σ : Bd) : List Operand → Bool
  | [] => true
  | x :: r => (match (sv f σ x).cnd, evo f σ x with | true, some _ => cndl f σ r | _, _ => false)

theorem evs_evl {l : List Operand} (h : cndl f σ l = true) : evs f σ l = evl f σ l := by
  induction l with
  | nil => rfl
  | cons x r ih =>
    simp only [cndl] at h
    cases hc : (sv f σ x).cnd with
    | false => simp [hc] at h
    | true =>
      cases he : evo f σ x with
      | none => simp [hc, he] at h
      | some v =>
        simp only [hc, he] at h
        simp only [evs, evl, evd, he, ev_of_evo he hc, ih h]

theorem foldl_set (vs : List Value) (off : Nat) : ∀ (j : Nat) (cs : Array Value), off + j + vs.length ≤ cs.size → ((vs.zipIdx j).foldl (fun cs (x : Value × Nat) => cs.setIfInBounds (off + x.2) x.1) cs).toList = cs.toList.take (off + j) ++ vs ++ cs.toList.drop (off + j + vs.length) := by
  induction vs with
  | nil => intro j cs _; simp
  | cons v r ih =>
    intro j cs h
    simp only [List.length_cons] at h
    simp only [List.zipIdx_cons, List.foldl_cons]
    rw [ih (j + 1) _ (by simp; omega)]
    simp only [Array.toList_setIfInBounds, List.length_cons]
    have hlt : off + j < cs.toList.length := by simp; omega
    rw [show off + (j + 1) = (off + j) + 1 from by omega, List.take_set, List.drop_set_of_lt (by omega), List.take_succ_eq_append_getElem hlt]
    rw [show off + j + 1 + r.length = off + j + (r.length + 1) from by omega]
    have hmin : min (off + j) cs.size = off + j := Nat.min_eq_left (by omega)
    simp [List.length_take, hmin]

/-- Where a struct's fields lie, and how many cells each has. -/
class TyPl (P : Program) (T : TypeId) (fs : outParam (List (Nat × Nat))) : Prop where
  places : (match P.underlying T with | some (.struct l) => l.toList.mapM (fun x => (P.info? x.type).map (fun i => (x.offset, i.size))) | _ => none) = some fs

def fillP (fs : List (Nat × Nat)) : List Value → List (Nat × Value) → Option (List Value)
  | l, [] => some l
  | l, (i, v) :: r => match fs[i]? with
    | none => none
    | some (off, sz) => match Nat.beq (cellsOf v).length sz, Nat.ble (off + sz) l.length with
      | true, true => fillP fs (splice l off (cellsOf v)) r
      | _, _ => none

theorem fp_n {fs : List (Nat × Nat)} {l : List Value} : fillP fs l [] = some l := rfl
theorem fp_c {fs : List (Nat × Nat)} {l l1 l' vs : List Value} {i off sz : Nat} {v : Value} {r : List (Nat × Value)} (hf : fs[i]? = some (off, sz)) (hc : cellsOf v = vs) (hs : splice l off vs = l1) (h1 : Nat.beq vs.length sz = true)
    (h2 : Nat.ble (off + sz) l.length = true) (h3 : fillP fs l1 r = some l') : fillP fs l ((i, v) :: r) = some l' := by
  subst hc hs
  simp only [fillP, hf, h1, h2, h3]

theorem fill_fillP (fs : List (Nat × Nat)) (parts : List (Nat × Value)) : ∀ (l l' : List Value), fillP fs l parts = some l' → Instr.fill (fun i => fs.toArray[i]?) l.toArray parts = some l'.toArray := by
  induction parts with
  | nil => intro l l' h; simp only [fillP, Option.some.injEq] at h; subst h; rfl
  | cons p r ih =>
    obtain ⟨i, v⟩ := p
    intro l l' h
    simp only [fillP] at h
    split at h <;> try (simp only [reduceCtorEq] at h; done)
    rename_i off sz hfs
    split at h <;> try (simp only [reduceCtorEq] at h; done)
    rename_i h1 h2
    have h1 := Nat.eq_of_beq_eq_true h1
    have h2 := Nat.le_of_ble_eq_true h2
    have hsz : v.cells.size = sz := by rw [← Array.length_toList, cellsOf_cells]; exact h1
    simp only [Instr.fill, List.getElem?_toArray, hfs, hsz, ne_eq, not_true, List.size_toArray, gt_iff_lt]
    rw [if_neg (by simp; omega)]
    have hih := ih _ _ h
    simp only [List.getElem?_toArray] at hih
    rw [← hih]
    congr 1
    apply Array.ext'
    have := foldl_set (cellsOf v) off 0 l.toArray (by simp; omega)
    simp only [Nat.add_zero] at this
    rw [← Array.foldl_toList]
    simp only [Array.toList_zipIdx, cellsOf_cells]
    rw [this]
    simp [splice]

theorem run_places (l : List Field) (fs : List (Nat × Nat)) (h : l.mapM (fun x => (P.info? x.type).map (fun i => (x.offset, i.size))) = some fs) (w : World) :
    (l.mapM (m := Sem) (fun x => do pure (x.offset, ← sizeOf x.type))).run P w = .ok fs w := by
  induction l generalizing fs with
  | nil => simp at h; subst h; rfl
  | cons x r ih =>
    simp only [List.mapM_cons, Option.bind_eq_bind, Option.bind_eq_some_iff, Option.map_eq_some_iff, Option.pure_def, Option.some.injEq] at h
    obtain ⟨a, ⟨i, hi, rfl⟩, b, hb, rfl⟩ := h
    have hs : (sizeOf x.type).run P w = .ok i.size w := by simp [sizeOf, typeInfo, hi]
    simp only [List.mapM_cons, Sem.run_bind, hs, Result.andThen_ok, Sem.run_pure, ih b hb]

/-- A struct's literal. -/
theorem v_bd {T : TypeId} {fs : List (Nat × Nat)} [hp : TyPl P T fs] {z : List Value} [hz : TyZ P T z] {parts : List (Nat × Operand)} {vals : List (Nat × Value)} {l : List Value} {d : Nat} {gd : Option Bool}
    (hv : vals = parts.map (fun x => (x.1, evd f σ x.2)) := by repeat (first | exact pm_n | apply pm_c (by exact rfl))) (hcc : cndl f σ (parts.map (·.2)) = true := by exact rfl) (hl : fillP fs z vals = some l := by repeat (first | exact fp_n | apply fp_c (by exact rfl) (by first | exact co1 | exact co2 rfl | exact rfl) (by repeat (first | with_reducible exact sp0 _ | with_reducible apply sp1 | with_reducible apply sp2 | exact rfl)) (by exact rfl) (by exact rfl)))
    (hd : dst = some d := by exact rfl) (hn : Nat.ble (d + 1) n = true := by exact rfl) (hg : gdOf f σ all guard = some gd := by exact rfl) (hgo : gob f σ (gdc gd) (tmpsOf (parts.map (·.2))) := by exact trivial) :
    Val P n f σ all s ⟨dst, .build T parts.toArray, ty, pos, after, guard⟩ d gd (.agg l.toArray) := by
  have hops : (Op.build T parts.toArray).operands.toList = parts.map (·.2) := by simp [Op.operands]
  refine .of hd hn hg (fun W _ => ?_) (by rw [hops]; exact hgo)
  simp only [hops]
  have hvs : ∀ x ∈ parts, ev f (degs f σ (tmpsOf (parts.map (·.2))) σ) x.2 = evd f σ x.2 := by
    intro x hx
    have hc : ∀ (l : List Operand), cndl f σ l = true → ∀ y ∈ l, ∃ v, evo f σ y = some v := by
      intro l
      induction l with
      | nil => intro _ y hy; simp at hy
      | cons a r ih =>
        intro hc y hy
        simp only [cndl] at hc
        cases h1 : (sv f σ a).cnd with
        | false => simp [h1] at hc
        | true =>
          cases h2 : evo f σ a with
          | none => simp [h1, h2] at hc
          | some v =>
            simp only [h1, h2] at hc
            rcases List.mem_cons.1 hy with rfl | hy
            · exact ⟨v, h2⟩
            · exact ih hc y hy
    obtain ⟨v, hv'⟩ := hc _ hcc x.2 (List.mem_map.2 ⟨x, hx, rfl⟩)
    rw [evd, hv', ev_evo hv' (List.mem_map.2 ⟨x, hx, rfl⟩)]
  have hh := hp.places
  cases hu : P.underlying T with
  | none => simp [hu] at hh
  | some u =>
    cases u <;> simp only [hu] at hh <;> try (cases hh; done)
    rename_i fl
    obtain ⟨zv, hzv, hzc⟩ := run_zeroValue (P := P) (T := T) (z := z) W
    have hpl := run_places fl.toList fs hh W
    have hvals : parts.map (fun x => (x.1, ev f (degs f σ (tmpsOf (parts.map (·.2))) σ) x.2)) = vals := by
      rw [hv]; exact List.map_congr_left fun x hx => by rw [hvs x hx]
    have hfill := fill_fillP fs vals z l hl
    have hzt : zv.cells = z.toArray := by rw [← hzc]
    simp only [execOp, Instr.build, Sem.run_bind, hzv, Result.andThen_ok, underlying, run_program, hu, Sem.run_pure, Array.mapM_eq_mapM_toList, Sem.run_map, List.map_toArray, hvals]
    rw [hpl]
    simp only [Result.andThen_ok, hzt, hfill, Sem.run_pure]


end Go.Cf

namespace Go.Cf
variable {P : Program} {n : Nat} {Q : Exit → Act → World → Prop} {k : List It} {f : Nat → Value} {σ : Bd} {w0 : World} {F : List Nat} {L : Hp} {s : St} {all : List Oper} {o : Oper} {rest : List Oper} {dst : Option Tmp} {ty : TypeId} {pos : String} {after : Array Edge} {guard : Option (Nat × Bool)} {K : Bd → St → Prop}

theorem run_storeVar {T : TypeId} {agg : Bool} {sz : Nat} [ht : TyA P T agg sz] {w : World} {b off : Nat} {l : List Value} {T' : TypeId} {v : Value} (hb : w.heap[b]? = some (.cells l.toArray T' (0, 0)))
    (hc : (cellsOf v).length = sz) (hp : (cellsOf v).all plain = true) (hr : off + sz ≤ l.length) :
    (storeVar T ⟨b, off, none⟩ v).run P w = .ok () (w.setRow b (splice l off (cellsOf v)).toArray) := by
  have hsz := run_sizeOf ht.knows w
  rw [ht.sz] at hsz
  have hcs : v.cells.size = sz := by rw [← Array.length_toList, cellsOf_cells]; exact hc
  have h1 : ∀ u ∈ cellsOf v, u.oneCell' = true := fun u hu => plain_one (List.all_eq_true.1 hp u hu)
  have hst := run_storeCells_at P b off T' (cellsOf v) 0 l.toArray w hb (by simp; omega) h1
  simp only [Nat.add_zero] at hst
  simp only [storeVar, Sem.run_bind, hsz, Result.andThen_ok, hcs, ne_eq, not_true, if_false, cellsOf_cells]
  simp [hst, splice]


/-- An operation that hands on a value and changes the world. -/
theorem Ef.of {d : Nat} (hd : o.dst = some d) (hn : Nat.ble (d + 1) n = true) (hg : o.guard = none)
    (h : ∀ a w, Rep n f σ a → s.holds w → ∃ v w' s', (execOp a.eval o).run P w = .ok (.value v) w' ∧ s'.holds w' ∧ K ((d, .v v) :: σ) s') : Ef P n f σ s o K :=
  ⟨hg, fun Q a w hrep hs N hN => by
    obtain ⟨v, w', s', he, hs', hk⟩ := h a w hrep hs
    unfold Oper.wp
    rw [he]
    simp only [Oper.upon, hd]
    exact hN _ _ _ _ hk (hrep.put (Nat.le_of_ble_eq_true hn) (.v v)) hs'⟩

theorem f_st {T : TypeId} {agg : Bool} {sz : Nat} [TyA P T agg sz] {x y : Operand} {b off : Nat} {l : List Value} {T' : TypeId} {v : Value} {L' : Hp} {vs l' : List Value} (h : K σ ⟨w0, F, L'⟩)
    (hx : evo f σ x = some (.pointer (some ⟨b, off, none⟩)) := by exact rfl) (hy : evo f σ y = some v := by exact rfl) (hvs : cellsOf v = vs := by first | exact co1 | exact co2 rfl | exact rfl)
    (hu : Upd L (.cells b l T') (.cells b l' T') L' := by repeat (first | exact Upd.head | apply Upd.tail))
    (hl : splice l off vs = l' := by repeat (first | with_reducible exact sp0 _ | with_reducible apply sp1 | with_reducible apply sp2 | exact rfl))
    (hc : vs.length = sz := by exact rfl) (hp : vs.all plain = true := by exact rfl) (hr : Nat.ble (off + sz) l.length = true := by exact rfl) (hcx : (sv f σ x).cnd = true := by exact rfl) (hcy : (sv f σ y).cnd = true := by exact rfl)
    (hd : dst = none := by exact rfl) (hg : guard = none := by exact rfl) : Ef P n f σ ⟨w0, F, L⟩ ⟨dst, .store T x y, ty, pos, after, guard⟩ K := by
  subst hd hg hvs hl
  refine ⟨rfl, fun Q a w hrep hs N hN => ?_⟩
  unfold Oper.wp
  have hb : w.heap[b]? = _ := hs.own _ hu.mem
  have hst := run_storeVar (P := P) (T := T) (off := off) hb hc hp (Nat.le_of_ble_eq_true hr)
  have he : (execOp a.eval (⟨none, .store T x y, ty, pos, after, none⟩ : Oper)).run P w = .ok .skip (w.setRow b (splice l off (cellsOf v)).toArray) := by
    simp [execOp, hrep.eval, ev_of_evo hx hcx, ev_of_evo hy hcy, Instr.storeAt, Instr.sureAddr, hst]
  rw [he]
  simp only [Oper.upon]
  refine hN _ _ _ _ h (hrep.put_none _) (hs.upd hu rfl rfl rfl (by simp) (fun k' _ hk => ?_) ?_ (fun b' hb' => .inl hb'))
  · exact setRow_other w b k' _ (fun e => hk (by simp [En.blk, e]))
  · exact setRow_heap w b _ _ _ _ hb

/-- A store into one's own slice. -/
theorem f_sr {T : TypeId} {agg : Bool} {sz : Nat} [TyA P T agg sz] {x y : Operand} {p : Option Addr} {m cap off sz' : Nat} {xs : List Value} {T' : TypeId} {v : Value} {L' : Hp} {vs xs' : List Value} (h : K σ ⟨w0, F, L'⟩)
    (hr : off + sz ≤ xs.length) (h0 : 0 < sz := by exact Nat.succ_pos _)
    (hx : evo f σ x = some (.pointer (some ⟨pb p, po p + off, none⟩)) := by exact rfl) (hy : evo f σ y = some v := by exact rfl) (hvs : cellsOf v = vs := by first | exact co1 | exact co2 rfl | exact rfl)
    (hu : Upd L (.row p m cap xs T' sz') (.row p m cap xs' T' sz') L' := by repeat (first | exact Upd.head | apply Upd.tail))
    (hl : splice xs off vs = xs' := by exact rfl)
    (hc : vs.length = sz := by exact rfl) (hp : vs.all plain = true := by exact rfl) (hcx : (sv f σ x).cnd = true := by exact rfl) (hcy : (sv f σ y).cnd = true := by exact rfl)
    (hd : dst = none := by exact rfl) (hg : guard = none := by exact rfl) : Ef P n f σ ⟨w0, F, L⟩ ⟨dst, .store T x y, ty, pos, after, guard⟩ K := by
  subst hd hg hvs hl
  refine ⟨rfl, fun Q a w hrep hs N hN => ?_⟩
  unfold Oper.wp
  have hrow : (En.row p m cap xs T' sz').at w := hs.own _ hu.mem
  have hlen := hrow.1
  rcases hrow.2 with ⟨rfl, rfl, rfl⟩ | ⟨b, cur, rfl, hb, h2, h3, h4, h5⟩
  · have hx0 : xs = [] := List.eq_nil_of_length_eq_zero (by simpa using hlen)
    subst hx0
    simp at hr; omega
  · have hcl : cur.toList.length = cap * sz' := by simpa using h4
    have hle : xs.length ≤ cur.toList.length := by rw [← h5]; exact List.length_take_le' _ _
    have hst := run_storeVar (P := P) (T := T) (off := off) (l := cur.toList) (by simpa using hb) hc hp (by omega)
    have he : (execOp a.eval (⟨none, .store T x y, ty, pos, after, none⟩ : Oper)).run P w = .ok .skip (w.setRow b (splice cur.toList off (cellsOf v)).toArray) := by
      have := ev_of_evo hx hcx
      simp only [pb, po, Nat.zero_add] at this
      simp [execOp, hrep.eval, this, ev_of_evo hy hcy, Instr.storeAt, Instr.sureAddr, hst]
    rw [he]
    simp only [Oper.upon]
    refine hN _ _ _ _ h (hrep.put_none _) (hs.upd hu rfl rfl rfl (by simp) (fun k' _ hk => ?_) ?_ (fun b' hb' => .inl hb'))
    · exact setRow_other w b k' _ (fun e => hk (by simp [En.blk, e]))
    · have hsl : (splice xs off (cellsOf v)).length = xs.length := by simp only [splice, List.length_append, List.length_take, List.length_drop]; omega
      have hsc : (splice cur.toList off (cellsOf v)).length = cur.toList.length := by simp only [splice, List.length_append, List.length_take, List.length_drop]; omega
      refine ⟨by rw [hsl]; exact hlen, .inr ⟨b, _, rfl, setRow_heap w b _ _ _ _ hb, h2, h3, by simp [hsc, hcl], ?_⟩⟩
      rw [List.toList_toArray, ← hlen, take_splice (by omega) hle, hlen, h5]

/-- A new variable. -/
theorem f_al {T : TypeId} {z : List Value} [TyZ P T z] {d : Nat} (h : ∀ b, K ((d, .v (.pointer (some ⟨b, 0, none⟩))) :: σ) ⟨w0, F, .cells b z T :: L⟩)
    (hd : dst = some d := by exact rfl) (hn : Nat.ble (d + 1) n = true := by exact rfl) (hg : guard = none := by exact rfl) : Ef P n f σ ⟨w0, F, L⟩ ⟨dst, .alloc T, ty, pos, after, guard⟩ K :=
  .of hd hn hg fun a w hrep hs => by
    obtain ⟨v, hv, hz⟩ := run_zeroValue (P := P) (T := T) (z := z) w
    refine ⟨_, w.alloc (.cells z.toArray T), _, ?_, hs.cons (e' := .cells w.heap.size z T) rfl rfl rfl (by simp) (fun k' hk => aold w _ k' hk) (heap_alloc_new w _) (fun b hb => by simp only [En.blk, Option.some.injEq] at hb; omega), h w.heap.size⟩
    simp only [execOp, Instr.alloc, Sem.run_bind, hv, Result.andThen_ok, newVar, newRow, run_newObj, Sem.run_pure, World.alloc]
    rw [← hz]

/-- A value laid into a new variable. -/
theorem f_bx {T : TypeId} {x : Operand} {d : Nat} {v : Value} {c : List Value} (h : ∀ b, K ((d, .v (.pointer (some ⟨b, 0, none⟩))) :: σ) ⟨w0, F, .cells b c T :: L⟩)
    (hx : evo f σ x = some v := by exact rfl) (hc : cellsOf v = c := by first | exact co1 | exact co2 rfl | exact rfl) (hcx : (sv f σ x).cnd = true := by exact rfl)
    (hd : dst = some d := by exact rfl) (hn : Nat.ble (d + 1) n = true := by exact rfl) (hg : guard = none := by exact rfl) : Ef P n f σ ⟨w0, F, L⟩ ⟨dst, .box T x, ty, pos, after, guard⟩ K :=
  .of hd hn hg fun a w hrep hs => by
    subst hc
    refine ⟨_, w.alloc (.cells (cellsOf v).toArray T), _, ?_, hs.cons (e' := .cells w.heap.size (cellsOf v) T) rfl rfl rfl (by simp) (fun k' hk => aold w _ k' hk) (heap_alloc_new w _) (fun b hb => by simp only [En.blk, Option.some.injEq] at hb; omega), h w.heap.size⟩
    simp only [execOp, hrep.eval, ev_of_evo hx hcx, Instr.box, Sem.run_bind, newVar, newRow, run_newObj, Result.andThen_ok, Sem.run_pure, World.alloc]
    rw [← cellsOf_cells]

/-! ### Calls -/

/-- How a call ends: a value, and what is known of the memory that it made or changed. -/
def Post (w : World) (F : List Nat) (Φ : Value → Hp → Prop) : Ending → World → Prop
  | .returned v, w' => ∃ L, Φ v L ∧ (St.mk w F L).holds w'
  | _, _ => False

def Does (P : Program) (g : Nat) (args : List Value) (w : World) (F : List Nat) (Φ : Value → Hp → Prop) : Prop := Calls P g args.toArray w (Post w F Φ)

class Ent (P : Program) (g : Nat) : Prop where
  enters : Go.Proofs.Enters P g


theorem call_key {g : Nat} [Ent P g] {xs : List Operand} {ats : Array TypeId} {a : Act} {w : World} (hrep : Rep n f σ a) (hcc : cndl f σ xs = true) :
    (execOp a.eval (⟨dst, .call { callee := .value (.func g), args := xs.toArray, argTypes := ats }, ty, pos, after, guard⟩ : Oper)).run P w = .ok (.enter g (evl f σ xs).toArray) w := by
  have := (‹Ent P g›).enters (evl f σ xs).toArray w
  simp only [execOp, resolve, Deferred.ofValue, invoke, hrep.eval, List.map_toArray, evs_map, evs_evl hcc, ev, Array.append_empty, Array.empty_append, Bind.bind, Pure.pure, Sem.bind] at *
  exact this

theorem Ef.call {d g : Nat} {vs : List Value} {F' : List Nat} {C R : Hp} {Φ : Value → Hp → Prop} (hd : o.dst = some d) (hn : Nat.ble (d + 1) n = true) (hg : o.guard = none)
    (hcall : ∀ a w, Rep n f σ a → (execOp a.eval o).run P w = .ok (.enter g vs.toArray) w) (hC : L.Perm (C ++ R)) (hF : ∀ b, b ∈ F' → b ∈ C.filterMap En.blk)
    (hc : ∀ w, (St.mk w0 F L).holds w → Does P g vs w F' Φ) (h : ∀ v L', Φ v L' → K ((d, .v v) :: σ) ⟨w0, F, L' ++ R⟩) : Ef P n f σ ⟨w0, F, L⟩ o K :=
  ⟨hg, fun Q a w hrep hs N hN => by
    unfold Oper.wp
    rw [hcall a w hrep]
    simp only [Oper.upon]
    refine (hc w hs).mono fun e w' he => ?_
    cases e with
    | returned v =>
      obtain ⟨L', hΦ, hs'⟩ := he
      simp only [hd]
      exact hN _ _ _ _ (h v L' hΦ) (hrep.put (Nat.le_of_ble_eq_true hn) (.v v)) ((hs.perm hC).call hF hs')
    | panicked c => exact he.elim
    | outgrown => exact he.elim⟩

/-- A call that changes the blocks of C, and makes new ones. -/
theorem f_cM {g : Nat} [Ent P g] {xs : List Operand} {ats : Array TypeId} {d : Nat} {F' : List Nat} (C R : Hp) {Φ : Value → Hp → Prop} {vs : List Value} (hC : L.Perm (C ++ R)) (hF : ∀ b, b ∈ F' → b ∈ C.filterMap En.blk)
    (hc : ∀ w, (St.mk w0 F L).holds w → Does P g vs w F' Φ) (h : ∀ v L', Φ v L' → K ((d, .v v) :: σ) ⟨w0, F, L' ++ R⟩)
    (hvs : evl f σ xs = vs := by exact rfl) (hcc : cndl f σ xs = true := by exact rfl) (hd : dst = some d := by exact rfl) (hn : Nat.ble (d + 1) n = true := by exact rfl) (hg : guard = none := by exact rfl) :
    Ef P n f σ ⟨w0, F, L⟩ ⟨dst, .call { callee := .value (.func g), args := xs.toArray, argTypes := ats }, ty, pos, after, guard⟩ K := by
  subst hvs
  exact Ef.call hd hn hg (fun a w hrep => call_key hrep hcc) hC hF hc h

/-- A call that changes nothing that was there. -/
theorem f_c {g : Nat} [Ent P g] {xs : List Operand} {ats : Array TypeId} {d : Nat} {Φ : Value → Hp → Prop} {vs : List Value}
    (hc : ∀ w, (St.mk w0 F L).holds w → Does P g vs w [] Φ) (h : ∀ v L', Φ v L' → K ((d, .v v) :: σ) ⟨w0, F, L' ++ L⟩)
    (hvs : evl f σ xs = vs := by exact rfl) (hcc : cndl f σ xs = true := by exact rfl) (hd : dst = some d := by exact rfl) (hn : Nat.ble (d + 1) n = true := by exact rfl) (hg : guard = none := by exact rfl) :
    Ef P n f σ ⟨w0, F, L⟩ ⟨dst, .call { callee := .value (.func g), args := xs.toArray, argTypes := ats }, ty, pos, after, guard⟩ K :=
  f_cM [] L (F' := []) (List.Perm.refl _) (by simp) hc h hvs hcc hd hn hg

/-- A call of a function's value. -/
theorem f_v {g : Nat} [Ent P g] {c : Operand} {caps : List Value} {xs : List Operand} {ats : Array TypeId} {d : Nat} {Φ : Value → Hp → Prop} {vs : List Value}
    (hc : ∀ w, (St.mk w0 F L).holds w → Does P g vs w [] Φ) (h : ∀ v L', Φ v L' → K ((d, .v v) :: σ) ⟨w0, F, L' ++ L⟩)
    (hf : evo f σ c = some (.func (.func g) #[] caps.toArray) := by exact rfl) (hfc : (sv f σ c).cnd = true := by exact rfl)
    (hvs : evl f σ xs ++ caps = vs := by exact rfl) (hcc : cndl f σ xs = true := by exact rfl) (hd : dst = some d := by exact rfl) (hn : Nat.ble (d + 1) n = true := by exact rfl) (hg : guard = none := by exact rfl) :
    Ef P n f σ ⟨w0, F, L⟩ ⟨dst, .call { callee := .value c, args := xs.toArray, argTypes := ats }, ty, pos, after, guard⟩ K := by
  subst hvs
  refine Ef.call (C := []) (R := L) (F' := []) hd hn hg (fun a w hrep => ?_) (List.Perm.refl _) (by simp) hc h
  have hfe := ev_of_evo hf hfc
  have := (‹Ent P g›).enters (evl f σ xs ++ caps).toArray w
  simp only [execOp, resolve, hrep.eval, hfe, Deferred.ofValue, invoke, List.map_toArray, evs_map, evs_evl hcc, Bind.bind, Pure.pure, Sem.bind, List.append_toArray] at *
  exact this

/-- A closure is made. -/
theorem v_mf {fn : Fn} {caps : List Operand} {d : Nat} {vs : List Value} {gd : Option Bool}
    (hvs : evl f σ caps = vs := by repeat (first | exact evl_n | apply evl_c (by exact rfl))) (hcc : cndl f σ caps = true := by exact rfl) (hd : dst = some d := by exact rfl) (hn : Nat.ble (d + 1) n = true := by exact rfl) (hg : gdOf f σ all guard = some gd := by exact rfl) :
    Val P n f σ all s ⟨dst, .makeFunc fn #[] caps.toArray, ty, pos, after, guard⟩ d gd (.func fn #[] vs.toArray) := by
  subst hvs
  refine ⟨hd, hn, hg, fun a W hrep _ _ => ?_⟩
  simp only [execOp, Instr.makeFunc, hrep.eval, List.map_toArray, evs_map, evs_evl hcc]
  rfl

theorem info_of {T : TypeId} {agg : Bool} {sz by_ : Nat} {z : List Value} [ha : TyA P T agg sz] [hb : TyB P T by_] [hz : TyZ P T z] : ∃ i zv, P.info? T = some i ∧ i.zero = some zv ∧ i.size = sz ∧ i.bytes = by_ ∧ zv.cells.toList = z := by
  have h1 := ha.knows
  have h2 := ha.sz
  have h3 := hb.by_
  have h4 := hz.zero
  cases hi : P.info? T with
  | none => simp [knows, hi] at h1
  | some i =>
    cases hv : i.zero with
    | none => simp [zeroOf, hi, hv] at h4
    | some zv =>
      simp only [szOf, byOf, zeroOf, hi, hv, Option.map_some, Option.getD_some, Option.bind_some, Option.some.injEq] at h2 h3 h4
      exact ⟨i, zv, rfl, hv, h2, h3, h4⟩

/-- Where an entry stands. -/
inductive Idx : Hp → Nat → En → Prop where
  | head {e : En} {L : Hp} : Idx (e :: L) 0 e
  | tail {c e : En} {L : Hp} {i : Nat} (h : Idx L i e) : Idx (c :: L) (i + 1) e

def setAt : Hp → Nat → En → Hp
  | [], _, _ => []
  | _ :: L, 0, e => e :: L
  | c :: L, i + 1, e => c :: setAt L i e

theorem Idx.upd {L : Hp} {i : Nat} {e : En} (h : Idx L i e) (e' : En) : Upd L e e' (setAt L i e') := by
  induction h with
  | head => exact .head
  | tail _ ih => exact .tail ih

/-- 'append' of one's own slice (or nil) and another one. -/
theorem f_ap {T e : TypeId} [TySlice P T e] {x y : Operand} {p q : Option Addr} {m cap m2 c2 : Nat} {xs ys : List Value} {agg : Bool} {sz by_ : Nat} {z : List Value} [ha : TyA P e agg (sz + 1)] [hb : TyB P e by_] [hz : TyZ P e z] {ats : Array TypeId} {d : Nat} {ix : Nat}
    (hy2 : ∀ w, (St.mk w0 F L).holds w → Sl w [] q m2 (sz + 1) ys) (hpl : ∀ u ∈ ys, plain u = true) (hbd : (m + m2) * by_ ≤ 140737488355328 ∧ m + m2 ≤ 140737488355328)
    (h : ∀ p' cap', K ((d, .v (.slice p' (m + m2) cap')) :: σ) ⟨w0, F, setAt L ix (.row p' (m + m2) cap' (xs ++ ys) e (sz + 1))⟩)
    (hix : Idx L ix (.row p m cap xs e (sz + 1)) := by repeat (first | exact Idx.head | apply Idx.tail)) (hzl : z.length = sz + 1 := by exact rfl) (hx : evo f σ x = some (.slice p m cap) := by exact rfl) (hy : evo f σ y = some (.slice q m2 c2) := by exact rfl) (hcx : (sv f σ x).cnd = true := by exact rfl) (hcy : (sv f σ y).cnd = true := by exact rfl) (hat : ats = #[T, T] := by exact rfl)
    (hd : dst = some d := by exact rfl) (hn : Nat.ble (d + 1) n = true := by exact rfl) (hg : guard = none := by exact rfl) :
    Ef P n f σ ⟨w0, F, L⟩ ⟨dst, .call { callee := .builtin .append, args := #[x, y], argTypes := ats }, ty, pos, after, guard⟩ K := by
  subst hat
  refine .of hd hn hg (fun a w hrep hs => ?_)
  have hxe := ev_of_evo hx hcx
  have hye := ev_of_evo hy hcy
  obtain ⟨i, zv, hi, hzv, hsz, hby, hzc⟩ := info_of (P := P) (T := e) (z := z) (agg := agg) (sz := sz + 1) (by_ := by_)
  have hu1 := hix.upd (.row p m cap xs e (sz + 1))
  have hrow := hs.own _ hu1.mem
  have hsl := hy2 w hs
  have hown : w.ownsRow 0 e (sz + 1) (.slice p m cap) m xs := by
    refine ⟨hrow.1, ?_⟩
    rcases hrow.2 with ⟨rfl, rfl, rfl⟩ | ⟨b, cur, rfl, hb', h2, h3, h4, h5⟩
    · exact .inl ⟨rfl, rfl⟩
    · exact .inr ⟨b, cap, cur, rfl, Nat.zero_le _, hb', h2, h3, h4, h5⟩
  have hrun : (execOp a.eval (⟨dst, .call { callee := .builtin .append, args := #[x, y], argTypes := #[T, T] }, ty, pos, after, guard⟩ : Oper)).run P w = ((Builtin.append_ #[T, T] ty #[.slice p m cap, .slice q m2 c2]).run P w).andThen (fun v w' => .ok (.value v) w') := by
    simp [execOp, resolve, invoke, builtin, hrep.eval, hxe, hye]
  -- the source
  have main : ∃ v' w', (Builtin.append_ #[T, T] ty #[.slice p m cap, .slice q m2 c2]).run P w = .ok v' w' ∧ w'.ownsRow 0 e (sz + 1) v' (m + m2) (xs ++ ys) ∧ w.grownBy w' (Value.slice p m cap).ownBlock ∧
      (∀ p' c', v' = .slice p' (m + m2) c' → ∀ b, p'.map (·.block) = some b → p.map (·.block) = some b ∨ w.heap.size ≤ b) := by
    by_cases hm2 : 0 < m2
    · have hq := hsl.ptr hm2
      have hmem : ∀ j u, ys[j]? = some u → w.cell? ((⟨pb q, po q, none⟩ : Addr).add j) = some u := fun j u hj => by rw [add_none]; exact (hsl.rd j u hj).2.2
      obtain ⟨v', w', h1, h2, h3, -⟩ := run_append_own (P := P) w 0 T ty e i zv (sz + 1) by_ (‹TySlice P T e›).under hi hzv hsz hby (by rw [← Array.length_toList, hzc]; exact hzl) (Nat.succ_pos _)
        (.slice p m cap) m xs hown ⟨pb q, po q, none⟩ m2 c2 ys hsl.len hmem (fun u hu => plain_one (hpl u hu)) (by simp only [maxLen]; omega) hbd.1 (Nat.zero_le _)
      rw [← hq] at h1
      refine ⟨v', w', h1, h2, h3, ?_⟩
      rcases hrow.2 with ⟨rfl, rfl, rfl⟩ | ⟨b, cur, rfl, hb', h4, h5, h6, h7⟩
      · have h8 := run_append_nil (P := P) w T ty e i zv (‹TySlice P T e›).under hi hzv ⟨pb q, po q, none⟩ m2 c2 ys (by rw [hsl.len, hsz]) hmem hm2 (by omega) (by rw [hby]; have := hbd.1; simp only [Nat.zero_add] at this; omega)
        rw [← hq] at h8
        rw [h8] at h1
        simp only [Result.ok.injEq] at h1
        rintro p' c' rfl b hb2
        simp only [Value.slice.injEq] at h1
        rw [← h1.1.1] at hb2
        simp only [Option.map_some, Option.some.injEq] at hb2
        exact .inr (by omega)
      · by_cases hroom : m + m2 ≤ cap
        · have h8 := run_append_room (P := P) w T ty e i (‹TySlice P T e›).under hi b m cap cur hb' ⟨pb q, po q, none⟩ m2 c2 ys (by rw [hsl.len, hsz]) hmem (fun u hu => plain_one (hpl u hu)) hroom
            (by rw [hsl.len, hsz, ← Nat.add_mul, h6]; exact Nat.mul_le_mul_right _ hroom)
          rw [← hq] at h8
          rw [h8] at h1
          simp only [Result.ok.injEq] at h1
          rintro p' c' rfl b2 hb2
          simp only [Value.slice.injEq] at h1
          rw [← h1.1.1] at hb2
          exact .inl hb2
        · have holds : ∀ j u, xs[j]? = some u → w.cell? ((⟨b, 0, none⟩ : Addr).add j) = some u := hown.cells (g := b) rfl
          have h8 := run_append_grow (P := P) w T ty e i zv (‹TySlice P T e›).under hi hzv ⟨b, 0, none⟩ m cap xs (by rw [hrow.1, hsz]) holds ⟨pb q, po q, none⟩ m2 c2 ys (by rw [hsl.len, hsz]) hmem (by omega) (by omega)
            (growslice_fits (by omega) (by rw [hby]; exact hbd.1))
          rw [← hq] at h8
          rw [h8] at h1
          simp only [Result.ok.injEq] at h1
          rintro p' c' rfl b2 hb2
          simp only [Value.slice.injEq] at h1
          rw [← h1.1.1] at hb2
          simp only [Option.map_some, Option.some.injEq] at hb2
          exact .inr (by omega)
    · have h0 : m2 = 0 := by omega
      subst h0
      have hys : ys = [] := List.eq_nil_of_length_eq_zero (by simpa using hsl.len)
      subst hys
      refine ⟨.slice p m cap, w, ?_, by simpa using hown, ⟨rfl, rfl, rfl, Nat.le_refl _, fun _ _ _ => rfl⟩, fun p' c' he b hb' => .inl (by simp only [Value.slice.injEq] at he; rw [he.1]; exact hb')⟩
      have hle : m ≤ cap := by rcases hrow.2 with ⟨_, rfl, rfl⟩ | ⟨b, cur, _, _, h2, _⟩ <;> omega
      cases p <;> cases q <;> simp [Builtin.append_, run_underSlice (P := P) (T := T) (e := e), sizeOf, typeInfo, hi, Builtin.lenOf, hle, Builtin.firstCells, loadCells, loadCellsFrom, storeCells]
  obtain ⟨v', w', h1, h2, h3, hblk⟩ := main
  obtain ⟨p', cap', rfl⟩ : ∃ p' cap', v' = .slice p' (m + m2) cap' := by
    rcases h2.2 with ⟨rfl, h0⟩ | ⟨g, c, cur, rfl, _⟩
    · exact ⟨none, 0, by rw [h0]⟩
    · exact ⟨_, _, rfl⟩
  have hu' := hix.upd (.row p' (m + m2) cap' (xs ++ ys) e (sz + 1))
  refine ⟨_, w', ⟨w0, F, _⟩, by rw [hrun, h1]; rfl, ?_, h p' cap'⟩
  refine hs.upd hu' h3.os h3.tape h3.output h3.size (fun k' hk' hne => h3.block k' hk' ?_) ?_ ?_
  · intro he
    cases p with
    | none => simp [Value.ownBlock] at he
    | some a' => simp only [Value.ownBlock, Option.some.injEq] at he; exact hne (by simp [En.blk, he])
  · refine ⟨h2.1, ?_⟩
    rcases h2.2 with ⟨he, h0⟩ | ⟨g, c, cur, he, _, hg', h4, h5, h6, h7⟩
    · simp only [Value.slice.injEq] at he; exact .inl ⟨he.1, h0, he.2.2⟩
    · simp only [Value.slice.injEq] at he; obtain ⟨rfl, -, rfl⟩ := he; exact .inr ⟨g, cur, rfl, hg', h4, h5, h6, h7⟩
  · intro b hb'
    exact hblk p' cap' rfl b hb'

/-- A nil slice that will be appended to. -/
theorem r_row {T : TypeId} {sz : Nat} (h : Wk P n Q k f σ ⟨w0, F, .row none 0 0 [] T sz :: L⟩) : Wk P n Q k f σ ⟨w0, F, L⟩ := by
  intro a w hr hs
  refine h a w hr (hs.cons rfl rfl rfl (Nat.le_refl _) (fun _ _ => rfl) ⟨by simp, .inl ⟨rfl, rfl, rfl⟩⟩ (fun b hb => by simp [En.blk] at hb))

/-- A part of a row written anew, by its parts. -/
def fillS (sz : Nat) : List Value → List (Nat × Value) → Option (List Value)
  | l, [] => some l
  | l, (i, v) :: r => match Nat.beq (cellsOf v).length sz, Nat.ble (i * sz + sz) l.length with
    | true, true => fillS sz (splice l (i * sz) (cellsOf v)) r
    | _, _ => none

theorem fill_fillS (sz : Nat) (parts : List (Nat × Value)) : ∀ (l l' : List Value), fillS sz l parts = some l' → Instr.fill (fun i => some (i * sz, sz)) l.toArray parts = some l'.toArray := by
  induction parts with
  | nil => intro l l' h; simp only [fillS, Option.some.injEq] at h; subst h; rfl
  | cons p r ih =>
    obtain ⟨i, v⟩ := p
    intro l l' h
    simp only [fillS] at h
    split at h <;> try (simp only [reduceCtorEq] at h; done)
    rename_i h1 h2
    have h1 := Nat.eq_of_beq_eq_true h1
    have h2 := Nat.le_of_ble_eq_true h2
    have hsz : v.cells.size = sz := by rw [← Array.length_toList, cellsOf_cells]; exact h1
    simp only [Instr.fill, hsz, ne_eq, not_true, List.size_toArray, gt_iff_lt]
    rw [if_neg (by simp; omega)]
    rw [← ih _ _ h]
    congr 1
    apply Array.ext'
    have := foldl_set (cellsOf v) (i * sz) 0 l.toArray (by simp; omega)
    simp only [Nat.add_zero] at this
    rw [← Array.foldl_toList]
    simp only [Array.toList_zipIdx, cellsOf_cells]
    rw [this]
    simp [splice]

def zeros (z : List Value) (n : Nat) : List Value := (List.range n).map fun i => z[i % z.length]!

/-- A slice's literal. -/
theorem f_bs {T e : TypeId} [TySlice P T e] {len : Nat} {parts : List (Nat × Operand)} {vals : List (Nat × Value)} {agg : Bool} {sz : Nat} {z l : List Value} [ha : TyA P e agg sz] [hz : TyZ P e z] {d : Nat}
    (h : ∀ b, K ((d, .v (.slice (some ⟨b, 0, none⟩) len len)) :: σ) ⟨w0, F, .cells b l e :: L⟩)
    (hv : vals = parts.map (fun x => (x.1, evd f σ x.2)) := by repeat (first | exact pm_n | apply pm_c (by exact rfl))) (hcc : cndl f σ (parts.map (·.2)) = true := by exact rfl) (hl : fillS sz (zeros z (len * sz)) vals = some l := by exact rfl) (hle : Nat.ble (len * sz) 65536 = true := by exact rfl)
    (hd : dst = some d := by exact rfl) (hn : Nat.ble (d + 1) n = true := by exact rfl) (hg : guard = none := by exact rfl) :
    Ef P n f σ ⟨w0, F, L⟩ ⟨dst, .buildSlice T len parts.toArray, ty, pos, after, guard⟩ K := by
  refine .of hd hn hg (fun a w hrep hs => ?_)
  refine ⟨_, w.alloc (.cells l.toArray e), _, ?_, hs.cons (e' := .cells w.heap.size l e) rfl rfl rfl (by simp) (fun k' hk => aold w _ k' hk) (heap_alloc_new w _) (fun b hb => by simp only [En.blk, Option.some.injEq] at hb; omega), h w.heap.size⟩
  have hsz := run_sizeOf ha.knows w
  rw [ha.sz] at hsz
  obtain ⟨zv, hzv, hzc⟩ := run_zeroValue (P := P) (T := e) (z := z) w
  have hle' : ¬ (len * sz > 2 ^ 24) := by have := Nat.le_of_ble_eq_true hle; omega
  have hf : ∀ zs : Array Value, (len * sz = 0 → zs = #[]) → (len * sz ≠ 0 → zs = zv.cells) → Instr.fill (fun i => some (i * sz, sz)) ((Array.range (len * sz)).map (fun x => zs[x % zs.size]!)) vals = some l.toArray := by
    intro zs h0 h1
    rw [← fill_fillS sz vals _ _ hl]
    congr 1
    apply Array.ext'
    by_cases hz0 : len * sz = 0
    · simp [hz0, zeros]
    · rw [h1 hz0]
      simp only [Array.toList_map, Array.toList_range, zeros, ← hzc]
      apply List.map_congr_left
      intro i _
      simp only [Array.length_toList]
      rw [getElem!_def, getElem!_def, Array.getElem?_toList]
  have hv2 : List.map (fun x : Nat × Operand => (x.fst, ev f σ x.snd)) parts = vals := by
    have h1 := evs_evl hcc
    rw [hv]
    clear hv hl hcc
    induction parts with
    | nil => rfl
    | cons p r ih =>
      simp only [List.map_cons, evs, evl, List.cons.injEq] at h1 ⊢
      exact ⟨by rw [h1.1], ih h1.2⟩
  by_cases hz0 : len * sz = 0
  · have hf0 := hf #[] (fun _ => rfl) (fun h => absurd hz0 h)
    rw [hz0] at hf0
    simp at hf0
    simp [execOp, Instr.buildSlice, run_underSlice (P := P) (T := T) (e := e), hsz, hz0, newRow, hrep.eval]
    rw [hv2, hf0]
    simp
  · have hf1 := hf zv.cells (fun h => absurd h hz0) (fun _ => rfl)
    simp only [gt_iff_lt, Nat.not_lt] at hle'
    have hle2 : ¬ (16777216 < len * sz) := by omega
    simp [execOp, Instr.buildSlice, run_underSlice (P := P) (T := T) (e := e), hsz, hz0, hle2, hzv, newRow, hrep.eval]
    rw [hv2, hf1]
    rfl

/-! ### A function's beginning and end -/

/-- What stands in the results. -/
inductive Res (f : Nat → Value) (σ : Bd) (P : Program) (L : Hp) : List ResultVar → List Value → Prop where
  | nil : Res f σ P L [] []
  | tmp {t : Tmp} {v : Value} {rs : List ResultVar} {vs : List Value} (hv : (look f σ t).val = v) (h : Res f σ P L rs vs) : Res f σ P L (.tmp t :: rs) (v :: vs)
  | cell {t : Tmp} {T : TypeId} {b off : Nat} {l : List Value} {T' : TypeId} {v : Value} {sz : Nat} [TyA P T false sz] {rs : List ResultVar} {vs : List Value}
      (hx : (look f σ t).val = .pointer (some ⟨b, off, none⟩)) (hm : En.cells b l T' ∈ L) (hv : l[off]? = some v) (h : Res f σ P L rs vs) : Res f σ P L (.cell t T :: rs) (v :: vs)
  | cella {t : Tmp} {T : TypeId} {b off : Nat} {l l' : List Value} {T' : TypeId} {sz : Nat} [TyA P T true sz] {rs : List ResultVar} {vs : List Value}
      (hx : (look f σ t).val = .pointer (some ⟨b, off, none⟩)) (hm : En.cells b l T' ∈ L) (hv : sub l off sz = some l') (h : Res f σ P L rs vs) : Res f σ P L (.cell t T :: rs) (.agg l'.toArray :: vs)

def packed : List Value → Value
  | [v] => v
  | vs => .tuple vs.toArray

theorem Res.run {rs : List ResultVar} {vs : List Value} (h : Res f σ P L rs vs) {a : Act} {w : World} (hr : Rep n f σ a) (hs : (St.mk w0 F L).holds w) (fn : Func) (hfn : fn.results = rs.toArray) :
    (results fn a.tmps).run P w = .ok (packed vs) w := by
  have key : ∀ g : ResultVar → Sem Value, (∀ t, g (.tmp t) = pure (a.tmps.getD t undef)) → (∀ t T, g (.cell t T) = asAddr (a.tmps.getD t undef) >>= fun x => loadVar T x) → (rs.mapM g).run P w = .ok vs w := by
    intro g h1 h2
    clear hfn
    induction h with
    | nil => rfl
    | tmp hv h ih =>
      simp only [List.mapM_cons, Sem.run_bind, h1, Sem.run_pure, Result.andThen_ok, hr.val, hv, ih]
    | @cell t T b off l T' v sz _ rs vs hx hm hv h ih =>
      have hc := hs.own _ hm
      have hv' := run_loadVar_s (P := P) (T := T) (w := w) ((cell_of hc _).trans hv)
      simp only [List.mapM_cons, Sem.run_bind, h2, hr.val, hx, asAddr, Sem.run_pure, Result.andThen_ok, hv', ih]
    | @cella t T b off l l' T' sz _ rs vs hx hm hv h ih =>
      have hc := hs.own _ hm
      obtain ⟨h3, h4⟩ := sub_get hv
      have hv' := run_loadVar_a (P := P) (T := T) (w := w) h3 (fun j v hj => (cell_of hc _).trans (h4 j v hj))
      simp only [List.mapM_cons, Sem.run_bind, h2, hr.val, hx, asAddr, Sem.run_pure, Result.andThen_ok, hv', ih]
  simp only [results, hfn, Array.mapM_eq_mapM_toList, Sem.run_bind, Sem.run_map]
  rw [key _ (fun _ => rfl) (fun _ _ => rfl)]
  match vs with
  | [] => rfl
  | [v] => rfl
  | v :: u :: r => simp [packed]

def argsBd : Nat → List Value → Bd
  | _, [] => []
  | i, v :: r => (i, .v v) :: argsBd (i + 1) r

theorem look_argsBd (l : List Value) : ∀ (i t : Nat), look (fun _ => undef) (argsBd i l) t = .v (if i ≤ t then l.getD (t - i) undef else undef) := by
  induction l with
  | nil => intro i t; simp [argsBd, look]
  | cons v r ih =>
    intro i t
    rw [argsBd, look_cons]
    by_cases h : i = t
    · subst h; simp
    · simp only [h, if_false, ih]
      by_cases h2 : i ≤ t
      · have h3 : i + 1 ≤ t := by omega
        have h4 : t - i = (t - (i + 1)) + 1 := by omega
        simp only [h2, h3, if_true, h4, List.getD_cons_succ]
      · have h3 : ¬ i + 1 ≤ t := by omega
        simp [h2, h3]

theorem does_of {g : Nat} {fn : Func} {c : Code} {args : List Value} {w : World} {F : List Nat} {Φ : Value → Hp → Prop} (hf : P.funcs[g]? = some fn) (hb : fn.body = some c)
    (hlen : Nat.ble args.length fn.ntmps = true)
    (h : Wk P fn.ntmps (bodyPost P fn (Post w F Φ)) [.code c] (fun _ => undef) (argsBd 0 args) ⟨w, F, []⟩) : Does P g args w F Φ := by
  refine calls_of_wp hf hb (wp_mono (h _ w ?_ (St.holds.refl w F)) fun e a w q => ?_)
  · have hle := Nat.le_of_ble_eq_true hlen
    refine ⟨by simp; omega, by rw [look_argsBd]; rfl, fun t => ?_⟩
    rw [look_argsBd]
    simp only [Nat.zero_le, if_true, Nat.sub_zero, SV.val, Array.getD_eq_getD_getElem?, List.getD_eq_getElem?_getD, Array.getElem?_append, List.size_toArray, List.getElem?_toArray]
    split
    · rfl
    · rename_i hge
      rw [List.getElem?_eq_none (by omega)]
      rw [Array.getElem?_replicate]
      split <;> rfl
  · cases e <;> exact q

/-- The same where the call may change blocks that were there: what is known of them comes in. -/
theorem does_ofM {g : Nat} {fn : Func} {c : Code} {args : List Value} {w : World} {F : List Nat} {L : Hp} {Φ : Value → Hp → Prop} (hf : P.funcs[g]? = some fn) (hb : fn.body = some c)
    (hlen : Nat.ble args.length fn.ntmps = true) (hL : (St.mk w F L).holds w)
    (h : Wk P fn.ntmps (bodyPost P fn (Post w F Φ)) [.code c] (fun _ => undef) (argsBd 0 args) ⟨w, F, L⟩) : Does P g args w F Φ := by
  refine calls_of_wp hf hb (wp_mono (h _ w ?_ hL) fun e a w q => ?_)
  · have hle := Nat.le_of_ble_eq_true hlen
    refine ⟨by simp; omega, by rw [look_argsBd]; rfl, fun t => ?_⟩
    rw [look_argsBd]
    simp only [Nat.zero_le, if_true, Nat.sub_zero, SV.val, Array.getD_eq_getD_getElem?, List.getD_eq_getElem?_getD, Array.getElem?_append, List.size_toArray, List.getElem?_toArray]
    split
    · rfl
    · rename_i hge
      rw [List.getElem?_eq_none (by omega)]
      rw [Array.getElem?_replicate]
      split <;> rfl
  · cases e <;> exact q

/-- The function hands back what stands in its results. -/
theorem r_rt {fn : Func} {w : World} {Φ : Value → Hp → Prop} {rs : List ResultVar} {vs : List Value} {L' : Hp} (hfn : fn.results = rs.toArray) (hres : Res f σ P L rs vs) (hL : L'.Sublist L) (hΦ : Φ (packed vs) L') (hn : nod n σ = true := by exact rfl) :
    Wk P n (bodyPost P fn (Post w F Φ)) (.code .ret :: k) f σ ⟨w, F, L⟩ :=
  r_ret fun _ _ hr hs => ⟨hr.defers.trans (nod_dfs hn), packed vs, hres.run hr hs fn hfn, L', hΦ, hs.sub hL⟩

theorem r_fin {fn : Func} {w : World} {Φ : Value → Hp → Prop} {rs : List ResultVar} {vs : List Value} {L' : Hp} (hfn : fn.results = rs.toArray) (hres : Res f σ P L rs vs) (hL : L'.Sublist L) (hΦ : Φ (packed vs) L') (hn : nod n σ = true := by exact rfl) :
    Wk P n (bodyPost P fn (Post w F Φ)) [] f σ ⟨w, F, L⟩ :=
  r_end fun _ _ hr hs => ⟨hr.defers.trans (nod_dfs hn), packed vs, hres.run hr hs fn hfn, L', hΦ, hs.sub hL⟩


theorem x_ {id : Nat} {k' : List It} (h : Wk P n Q k' f σ s) (hd : dropTo id k = some k' := by exact rfl) : Wk P n Q (.code (.exit id) :: k) f σ s := r_exit hd h

theorem c_ {c : Operand} {x y : Code} {t : Bool} (ht : t = true → Wk P n Q (.code x :: k) f σ s) (hf : t = false → Wk P n Q (.code y :: k) f σ s) (hc : evo f σ c = some (.bool t) := by exact rfl) (hcc : (sv f σ c).cnd = true := by exact rfl) : Wk P n Q (.code (.cond c x y) :: k) f σ s :=
  r_cond (ev_of_evo hc hcc) ht hf

theorem t_ {fn : Func} {w : World} {Φ : Value → Hp → Prop} {rs : List ResultVar} {vs : List Value} {L' : Hp} (hfn : fn.results = rs.toArray) (hres : Res f σ P L rs vs) (hL : L'.Sublist L) (hΦ : Φ (packed vs) L') (hn : nod n σ = true := by exact rfl) :
    Wk P n (bodyPost P fn (Post w F Φ)) (.code .ret :: k) f σ ⟨w, F, L⟩ := r_rt hfn hres hL hΦ hn
end Go.Cf

namespace Go.Cf

section
variable {P : Program} {ops : Array Oper} {Q : Exit → Act → World → Prop} {S T : World → Prop} {lst : List Nat}

/-- Whatever comes next; what is not of 'lst' leaves S as it is. -/
def wpD (P : Program) (ops : Array Oper) (Q : Exit → Act → World → Prop) (S : World → Prop) (lst : List Nat) : Nat → Array Bool → Act → World → Prop
  | 0, listed, a, w => Region.ready .any ops listed = [] ∧ Q .normal a w
  | m + 1, listed, a, w => (Region.ready .any ops listed = [] → Q .normal a w) ∧
      ∀ i, i ∈ Region.ready .any ops listed → wpOp P ops Q i (fun a' w' => (S w → lst.contains i = false → S w') ∧ wpD P ops Q S lst m (listed.setIfInBounds i true) a' w') a w

theorem wpD_any : ∀ (m : Nat) (listed : Array Bool) (a : Act) (w : World), wpD P ops Q S lst m listed a w → wpAny P .any ops Q m listed a w := by
  intro m
  induction m with
  | zero => exact fun _ _ _ h => h
  | succ m ih => exact fun _ _ _ h => ⟨h.1, fun i hi => wpOp_mono (fun _ _ h' => ih _ _ _ h'.2) (h.2 i hi)⟩

/-- Those of 'lst' wait for i. -/
def waits (ops : Array Oper) (lst : List Nat) (i : Nat) : Bool :=
  lst.all fun j => match ops[j]? with | none => true | some o => o.after.any fun e => Region.binds .any e && e.on == i

theorem not_waiting {i j : Nat} {listed : Array Bool} (hw : waits ops lst i = true) (hi : i ∈ Region.ready .any ops listed) (hj : j ∈ Region.ready .any ops listed) : lst.contains j = false := by
  cases hc : lst.contains j with
  | false => rfl
  | true =>
    have hm : j ∈ lst := by simpa using hc
    obtain ⟨-, oj, hoj, hall⟩ := mem_ready.1 hj
    have h1 := List.all_eq_true.1 hw j hm
    simp only [hoj, Array.any_eq_true', Bool.and_eq_true, beq_iff_eq] at h1
    obtain ⟨e, he, hb, rfl⟩ := h1
    have h2 := hall e he hb
    have h0 := (mem_ready.1 hi).1
    rcases Nat.lt_or_ge e.on listed.size with h' | h'
    · simp [h'] at h0 h2; rw [h0] at h2; cases h2
    · simp [Array.getElem?_eq_none h'] at h2

theorem wpD_first {i : Nat} {oi : Oper} {v : Value} (hi : ops[i]? = some oi) (hsel : Region.noSelect ops = true) (hQ : ∀ c a w, ¬ Q (.panic c) a w)
    (hT : (∀ w, T w) ∨ ((∀ w, S w → T w) ∧ waits ops lst i = true)) :
    ∀ (m : Nat) (listed : Array Bool) (a : Act) (w : World),
      (∀ j oj, ops[j]? = some oj → j ≠ i → listed.getD j true = false → (∀ e ∈ oj.after, Region.binds .any e = true → e.on ≠ i) → oi.apart ops oj = true) →
      i ∈ Region.ready .any ops listed → YieldsIf P ops T oi v a → ((∀ w, T w) ∨ S w) →
      wpD P ops Q S lst m (listed.setIfInBounds i true) (a.put oi.dst v) w → wpD P ops Q S lst (m + 1) listed a w := by
  have hs := Region.noSelect_spec hsel
  intro m
  induction m with
  | zero =>
    intro listed a w _ hr hy hS H
    have hTw : T w := hT.elim (fun h => h w) (fun h => hS.elim (fun h' => h' w) (h.1 w))
    refine ⟨fun h => by rw [h] at hr; simp at hr, fun j hj => ?_⟩
    by_cases hji : j = i
    · subst hji; exact hy.wpOp hi hTw ⟨fun h _ => h, H⟩
    · have := ready_mono hj hji
      rw [H.1] at this; simp at this
  | succ m ih =>
    intro listed a w hfree hr hy hS H
    have hTw : T w := hT.elim (fun h => h w) (fun h => hS.elim (fun h' => h' w) (h.1 w))
    refine ⟨fun h => by rw [h] at hr; simp at hr, fun j hj => ?_⟩
    by_cases hji : j = i
    · subst hji; exact hy.wpOp hi hTw ⟨fun h _ => h, H⟩
    · have h1 := H.2 j (ready_mono hj hji)
      obtain ⟨hun, oj, hoj, hall⟩ := mem_ready.1 hj
      have hno : ∀ e ∈ oj.after, Region.binds .any e = true → e.on ≠ i := by
        intro e he hb heq
        have h2 := hall e he hb
        have h0 := (mem_ready.1 hr).1
        subst heq
        rcases Nat.lt_or_ge e.on listed.size with h' | h'
        · simp [h'] at h0 h2; rw [h0] at h2; cases h2
        · simp [Array.getElem?_eq_none h'] at h2
      have h2 := wpOp_putIf hoj (hfree j oj hoj hji hun hno) (fun cs b => hs i oi cs b hi) (fun cs b => hs j oj cs b hoj) (fun c a w h => absurd h (hQ c _ w)) hy h1
      have hfree' : ∀ k ok, ops[k]? = some ok → k ≠ i → (listed.setIfInBounds j true).getD k true = false →
          (∀ e ∈ ok.after, Region.binds .any e = true → e.on ≠ i) → oi.apart ops ok = true := by
        intro k ok hk hki hun' hno'
        refine hfree k ok hk hki ?_ hno'
        by_cases hjk : j = k
        · subst hjk; exact hun
        · rw [getD_set_ne true hjk] at hun'; exact hun'
      refine wpOp_mono (fun a' w' h3 => ⟨h3.2.1, ih (listed.setIfInBounds j true) a' w' hfree' (ready_mono hr (Ne.symm hji)) h3.1 ?_ ?_⟩) h2
      · rcases hT with h | ⟨_, h⟩
        · exact .inl h
        · exact hS.imp id (fun hSw => h3.2.1 hSw (not_waiting h hr hj))
      · rw [Array.setIfInBounds_comm _ _ hji]; exact h3.2.2
end

variable {P : Program} {n : Nat} {Q : Exit → Act → World → Prop} {k : List It} {f : Nat → Value} {σ : Bd} {w0 : World} {F : List Nat} {L Lp : Hp} {s : St} {ops : List Oper} {o : Oper} {lst : List Nat} {m : Nat} {listed : Array Bool}

/-- In the midst of such a statement. -/
def WkD (P : Program) (n : Nat) (Q : Exit → Act → World → Prop) (k : List It) (ops : List Oper) (w0 : World) (F : List Nat) (Lp : Hp) (lst : List Nat) (m : Nat) (listed : Array Bool) (f : Nat → Value) (σ : Bd) (L : Hp) : Prop :=
  ∀ a w, Rep n f σ a → (St.mk w0 F L).holds w → wpD P ops.toArray (NoPanic (ex P Q k)) (St.mk w0 F Lp).holds lst m listed a w

theorem St.holds.drew {s : St} {w : World} (h : s.holds w) (t : Nat) : s.holds { w with drawn := t } := by
  obtain ⟨h1, h2, h3, h4, h5, h6, h7, h8⟩ := h
  refine ⟨h1, h2, h3, h4, h5, fun e he => ?_, h7, h8⟩
  have := h6 e he
  cases e <;> exact this

/-- The beginning: 'Lp' is what stays as it is till those of 'lst' come. -/
theorem d_in (Lp : Hp) (lst : List Nat) {id : Nat} (h : WkD P n Q k ops w0 F Lp lst ops.length (Array.replicate ops.length false) f σ L) (hm : P.follows .mixedOrders = true := by kernel_rfl) :
    Wk P n Q (.code (.region id ops.toArray true) :: k) f σ ⟨w0, F, L⟩ :=
  fun a w hr hs => wp_region_noPanic (wp_region_any hm (by
    have := wpD_any _ _ _ _ (h a { w with drawn := w.drawn + 1 } hr (hs.drew _))
    simpa using this))

/-- A plain operation is taken first. -/
theorem d_p (i : Nat) (hi' : ops[i]? = some o := by exact rfl) {gd : Option Bool} {d : Nat} {v : Value} (hv : ∀ s, Val P n f σ ops s o d gd v)
    (h : WkD P n Q k ops w0 F Lp lst m (listed.setIfInBounds i true) f ((d, mk gd v) :: σ) L)
    (hsel : Region.noSelect ops.toArray = true := by kernel_rfl) (hf : Region.free .any ops.toArray listed i = true := by kernel_rfl) (hr : (Region.ready .any ops.toArray listed).contains i = true := by kernel_rfl) :
    WkD P n Q k ops w0 F Lp lst (m + 1) listed f σ L := by
  have hi : ops.toArray[i]? = some o := by rw [List.getElem?_toArray]; exact hi'
  intro a w hrep hs
  have hv0 := hv ⟨w, [], []⟩
  have hdn : d < n := Nat.le_of_ble_eq_true hv0.hn
  refine wpD_first (T := fun _ => True) (v := (mk gd v).val) hi hsel (fun _ _ _ h => h) (.inl fun _ => trivial) m listed a w (Region.free_spec hi hf) (by simpa using hr) ?_ (.inl fun _ => trivial) ?_
  · cases hc : gdc gd with
    | true => exact .inl ⟨by rw [wanted_of hrep hv0.hg, hc], fun w' _ => by rw [mk_true hc]; exact (hv ⟨w', [], []⟩).hr a w' hrep hc (St.holds.refl w' [])⟩
    | false => exact .inr ⟨by rw [wanted_of hrep hv0.hg, hc], mk_false hc⟩
  · rw [hv0.hd]; exact h _ w (hrep.put hdn (mk gd v)) hs

/-- An operation that reads is taken first. -/
theorem d_w (i : Nat) (hi' : ops[i]? = some o := by exact rfl) {gd : Option Bool} {d : Nat} {v : Value} (hv : Val P n f σ ops ⟨w0, F, Lp⟩ o d gd v)
    (h : WkD P n Q k ops w0 F Lp lst m (listed.setIfInBounds i true) f ((d, mk gd v) :: σ) L)
    (hL : Lp.Sublist L := by repeat (first | exact List.Sublist.refl _ | exact List.nil_sublist _ | exact List.sublist_append_right _ _ | apply List.Sublist.cons_cons | apply List.Sublist.cons))
    (hw : waits ops.toArray lst i = true := by kernel_rfl) (hsel : Region.noSelect ops.toArray = true := by kernel_rfl) (hf : Region.free .any ops.toArray listed i = true := by kernel_rfl) (hr : (Region.ready .any ops.toArray listed).contains i = true := by kernel_rfl) :
    WkD P n Q k ops w0 F Lp lst (m + 1) listed f σ L := by
  have hi : ops.toArray[i]? = some o := by rw [List.getElem?_toArray]; exact hi'
  intro a w hrep hs
  have hdn : d < n := Nat.le_of_ble_eq_true hv.hn
  refine wpD_first (T := (St.mk w0 F Lp).holds) (v := (mk gd v).val) hi hsel (fun _ _ _ h => h) (.inr ⟨fun _ h => h, hw⟩) m listed a w (Region.free_spec hi hf) (by simpa using hr) ?_ (.inr (hs.sub hL)) ?_
  · cases hc : gdc gd with
    | true => exact .inl ⟨by rw [wanted_of hrep hv.hg, hc], fun w' hw' => by rw [mk_true hc]; exact hv.hr a w' hrep hc hw'⟩
    | false => exact .inr ⟨by rw [wanted_of hrep hv.hg, hc], mk_false hc⟩
  · rw [hv.hd]; exact h _ w (hrep.put hdn (mk gd v)) hs

/-- An operation hands on a value, which K takes. -/
def Tp (P : Program) (n : Nat) (f : Nat → Value) (σ : Bd) (ops : List Oper) (o : Oper) (K : Nat → SV → Prop) : Prop := ∃ d gd v, (∀ s, Val P n f σ ops s o d gd v) ∧ K d (mk gd v)
def Tw (P : Program) (n : Nat) (f : Nat → Value) (σ : Bd) (ops : List Oper) (s : St) (o : Oper) (K : Nat → SV → Prop) : Prop := ∃ d gd v, Val P n f σ ops s o d gd v ∧ K d (mk gd v)
theorem tp {K : Nat → SV → Prop} {gd : Option Bool} {d : Nat} {v : Value} (hv : ∀ s, Val P n f σ ops s o d gd v) (h : K d (mk gd v)) : Tp P n f σ ops o K := ⟨d, gd, v, hv, h⟩
theorem tw {K : Nat → SV → Prop} {gd : Option Bool} {d : Nat} {v : Value} (hv : Val P n f σ ops s o d gd v) (h : K d (mk gd v)) : Tw P n f σ ops s o K := ⟨d, gd, v, hv, h⟩

theorem dp (i : Nat) (h : Tp P n f σ ops o (fun d sv => WkD P n Q k ops w0 F Lp lst m (listed.setIfInBounds i true) f ((d, sv) :: σ) L))
    (hi : ops[i]? = some o := by exact rfl) (hsel : Region.noSelect ops.toArray = true := by kernel_rfl) (hf : Region.free .any ops.toArray listed i = true := by kernel_rfl) (hr : (Region.ready .any ops.toArray listed).contains i = true := by kernel_rfl) :
    WkD P n Q k ops w0 F Lp lst (m + 1) listed f σ L := by
  obtain ⟨d, gd, v, hv, h⟩ := h
  exact d_p i hi hv h hsel hf hr

theorem dw (i : Nat) (h : Tw P n f σ ops ⟨w0, F, Lp⟩ o (fun d sv => WkD P n Q k ops w0 F Lp lst m (listed.setIfInBounds i true) f ((d, sv) :: σ) L))
    (hi : ops[i]? = some o := by exact rfl) (hL : Lp.Sublist L := by repeat (first | exact List.Sublist.refl _ | exact List.nil_sublist _ | exact List.sublist_append_right _ _ | apply List.Sublist.cons_cons | apply List.Sublist.cons))
    (hw : waits ops.toArray lst i = true := by kernel_rfl) (hsel : Region.noSelect ops.toArray = true := by kernel_rfl) (hf : Region.free .any ops.toArray listed i = true := by kernel_rfl) (hr : (Region.ready .any ops.toArray listed).contains i = true := by kernel_rfl) :
    WkD P n Q k ops w0 F Lp lst (m + 1) listed f σ L := by
  obtain ⟨d, gd, v, hv, h⟩ := h
  exact d_w i hi hv h hL hw hsel hf hr

/-- What must stay, stays. -/
def Stay (w0 : World) (F : List Nat) (Lp : Hp) (lst : List Nat) (i : Nat) (s : St) : Prop := match lst.contains i with | true => s.w0 = w0 ∧ s.F = F | false => s.w0 = w0 ∧ s.F = F ∧ Lp.Sublist s.L

theorem wpD_of_ef {i : Nat} (hi : ops.toArray[i]? = some o) {a : Act} {w : World} (hrep : Rep n f σ a) (hs : (St.mk w0 F L).holds w)
    (h : Ef P n f σ ⟨w0, F, L⟩ o (fun σ' s' => Stay w0 F Lp lst i s' ∧ WkD P n Q k ops w0 F Lp lst m (listed.setIfInBounds i true) f σ' s'.L)) :
    wpOp P ops.toArray (NoPanic (ex P Q k)) i (fun a' w' => ((St.mk w0 F Lp).holds w → lst.contains i = false → (St.mk w0 F Lp).holds w') ∧ wpD P ops.toArray (NoPanic (ex P Q k)) (St.mk w0 F Lp).holds lst m (listed.setIfInBounds i true) a' w') a w := by
  unfold wpOp
  rw [hi]
  simp only
  have hw : Region.wanted o (yielded ops.toArray a.tmps) = true := by unfold Region.wanted; rw [h.hg]
  rw [if_pos hw]
  refine .inl (h.hw _ a w hrep hs _ fun σ' s' a' w' hk hr' hs' => ?_)
  obtain ⟨w0', F', L'⟩ := s'
  have hst : w0' = w0 ∧ F' = F := by
    have := hk.1
    unfold Stay at this
    split at this
    · exact this
    · exact ⟨this.1, this.2.1⟩
  obtain ⟨rfl, rfl⟩ := hst
  refine ⟨fun _ hc => ?_, hk.2 a' w' hr' hs'⟩
  have := hk.1
  unfold Stay at this
  rw [hc] at this
  exact hs'.sub this.2.2

/-- The only one that may come does something. -/
theorem d_e (i : Nat) (h : Ef P n f σ ⟨w0, F, L⟩ o (fun σ' s' => Stay w0 F Lp lst i s' ∧ WkD P n Q k ops w0 F Lp lst m (listed.setIfInBounds i true) f σ' s'.L))
    (hi' : ops[i]? = some o := by exact rfl) (hr : Region.ready .any ops.toArray listed = [i] := by kernel_rfl) : WkD P n Q k ops w0 F Lp lst (m + 1) listed f σ L := by
  have hi : ops.toArray[i]? = some o := by rw [List.getElem?_toArray]; exact hi'
  intro a w hrep hs
  refine ⟨fun h => by rw [hr] at h; simp at h, fun j hj => ?_⟩
  rw [hr] at hj
  have : j = i := by simpa using hj
  subst this
  exact wpD_of_ef hi hrep hs h

/-- One of two. -/
theorem d_e2 (i i' : Nat) {o' : Oper} (h : Ef P n f σ ⟨w0, F, L⟩ o (fun σ' s' => Stay w0 F Lp lst i s' ∧ WkD P n Q k ops w0 F Lp lst m (listed.setIfInBounds i true) f σ' s'.L))
    (h' : Ef P n f σ ⟨w0, F, L⟩ o' (fun σ' s' => Stay w0 F Lp lst i' s' ∧ WkD P n Q k ops w0 F Lp lst m (listed.setIfInBounds i' true) f σ' s'.L))
    (hii : ops[i]? = some o := by exact rfl) (hii' : ops[i']? = some o' := by exact rfl) (hr : Region.ready .any ops.toArray listed = [i, i'] := by kernel_rfl) : WkD P n Q k ops w0 F Lp lst (m + 1) listed f σ L := by
  have hi : ops.toArray[i]? = some o := by rw [List.getElem?_toArray]; exact hii
  have hi' : ops.toArray[i']? = some o' := by rw [List.getElem?_toArray]; exact hii'
  intro a w hrep hs
  refine ⟨fun h => by rw [hr] at h; simp at h, fun j hj => ?_⟩
  rw [hr] at hj
  rcases List.mem_cons.1 hj with hj | hj
  · subst hj; exact wpD_of_ef hi hrep hs h
  · have : j = i' := by simpa using hj
    subst this; exact wpD_of_ef hi' hrep hs h'

/-- All have come. -/
theorem d_z (h : Wk P n Q k f σ ⟨w0, F, L⟩) (hr : Region.ready .any ops.toArray listed = [] := by kernel_rfl) : WkD P n Q k ops w0 F Lp lst m listed f σ L := by
  intro a w hrep hs
  have h1 := h a w hrep hs
  cases m with
  | zero => exact ⟨hr, h1⟩
  | succ m => exact ⟨fun _ => h1, fun j hj => by rw [hr] at hj; simp at hj⟩
end Go.Cf

namespace Go.Cf
variable {P : Program} {n : Nat} {Q : Exit → Act → World → Prop} {k : List It} {f : Nat → Value} {σ : Bd} {w0 : World} {F : List Nat} {L : Hp} {s : St} {all : List Oper} {o : Oper} {rest : List Oper} {dst : Option Tmp} {ty : TypeId} {pos : String} {after : Array Edge} {guard : Option (Nat × Bool)} {K : Bd → St → Prop}

/-- A type whose values may be nil: an interface 0, a pointer 1, a slice 2. -/
class TyK (P : Program) (T : TypeId) (k : outParam Nat) : Prop where
  kind : (match P.underlying T with | some (.interface _) => some 0 | some (.pointer _) => some 1 | some (.slice _) => some 2 | _ => none) = some k

def nilOf : Nat → Value → Option Bool
  | 0, .nilIface => some true
  | 0, .iface _ _ => some false
  | 1, .pointer p => some p.isNone
  | 2, .slice p _ _ => some p.isNone
  | _, _ => none

def isNilC : Nat → Value → Bool
  | 0, .nilIface => true
  | 1, .pointer none => true
  | 2, .slice none 0 0 => true
  | _, _ => false

theorem run_nil {T : TypeId} {k : Nat} [h : TyK P T k] {v c : Value} {b : Bool} (hv : nilOf k v = some b) (hc : isNilC k c = true) (W : World) :
    (binOp .eql T v c).run P W = .ok (.bool b) W ∧ (binOp .neq T v c).run P W = .ok (.bool !b) W := by
  have hk := h.kind
  cases hu : P.underlying T with
  | none => simp [hu] at hk
  | some u =>
    rw [hu] at hk
    match k, u, hk with
    | 0, .interface ms, _ =>
      have hm : P.underlying T = some (.interface (P.methodsAt T)) := by simp [Program.methodsAt, hu]
      match c, hc with
      | .nilIface, _ =>
        match v, hv with
        | .nilIface, hv => cases hv; exact ⟨run_eql_nil_nil W T hm, run_neq_nil_nil W T hm⟩
        | .iface _ _, hv => cases hv; exact ⟨run_eql_held_nil W T _ _ hm, run_neq_held_nil W T _ _ hm⟩
    | 1, .pointer e, _ =>
      have hm : P.underlying T = some (.pointer (P.pointee T)) := by simp [Program.pointee, hu]
      match c, hc with
      | .pointer none, _ =>
        match v, hv with
        | .pointer p, hv => cases hv; exact ⟨run_eql_pointer_nil W T p hm, run_neq_pointer_nil W T p hm⟩
    | 2, .slice e, _ =>
      match c, hc with
      | .slice none 0 0, _ =>
        match v, hv with
        | .slice p l m, hv => cases hv; exact ⟨Lib.run_eql_slice_nil W T e p l m 0 0 hu, run_neq_slice_nil W T e p l m hu⟩

theorem run_eqGuard_nil {T : TypeId} {op : BinOp} {x : Operand} {c v : Value} {k : Nat} {b : Bool} (hv : nilOf k v = some b) (W : World) : (eqGuard op T x (.const c) v c).run P W = .ok () W := by
  match k, v, hv with
  | 0, .nilIface, _ => cases op <;> cases c <;> simp [eqGuard]
  | 0, .iface _ _, _ => cases op <;> cases c <;> simp [eqGuard]
  | 1, .pointer _, _ => cases op <;> cases c <;> simp [eqGuard]
  | 2, .slice _ _ _, _ => cases op <;> cases c <;> simp [eqGuard]

/-- Is it nil? -/
theorem v_nl {T T' : TypeId} {k : Nat} [TyK P T k] {x : Operand} {v c : Value} {b : Bool} {gd : Option Bool} {d : Nat}
    (hx : evo f σ x = some v := by exact rfl) (hv : nilOf k v = some b := by first | exact rfl | assumption) (hc : isNilC k c = true := by exact rfl) (hd : dst = some d := by exact rfl) (hn : Nat.ble (d + 1) n = true := by exact rfl) (hg : gdOf f σ all guard = some gd := by exact rfl)
    (hob : gob f σ (gdc gd) (tmpsOf [x, .const c]) := by first | exact trivial | exact ⟨id, trivial⟩ | exact ⟨andl, trivial⟩) : Val P n f σ all s ⟨dst, .binOp .eql T x (.const c) T', ty, pos, after, guard⟩ d gd (.bool b) :=
  .of hd hn hg (fun W _ => by
    have key : ∀ ρ : Operand → Value, ρ x = v → ρ (.const c) = c → (execOp ρ ⟨dst, .binOp .eql T x (.const c) T', ty, pos, after, guard⟩).run P W = .ok (.value (.bool b)) W := fun ρ hρ hρ2 => by
      have h1 := (run_nil (P := P) (T := T) hv hc W).1
      have h2 := run_eqGuard_nil (P := P) (T := T) (op := .eql) (x := x) (c := c) hv W
      simp [execOp, hρ, hρ2, h1, h2]
    exact key _ (ev_evo hx (.head _)) rfl) hob

theorem v_nn {T T' : TypeId} {k : Nat} [TyK P T k] {x : Operand} {v c : Value} {b : Bool} {gd : Option Bool} {d : Nat}
    (hx : evo f σ x = some v := by exact rfl) (hv : nilOf k v = some b := by first | exact rfl | assumption) (hc : isNilC k c = true := by exact rfl) (hd : dst = some d := by exact rfl) (hn : Nat.ble (d + 1) n = true := by exact rfl) (hg : gdOf f σ all guard = some gd := by exact rfl)
    (hob : gob f σ (gdc gd) (tmpsOf [x, .const c]) := by first | exact trivial | exact ⟨id, trivial⟩ | exact ⟨andl, trivial⟩) : Val P n f σ all s ⟨dst, .binOp .neq T x (.const c) T', ty, pos, after, guard⟩ d gd (.bool !b) :=
  .of hd hn hg (fun W _ => by
    have key : ∀ ρ : Operand → Value, ρ x = v → ρ (.const c) = c → (execOp ρ ⟨dst, .binOp .neq T x (.const c) T', ty, pos, after, guard⟩).run P W = .ok (.value (.bool !b)) W := fun ρ hρ hρ2 => by
      have h1 := (run_nil (P := P) (T := T) hv hc W).2
      have h2 := run_eqGuard_nil (P := P) (T := T) (op := .neq) (x := x) (c := c) hv W
      simp [execOp, hρ, hρ2, h1, h2]
    exact key _ (ev_evo hx (.head _)) rfl) hob

class TyBo (P : Program) (T : TypeId) : Prop where
  under : P.underlying T = some .bool

/-- Truths compared. -/
theorem v_bq {op : BinOp} {T T' : TypeId} [h : TyBo P T] {x y : Operand} {a b c : Bool} {gd : Option Bool} {d : Nat} (hc : (op = .eql ∧ (a == b) = c) ∨ (op = .neq ∧ (!(a == b)) = c) := by first | exact .inl ⟨rfl, rfl⟩ | exact .inr ⟨rfl, rfl⟩)
    (hx : evo f σ x = some (.bool a) := by exact rfl) (hy : evo f σ y = some (.bool b) := by exact rfl) (hd : dst = some d := by exact rfl) (hn : Nat.ble (d + 1) n = true := by exact rfl) (hg : gdOf f σ all guard = some gd := by exact rfl)
    (hob : gob f σ (gdc gd) (tmpsOf [x, y]) := by first | exact trivial | exact ⟨id, trivial⟩ | exact ⟨id, id, trivial⟩ | exact ⟨andl, trivial⟩ | exact ⟨andl, andl, trivial⟩) : Val P n f σ all s ⟨dst, .binOp op T x y T', ty, pos, after, guard⟩ d gd (.bool c) :=
  .of hd hn hg (fun W _ => by
    have h0 := run_equal_bool (P := P) W T a b h.under
    have key : ∀ ρ : Operand → Value, ρ x = .bool a → ρ y = .bool b → (execOp ρ ⟨dst, .binOp op T x y T', ty, pos, after, guard⟩).run P W = .ok (.value (.bool c)) W := fun ρ hρ hρ2 => by
      rcases hc with ⟨rfl, rfl⟩ | ⟨rfl, rfl⟩
      · have h1 : (binOp .eql T (.bool a) (.bool b)).run P W = .ok (.bool (a == b)) W := by simp only [binOp]; simp [h0]
        simp [execOp, hρ, hρ2, h1, eqGuard]
      · have h1 : (binOp .neq T (.bool a) (.bool b)).run P W = .ok (.bool !(a == b)) W := by simp only [binOp]; simp [h0]
        simp only [execOp, hρ, hρ2]
        simp [h1, eqGuard]
    exact key _ (ev_evo hx (.head _)) (ev_evo hy (.tail _ (.head _)))) hob

/-- Where a part of a slice begins. -/
def slp (p : Option Addr) (cap l sz : Nat) : Option Addr := if cap = l then p else p.map (·.add (l * sz))

theorem elem_of {T e : TypeId} [h : TySlice P T e] : P.elem T = e ∧ P.underlying T = some (.slice (P.elem T)) := by
  have : P.elem T = e := by simp [Program.elem, h.under]
  exact ⟨this, by rw [this]; exact h.under⟩

theorem sl_key {T : TypeId} {x : Operand} {lo hi : Option Operand} {u r : Value} {lv hv : Option Value} {W : World} (h : (Instr.sliceAt T u lv hv none).run P W = .ok r W) (hx : evo f σ x = some u)
    (hlo : (lo.map fun y => evo f σ y) = lv.map some) (hhi : (hi.map fun y => evo f σ y) = hv.map some) :
    (execOp (ev f (degs f σ (tmpsOf (x :: (lo.toList ++ hi.toList))) σ)) ⟨dst, .slice T x lo hi none, ty, pos, after, guard⟩).run P W = .ok (.value r) W := by
  have key : ∀ ρ : Operand → Value, ρ x = u → lo.map ρ = lv → hi.map ρ = hv → (execOp ρ ⟨dst, .slice T x lo hi none, ty, pos, after, guard⟩).run P W = .ok (.value r) W := fun ρ hρ h1 h2 => by
    simp [execOp, hρ, h1, h2, h]
  refine key _ (ev_evo hx (.head _)) ?_ ?_
  · cases lo with
    | none => cases lv <;> simp_all
    | some y => cases lv with
      | none => simp at hlo
      | some v => simp only [Option.map_some, Option.some.injEq] at hlo ⊢; exact ev_evo hlo (by simp)
  · cases hi with
    | none => cases hv <;> simp_all
    | some y => cases hv with
      | none => simp at hhi
      | some v => simp only [Option.map_some, Option.some.injEq] at hhi ⊢; exact ev_evo hhi (by simp)

theorem run_sl {T e : TypeId} [h : TySlice P T e] {agg : Bool} {sz : Nat} [ht : TyA P e agg sz] (p : Option Addr) (len cap : Nat) (lo hi : Option Value) {l g : Nat} (hl : (Instr.sliceBounds true len cap lo hi none).run P = fun W => .ok (l, g, cap) W) (W : World) :
    (Instr.sliceAt T (.slice p len cap) lo hi none).run P W = .ok (.slice (slp p cap l sz) (g - l) (cap - l)) W := by
  obtain ⟨he, hu⟩ := elem_of (P := P) (T := T)
  have hsz := run_sizeOf ht.knows W
  rw [ht.sz] at hsz
  rw [run_sliceAt_slice (P := P) (w := W) T _ _ _ _ hu, run_slice_any (P := P) (w := W) T p len cap hu]
  simp [hl, he, hsz, sliced, slp]

theorem bounds_l {len cap : Nat} {kd : IntKind} {l : Int} (h : 0 ≤ l ∧ l ≤ len) : (Instr.sliceBounds true len cap (some (.int kd l)) none none).run P = fun W => .ok (l.toNat, len, cap) W := by
  funext W
  simp [Instr.sliceBounds, run_sliceBound, h.1, h.2]

theorem bounds_h {len cap : Nat} {kd : IntKind} {l : Int} (h : 0 ≤ l ∧ l ≤ cap) : (Instr.sliceBounds true len cap none (some (.int kd l)) none).run P = fun W => .ok (0, l.toNat, cap) W := by
  funext W
  simp [Instr.sliceBounds, run_sliceBound, h.1, h.2]

theorem bounds_lh {len cap : Nat} {kd kd' : IntKind} {l g : Int} (h : 0 ≤ l ∧ l ≤ g ∧ g ≤ cap) : (Instr.sliceBounds true len cap (some (.int kd l)) (some (.int kd' g)) none).run P = fun W => .ok (l.toNat, g.toNat, cap) W := by
  funext W
  have eh : (g.toNat : Int) = g := Int.toNat_of_nonneg (by omega)
  have h0 : 0 ≤ g := by omega
  simp [Instr.sliceBounds, run_sliceBound, h.1, h.2, eh, h0]

/-- x[lo:] -/
theorem v_sl {T e : TypeId} [TySlice P T e] {agg : Bool} {sz : Nat} [TyA P e agg sz] {x y : Operand} {p : Option Addr} {len cap : Nat} {kd : IntKind} {l : Int} {gd : Option Bool} {d : Nat}
    (hx : evo f σ x = some (.slice p len cap) := by exact rfl) (hy : evo f σ y = some (.int kd l) := by exact rfl) (hb : 0 ≤ l ∧ l ≤ len := by omega) (hd : dst = some d := by exact rfl) (hn : Nat.ble (d + 1) n = true := by exact rfl) (hg : gdOf f σ all guard = some gd := by exact rfl)
    (hob : gob f σ (gdc gd) (tmpsOf [x, y]) := by first | exact trivial | exact ⟨id, trivial⟩ | exact ⟨id, id, trivial⟩) : Val P n f σ all s ⟨dst, .slice T x (some y) none none, ty, pos, after, guard⟩ d gd (.slice (slp p cap l.toNat sz) (len - l.toNat) (cap - l.toNat)) :=
  .of hd hn hg (fun W _ => sl_key (lo := some y) (hi := none) (lv := some (.int kd l)) (hv := none) (run_sl p len cap _ _ (bounds_l hb) W) hx (by simp [hy]) rfl) hob

/-- x[:hi] -/
theorem v_sh {T e : TypeId} [TySlice P T e] {agg : Bool} {sz : Nat} [TyA P e agg sz] {x y : Operand} {p : Option Addr} {len cap : Nat} {kd : IntKind} {l : Int} {gd : Option Bool} {d : Nat}
    (hx : evo f σ x = some (.slice p len cap) := by exact rfl) (hy : evo f σ y = some (.int kd l) := by exact rfl) (hb : 0 ≤ l ∧ l ≤ cap := by omega) (hd : dst = some d := by exact rfl) (hn : Nat.ble (d + 1) n = true := by exact rfl) (hg : gdOf f σ all guard = some gd := by exact rfl)
    (hob : gob f σ (gdc gd) (tmpsOf [x, y]) := by first | exact trivial | exact ⟨id, trivial⟩ | exact ⟨id, id, trivial⟩) : Val P n f σ all s ⟨dst, .slice T x none (some y) none, ty, pos, after, guard⟩ d gd (.slice (slp p cap 0 sz) (l.toNat - 0) (cap - 0)) :=
  .of hd hn hg (fun W _ => sl_key (lo := none) (hi := some y) (lv := none) (hv := some (.int kd l)) (run_sl p len cap _ _ (bounds_h hb) W) hx rfl (by simp [hy])) hob

/-- x[lo:hi] -/
theorem v_slh {T e : TypeId} [TySlice P T e] {agg : Bool} {sz : Nat} [TyA P e agg sz] {x y z : Operand} {p : Option Addr} {len cap : Nat} {kd kd' : IntKind} {l g : Int} {gd : Option Bool} {d : Nat}
    (hx : evo f σ x = some (.slice p len cap) := by exact rfl) (hy : evo f σ y = some (.int kd l) := by exact rfl) (hz : evo f σ z = some (.int kd' g) := by exact rfl) (hb : 0 ≤ l ∧ l ≤ g ∧ g ≤ cap := by omega) (hd : dst = some d := by exact rfl) (hn : Nat.ble (d + 1) n = true := by exact rfl) (hg : gdOf f σ all guard = some gd := by exact rfl)
    (hob : gob f σ (gdc gd) (tmpsOf [x, y, z]) := by first | exact trivial | exact ⟨id, trivial⟩ | exact ⟨id, id, trivial⟩) : Val P n f σ all s ⟨dst, .slice T x (some y) (some z) none, ty, pos, after, guard⟩ d gd (.slice (slp p cap l.toNat sz) (g.toNat - l.toNat) (cap - l.toNat)) :=
  .of hd hn hg (fun W _ => sl_key (lo := some y) (hi := some z) (lv := some (.int kd l)) (hv := some (.int kd' g)) (run_sl p len cap _ _ (bounds_lh hb) W) hx (by simp [hy]) (by simp [hz])) hob

theorem getElem?_part {xs : List Value} {a m j : Nat} {v : Value} (h : ((xs.drop a).take m)[j]? = some v) : xs[a + j]? = some v ∧ j < m := by
  rw [List.getElem?_take] at h
  split at h
  · rename_i hj; rw [List.getElem?_drop] at h; exact ⟨h, hj⟩
  · simp at h

theorem Sl.part {p : Option Addr} {len sz : Nat} {xs : List Value} (h : Sl w0 F p len sz xs) (cap : Nat) {l g : Nat} (h1 : l ≤ g) (h2 : g ≤ len) (h3 : len ≤ cap) : Sl w0 F (slp p cap l sz) (g - l) sz ((xs.drop (l * sz)).take ((g - l) * sz)) := by
  have hlen := h.len
  have hle : g * sz ≤ len * sz := Nat.mul_le_mul_right _ h2
  have hle2 : l * sz ≤ g * sz := Nat.mul_le_mul_right _ h1
  refine ⟨by rw [List.length_take, List.length_drop, Nat.sub_mul]; omega, fun hp => ?_, fun j v hj => ?_⟩
  · have hpe := h.ptr (by omega)
    unfold slp
    split
    · omega
    · rw [hpe]; simp only [Option.map_some, add_none]; simp [pb, po]
  · obtain ⟨h4, h5⟩ := getElem?_part hj
    have hpos : 0 < g - l := by
      rcases Nat.eq_zero_or_pos (g - l) with h0 | h0
      · rw [h0] at h5; simp at h5
      · exact h0
    have hpe := h.ptr (by omega)
    have hr := h.rd _ _ h4
    unfold slp
    split
    · omega
    · rw [hpe]
      simp only [Option.map_some, add_none, pb, po]
      rw [hpe] at hr
      simp only [pb, po] at hr
      rw [Nat.add_assoc]; exact hr
/-- The value that was handed on last, written otherwise. -/
theorem r_re {d : Nat} {v v' : Value} (he : v = v') (h : Wk P n Q k f ((d, .v v') :: σ) s) : Wk P n Q k f ((d, .v v) :: σ) s := he ▸ h

/-- What a temporary holds, written otherwise. -/
theorem r_as (d : Nat) {v' : Value} (he : (look f σ d).val = v') (h : Wk P n Q k f ((d, .v v') :: σ) s) (hdn : Nat.beq d n = false := by exact rfl) : Wk P n Q k f σ s := by
  intro a w hr hs
  refine h a w ⟨hr.size, by rw [look, hdn]; exact hr.defers, fun t => ?_⟩ hs
  rw [look_cons]
  by_cases ht : d = t
  · subst ht; rw [if_pos rfl, hr.val]; exact he
  · rw [if_neg ht]; exact hr.val t

/-! ### Errors -/

/-- The errors that the program names: where they stand, what they are. -/
structure Glob (w : World) (F : List Nat) (E : Nat → Value) : Prop where
  rd : ∀ i, i < 6 → Rd w F i 0 (E i)
  some : ∀ i, nilOf 0 (E i) = .some false
  ptr : ∀ i, i < 6 → ∃ (a : Addr) (c : Array Value) (T : TypeId), E i = .iface 347 (.pointer (.some a)) ∧ a.block < w.heap.size ∧ a.block ∉ F ∧ w.heap[a.block]? = .some (.cells c T (0, 0))
  ne : ∀ i j, i < 6 → j < 6 → E i = E j → i = j

theorem Glob.now {E : Nat → Value} {w : World} (h : Glob w0 F E) (hs : (St.mk w0 F L).holds w) : Glob w [] E := by
  refine ⟨fun i hi => Rd.now (s := ⟨w0, F, L⟩) hs (h.rd i hi), h.some, fun i hi => ?_, h.ne⟩
  obtain ⟨a, c, T, h1, h2, h3, h4⟩ := h.ptr i hi
  exact ⟨a, c, T, h1, Nat.lt_of_lt_of_le h2 hs.size, by simp, (hs.old _ h2 h3).trans h4⟩

/-- What is so of the world at the beginning, and of blocks that the call leaves alone, is so when another call is made. -/
theorem Glob.at {E : Nat → Value} {w : World} (h : Glob w0 F E) (hs : (St.mk w0 F L).holds w) {F' : List Nat} (hF : ∀ b, b ∈ F' → b ∈ L.filterMap En.blk) : Glob w F' E := by
  refine ⟨fun i hi => ?_, h.some, fun i hi => ?_, h.ne⟩
  · have h1 := h.rd i hi
    refine ⟨Nat.lt_of_lt_of_le h1.1 hs.size, fun hm => ?_, hs.rd (s := ⟨w0, F, L⟩) h1⟩
    obtain ⟨e, he, hb⟩ := List.mem_filterMap.1 (hF i hm)
    exact h1.2.1 (hs.fp e i he hb h1.1)
  · obtain ⟨a, c, T, h1, h2, h3, h4⟩ := h.ptr i hi
    refine ⟨a, c, T, h1, Nat.lt_of_lt_of_le h2 hs.size, fun hm => ?_, (hs.old _ h2 h3).trans h4⟩
    obtain ⟨e, he, hb⟩ := List.mem_filterMap.1 (hF _ hm)
    exact h3 (hs.fp e _ he hb h2)
def errV (E : Nat → Value) : Option Nat → Value
  | none => .nilIface
  | some i => E i

theorem Glob.err {E : Nat → Value} (h : Glob w0 F E) (e : Option Nat) : nilOf 0 (errV E e) = .some e.isNone := by
  cases e with
  | none => rfl
  | some i => exact h.some i
end Go.Cf

