/-
  Contracts: the store.
-/
import Derived.Test.YtdjgkbphbffleaaGreatDoorA09
import Derived.Test.YtdjgkbphbffleaaGreatDoorA10
import Derived.Laws.StructEq
namespace Go.Cf

structure Kz where
  mag : Int
  page : Int
  sub : Int
  deriving DecidableEq

def kzC (k : Kz) : List Value := [.int .i64 k.mag, .int .i64 k.page, .int .i64 k.sub]
abbrev kzV (k : Kz) : Value := .agg (kzC k).toArray
def Pl.z (p : Pl) : Kz := ⟨p.mag, p.page, p.sub⟩
theorem plC_z (p : Pl) : plC p = kzC p.z := rfl

/-- A type of places. -/
class TyKz (P : Program) (T : TypeId) (I : outParam TypeId) : Prop where
  fields : (match P.underlying T with | some (.struct l) => l.toList.map (fun f => (f.name == "_", f.type, f.offset)) | _ => []) = [(false, I, 0), (false, I, 1), (false, I, 2)]
  int : P.underlying I = some (.int .i64)
  info : knows P I = true
  stood : P.stoodInHeld T = false
  guard : P.eqGuardType P.depth T = false

variable {P : Program} {T I : TypeId}

theorem TyKz.under [h : TyKz P T I] : ∃ f0 f1 f2 : Field, P.underlying T = some (.struct #[f0, f1, f2]) ∧ (f0.name ≠ "_" ∧ f0.type = I ∧ f0.offset = 0) ∧ (f1.name ≠ "_" ∧ f1.type = I ∧ f1.offset = 1) ∧ (f2.name ≠ "_" ∧ f2.type = I ∧ f2.offset = 2) := by
  have hf := h.fields
  cases hu : P.underlying T with
  | none => simp [hu] at hf
  | some u =>
    cases u <;> simp only [hu] at hf <;> try (cases hf; done)
    rename_i l
    obtain ⟨l⟩ := l
    simp only at hf
    have hlen := congrArg List.length hf
    simp only [List.length_map, List.length_cons, List.length_nil] at hlen
    obtain ⟨f0, f1, f2, rfl⟩ : ∃ f0 f1 f2, l = [f0, f1, f2] := by
      cases l with
      | nil => simp at hlen
      | cons a l => cases l with
        | nil => simp at hlen
        | cons b l => cases l with
          | nil => simp at hlen
          | cons c l => cases l with
            | nil => exact ⟨a, b, c, rfl⟩
            | cons d l => simp at hlen
    simp only [List.map_cons, List.map_nil, List.cons.injEq, Prod.mk.injEq, beq_eq_false_iff_ne, and_true] at hf
    exact ⟨f0, f1, f2, rfl, hf.1, hf.2.1, hf.2.2⟩

theorem run_part_int [h : TyKz P T I] (k : Kz) (w : World) : (part I (kzC k).toArray 0).run P w = .ok (.int .i64 k.mag) w ∧ (part I (kzC k).toArray 1).run P w = .ok (.int .i64 k.page) w ∧ (part I (kzC k).toArray 2).run P w = .ok (.int .i64 k.sub) w := by
  have ha : (isAgg I).run P w = .ok false w := by rw [run_isAgg h.info]; simp [aggOf, h.int]
  refine ⟨?_, ?_, ?_⟩ <;> simp [part, ha, kzC]

theorem run_eqKz [h : TyKz P T I] (a b : Kz) (d : Nat) (w : World) : (Op.equalIn (d + 2) T (kzV a) (kzV b)).run P w = .ok (decide (a = b)) w := by
  obtain ⟨f0, f1, f2, hu, ⟨n0, t0, o0⟩, ⟨n1, t1, o1⟩, n2, t2, o2⟩ := h.under
  have hfo : P.fieldsOf T = #[f0, f1, f2] := by simp [Program.fieldsOf, hu]
  obtain ⟨a0, a1, a2⟩ := run_part_int (P := P) (T := T) a w
  obtain ⟨b0, b1, b2⟩ := run_part_int (P := P) (T := T) b w
  have hs : (f0.name ≠ "_") = True := eq_true n0
  have hs1 : (f1.name ≠ "_") = True := eq_true n1
  have hs2 : (f2.name ≠ "_") = True := eq_true n2
  rw [run_equalIn_struct w (d + 1) T _ _ (by rw [hfo]; exact hu) h.stood, hfo]
  have hq : ∀ x y : Int, (Op.equalIn (d + 1) I (.int .i64 x) (.int .i64 y)).run P w = .ok (x == y) w := fun x y => run_equalIn_int w d I .i64 .i64 x y h.int
  simp only [Op.eqFields, hs, hs1, hs2, if_true, t0, t1, t2, o0, o1, o2, Sem.run_bind, a0, b0, Result.andThen_ok, hq]
  cases a with
  | mk am ap a3 =>
  cases b with
  | mk bm bp bs =>
  simp only [Kz.mk.injEq]
  by_cases h0 : am = bm
  · by_cases h1 : ap = bp
    · by_cases h2 : a3 = bs
      · subst h0 h1 h2; simp_all
      · subst h0 h1; simp_all
    · subst h0; simp_all
  · simp_all

theorem run_checkKz [h : TyKz P T I] (e : Bool) (k : Kz) (d : Nat) (w : World) : (Instr.checkKey e (d + 2) T (kzV k)).run P w = .ok () w := by
  obtain ⟨f0, f1, f2, hu, ⟨n0, t0, o0⟩, ⟨n1, t1, o1⟩, n2, t2, o2⟩ := h.under
  obtain ⟨a0, a1, a2⟩ := run_part_int (P := P) (T := T) k w
  have hc : ∀ x : Int, (Instr.checkKey e (d + 1) I (.int .i64 x)).run P w = .ok () w := fun x => by simp [Instr.checkKey, underlying, h.int]
  have hs : (f0.name ≠ "_") = True := eq_true n0
  have hs1 : (f1.name ≠ "_") = True := eq_true n1
  have hs2 : (f2.name ≠ "_") = True := eq_true n2
  unfold Instr.checkKey
  simp only [underlying, hu, Sem.run_bind, run_program, Result.andThen_ok, Sem.run_pure]
  simp [t0, t1, t2, o0, o1, o2, a0, a1, a2, hc, n0, n1, n2]

/-- The entries of a map, as keys and values. -/
def kvs (es : List MapEntry) : List (Value × Value) := es.map fun e => (e.key, e.val)
def kvC (l : List (Kz × Value)) : List (Value × Value) := l.map fun x => (kzV x.1, x.2)

def idxOf (l : List (Kz × Value)) (k : Kz) : Option Nat := match l with
  | [] => none
  | x :: r => if k = x.1 then some 0 else (idxOf r k).map (· + 1)
def valOf (l : List (Kz × Value)) (k : Kz) : Option Value := match l with
  | [] => none
  | x :: r => if k = x.1 then some x.2 else valOf r k

theorem run_findAsking [h : TyKz P T I] (k : Kz) (w : World) : ∀ (es : List MapEntry) (l : List (Kz × Value)) (i : Nat), kvs es = kvC l →
    (Instr.findAsking T (kzV k) es i).run P w = .ok ((idxOf l k).bind fun j => (valOf l k).map fun v => (i + j, v)) w := by
  intro es
  induction es with
  | nil =>
    intro l i he
    cases l with
    | nil => rfl
    | cons x r => simp [kvs, kvC] at he
  | cons e es ih =>
    intro l i he
    cases l with
    | nil => simp [kvs, kvC] at he
    | cons x r =>
      simp only [kvs, kvC, List.map_cons, List.cons.injEq, Prod.mk.injEq] at he
      obtain ⟨⟨hk, hv⟩, hr⟩ := he
      have hq := run_eqKz (P := P) (T := T) k x.1 9998 w
      simp only [Instr.findAsking, hk, Op.equal, Op.maxDepth, Sem.run_bind, hq, Result.andThen_ok, idxOf, valOf]
      by_cases hx : k = x.1
      · simp [hx, hv]
      · simp only [hx, decide_false, Bool.false_eq_true, if_false]
        rw [ih r (i + 1) hr]
        cases h1 : idxOf r k with
        | none => simp
        | some j =>
          cases h2 : valOf r k with
          | none => simp
          | some v => simp; omega

theorem run_findKz [h : TyKz P T I] (k : Kz) (es : List MapEntry) (l : List (Kz × Value)) (he : kvs es = kvC l) (w : World) :
    (Instr.findKey T (kzV k) es).run P w = .ok ((idxOf l k).bind fun j => (valOf l k).map fun v => (j, v)) w := by
  obtain ⟨f0, f1, f2, hu, _⟩ := h.under
  have := run_findAsking (P := P) (T := T) k w es l 0 he
  cases es with
  | nil =>
    cases l with
    | nil => simp [Instr.findKey, underlying, hu, Instr.findNow, idxOf]
    | cons x r => simp [kvs, kvC] at he
  | cons e es =>
    simp only [Instr.findKey, underlying, hu, Sem.run_bind, run_program, Result.andThen_ok, Sem.run_pure, Instr.findNow, Instr.sameNow]
    rw [this]
    simp

theorem idx_val (l : List (Kz × Value)) (k : Kz) : (idxOf l k).isSome = (valOf l k).isSome := by
  induction l with
  | nil => rfl
  | cons x r ih => simp only [idxOf, valOf]; split <;> simp [ih]

/-- All but a key. -/
def dropK (l : List (Kz × Value)) (k : Kz) : List (Kz × Value) := l.filter fun x => !decide (k = x.1)
theorem dropK_miss {l : List (Kz × Value)} {k : Kz} (h : idxOf l k = none) : dropK l k = l := by
  induction l with
  | nil => rfl
  | cons x r ih =>
    simp only [idxOf] at h
    split at h
    · cases h
    · rename_i hx
      simp only [Option.map_eq_none_iff] at h
      have := ih h
      simp only [dropK] at this ⊢
      rw [List.filter_cons_of_pos (by simp [hx]), this]
theorem notin_idx {l : List (Kz × Value)} {k : Kz} : idxOf l k = none ↔ k ∉ l.map (·.1) := by
  induction l with
  | nil => simp [idxOf]
  | cons x r ih =>
    simp only [idxOf, List.map_cons, List.mem_cons, not_or]
    split
    · rename_i hx; simp [hx]
    · rename_i hx; simp [ih, hx]
theorem dropK_hit {l : List (Kz × Value)} {k : Kz} {i : Nat} (hn : (l.map (·.1)).Nodup) (h : idxOf l k = some i) : dropK l k = l.eraseIdx i := by
  induction l generalizing i with
  | nil => simp [idxOf] at h
  | cons x r ih =>
    simp only [List.map_cons, List.nodup_cons] at hn
    simp only [idxOf] at h
    split at h
    · rename_i hx
      simp only [Option.some.injEq] at h
      subst h
      have h2 : idxOf r k = none := notin_idx.2 (by rw [hx]; exact hn.1)
      have h3 := dropK_miss h2
      simp only [dropK] at h3 ⊢
      rw [List.filter_cons_of_neg (by simp [hx]), h3]; rfl
    · rename_i hx
      simp only [Option.map_eq_some_iff] at h
      obtain ⟨j, hj, rfl⟩ := h
      have := ih hn.2 hj
      simp only [dropK] at this ⊢
      rw [List.filter_cons_of_pos (by simp [hx]), this]; rfl
theorem map_erase {α β : Type} (g : α → β) : ∀ (l : List α) (i : Nat), (l.eraseIdx i).map g = (l.map g).eraseIdx i
  | [], i => by simp
  | x :: r, 0 => by simp
  | x :: r, i + 1 => by simp [map_erase g r i]
theorem kvC_erase (l : List (Kz × Value)) (i : Nat) : kvC (l.eraseIdx i) = (kvC l).eraseIdx i := by simp only [kvC]; exact map_erase _ _ _
theorem kvs_erase (l : List MapEntry) (i : Nat) : kvs (l.eraseIdx i) = (kvs l).eraseIdx i := by simp only [kvs]; exact map_erase _ _ _

class TyMap (P : Program) (T : TypeId) (k e : outParam TypeId) : Prop where
  under : P.underlying T = some (.map k e)

section
variable {n : Nat} {Q : Exit → Act → World → Prop} {k : List It} {f : Nat → Value} {σ : Bd} {w0 : World} {F : List Nat} {L : Hp} {dst : Option Tmp} {ty : TypeId} {pos : String} {after : Array Edge} {guard : Option (Nat × Bool)} {K : Bd → St → Prop}

/-- 'make' of a map. -/
theorem f_mm {d : Nat} (h : ∀ b, K ((d, .v (.map (some b))) :: σ) ⟨w0, F, .map b [] 0 :: L⟩) (hd : dst = some d := by exact rfl) (hn : Nat.ble (d + 1) n = true := by exact rfl) (hg : guard = none := by exact rfl) :
    Ef P n f σ ⟨w0, F, L⟩ ⟨dst, .makeMap T none, ty, pos, after, guard⟩ K :=
  .of hd hn hg fun a w hrep hs => by
    refine ⟨_, w.alloc (.map #[] 0), _, ?_, hs.cons (e' := .map w.heap.size [] 0) rfl rfl rfl (by simp) (fun k' hk => aold w _ k' hk) (heap_alloc_new w _) (fun b hb => by simp only [En.blk, Option.some.injEq] at hb; omega), h w.heap.size⟩
    have := run_newObj (P := P) (w := w) (.map #[] 0)
    simp [execOp, Instr.makeMap]

/-- A map's value. -/
theorem v_lk {s : St} {all : List Oper} {E e : TypeId} [hm : TyMap P T E e] [TyKz P E I] {z : List Value} [hz : TyZ P e z] {x y : Operand} {b clock : Nat} {kk : Kz} {es : List MapEntry} {l : List (Kz × Value)} {gd : Option Bool} {d : Nat} {v0 : Value}
    (hmem : En.map b es clock ∈ s.L) (he : kvs es = kvC l) (hv0 : ∀ v, zeroOf P e = some v → v = v0)
    (hx : evo f σ x = some (.map (some b)) := by exact rfl) (hy : evo f σ y = some (kzV kk) := by exact rfl) (hd : dst = some d := by exact rfl) (hn : Nat.ble (d + 1) n = true := by exact rfl) (hg : gdOf f σ all guard = some gd := by exact rfl)
    (hob : gob f σ (gdc gd) (tmpsOf [x, y]) := by first | exact trivial | exact ⟨id, trivial⟩ | exact ⟨id, id, trivial⟩) :
    Val P n f σ all s ⟨dst, .lookup T x y true, ty, pos, after, guard⟩ d gd (.tuple #[(valOf l kk).getD v0, .bool (valOf l kk).isSome]) :=
  .of hd hn hg (fun W hW => by
    have hb : W.heap[b]? = some (.map es.toArray clock) := hW.own _ hmem
    have hck := run_checkKz (P := P) (T := E) es.isEmpty kk 9998 W
    have hf := run_findKz (P := P) (T := E) kk es l he W
    have hi := idx_val l kk
    have hgo : (getObj b).run P W = .ok (.map es.toArray clock) W := by simp [getObj, Sem.run, hb]
    have hzz : ∃ v, (zeroValue e).run P W = .ok v W ∧ v = v0 := by
      have h1 := hz.zero
      cases hzo : zeroOf P e with
      | none => rw [hzo] at h1; simp at h1
      | some v =>
        have h2 := hv0 v hzo
        refine ⟨v, ?_, h2⟩
        simp only [zeroOf] at hzo
        cases hi : P.info? e with
        | none => simp [hi] at hzo
        | some i => simp only [hi, Option.bind_some] at hzo; simp [zeroValue, typeInfo, hi, hzo]
    obtain ⟨zv, hzv, rfl⟩ := hzz
    have key : ∀ ρ : Operand → Value, ρ x = .map (some b) → ρ y = kzV kk → (execOp ρ ⟨dst, .lookup T x y true, ty, pos, after, guard⟩).run P W = .ok (.value (.tuple #[(valOf l kk).getD zv, .bool (valOf l kk).isSome])) W := fun ρ hρ hρ2 => by
      have hck' : (Instr.checkKey es.toArray.isEmpty 10000 E (kzV kk)).run P W = .ok () W := run_checkKz (P := P) (T := E) es.toArray.isEmpty kk 9998 W
      simp only [execOp, hρ, hρ2, Instr.lookup, underlying, hm.under, Sem.run_bind, run_program, Result.andThen_ok, Sem.run_pure, hgo, hck', hf]
      cases h1 : idxOf l kk with
      | none =>
        rw [h1] at hi
        cases h2 : valOf l kk with
        | none => simp [hzv]
        | some v => rw [h2] at hi; simp at hi
      | some j =>
        rw [h1] at hi
        cases h2 : valOf l kk with
        | none => rw [h2] at hi; simp at hi
        | some v => simp
    exact key _ (ev_evo hx (.head _)) (ev_evo hy (.tail _ (.head _)))) hob

/-- A map's value, written otherwise. -/
theorem v_lke {s : St} {all : List Oper} {E e : TypeId} [hm : TyMap P T E e] [TyKz P E I] {z : List Value} [hz : TyZ P e z] {x y : Operand} {b clock : Nat} {kk : Kz} {es : List MapEntry} {l : List (Kz × Value)} {gd : Option Bool} {d : Nat} {v0 v1 : Value} {b1 : Bool}
    (hmem : En.map b es clock ∈ s.L) (he : kvs es = kvC l) (hv0 : ∀ v, zeroOf P e = some v → v = v0) (hv1 : (valOf l kk).getD v0 = v1) (hv2 : (valOf l kk).isSome = b1)
    (hx : evo f σ x = some (.map (some b)) := by exact rfl) (hy : evo f σ y = some (kzV kk) := by exact rfl) (hd : dst = some d := by exact rfl) (hn : Nat.ble (d + 1) n = true := by exact rfl) (hg : gdOf f σ all guard = some gd := by exact rfl)
    (hob : gob f σ (gdc gd) (tmpsOf [x, y]) := by first | exact trivial | exact ⟨id, trivial⟩ | exact ⟨id, id, trivial⟩) :
    Val P n f σ all s ⟨dst, .lookup T x y true, ty, pos, after, guard⟩ d gd (.tuple #[v1, .bool b1]) := by
  have h := v_lk (P := P) (n := n) (f := f) (σ := σ) (dst := dst) (ty := ty) (pos := pos) (after := after) (guard := guard) (s := s) (all := all) (T := T) hmem he hv0 hx hy hd hn hg hob
  rw [hv1, hv2] at h
  exact h

theorem St.holds.setMap {w : World} {b c c' : Nat} {es es' : List MapEntry} {L' : Hp} (hs : (St.mk w0 F L).holds w) (hu : Upd L (.map b es c) (.map b es' c') L') : (St.mk w0 F L').holds { w with heap := w.heap.setIfInBounds b (.map es'.toArray c') } := by
  have hb : w.heap[b]? = some (.map es.toArray c) := hs.own _ hu.mem
  have hlt : b < w.heap.size := (Array.getElem?_eq_some_iff.1 hb).1
  refine hs.upd hu rfl rfl rfl (by simp) (fun k' _ hk => ?_) ?_ (fun b' hb' => .inl hb')
  · have : b ≠ k' := fun e => hk (by simp [En.blk, e])
    simp [this]
  · simp [En.at, hlt]

/-- 'delete' of a key. -/
theorem f_dl {T2 E e : TypeId} [hm : TyMap P T E e] [TyKz P E I] {x y : Operand} {b clock : Nat} {kk : Kz} {es : List MapEntry} (l : List (Kz × Value)) (he : kvs es = kvC l) (hnd : (l.map (·.1)).Nodup) {L' : List MapEntry → Hp}
    (h : ∀ es', kvs es' = kvC (dropK l kk) → K σ ⟨w0, F, L' es'⟩)
    (hx : evo f σ x = some (.map (some b)) := by exact rfl) (hy : evo f σ y = some (kzV kk) := by exact rfl)
    (hu : ∀ es', Upd L (.map b es clock) (.map b es' clock) (L' es') := by intro es'; repeat (first | exact Upd.head | apply Upd.tail)) (hcx : (sv f σ x).cnd = true := by exact rfl) (hcy : (sv f σ y).cnd = true := by exact rfl) (hd : dst = none := by exact rfl) (hg : guard = none := by exact rfl) :
    Ef P n f σ ⟨w0, F, L⟩ ⟨dst, .call { callee := .builtin .delete, args := #[x, y], argTypes := #[T, T2] }, ty, pos, after, guard⟩ K := by
  subst hd hg
  refine ⟨rfl, fun Q a w hrep hs N hN => ?_⟩
  unfold Oper.wp
  have hb : w.heap[b]? = some (.map es.toArray clock) := hs.own _ (hu es).mem
  have hck : (Instr.checkKey es.toArray.isEmpty 10000 E (kzV kk)).run P w = .ok () w := run_checkKz (P := P) (T := E) es.toArray.isEmpty kk 9998 w
  have hck2 : (Instr.checkKey es.isEmpty 10000 E (kzV kk)).run P w = .ok () w := run_checkKz (P := P) (T := E) es.isEmpty kk 9998 w
  have hf := run_findKz (P := P) (T := E) kk es l he w
  have hi := idx_val l kk
  have hgo : (getObj b).run P w = .ok (.map es.toArray clock) w := by simp [getObj, Sem.run, hb]
  have hso : ∀ o, (setObj b o).run P w = .ok () { w with heap := w.heap.setIfInBounds b o } := fun o => by simp [setObj, Sem.run, hb]
  have main : ∃ es', kvs es' = kvC (dropK l kk) ∧ (execOp a.eval (⟨none, .call { callee := .builtin .delete, args := #[x, y], argTypes := #[T, T2] }, ty, pos, after, none⟩ : Oper)).run P w = .ok (.value (.tuple #[])) { w with heap := w.heap.setIfInBounds b (.map es'.toArray clock) } := by
    have hrun : (execOp a.eval (⟨none, .call { callee := .builtin .delete, args := #[x, y], argTypes := #[T, T2] }, ty, pos, after, none⟩ : Oper)).run P w = ((Builtin.delete_ #[T, T2] ty #[.map (some b), kzV kk]).run P w).andThen (fun v w' => .ok (.value v) w') := by
      simp [execOp, resolve, invoke, builtin, hrep.eval, ev_of_evo hx hcx, ev_of_evo hy hcy]
    rw [hrun]
    cases h1 : idxOf l kk with
    | none =>
      refine ⟨es, by rw [dropK_miss h1]; exact he, ?_⟩
      rw [h1] at hf
      simp [Builtin.delete_, underlying, hm.under, hgo, hck2, hf, hso]
    | some i =>
      refine ⟨es.eraseIdx i, by rw [dropK_hit hnd h1, kvC_erase, kvs_erase, he], ?_⟩
      rw [h1] at hi hf
      cases h2 : valOf l kk with
      | none => rw [h2] at hi; simp at hi
      | some v =>
        rw [h2] at hf
        simp only [Option.bind_some, Option.map_some] at hf
        simp [Builtin.delete_, underlying, hm.under, hgo, hck2, hf, hso]
  obtain ⟨es', he', hr⟩ := main
  rw [hr]
  simp only [Oper.upon]
  exact hN _ _ _ _ (h es' he') (hrep.put_none _) (hs.setMap (hu es'))

/-- A new key. -/
theorem f_mu {E e : TypeId} [hm : TyMap P T E e] [TyKz P E I] {x y z : Operand} {b clock : Nat} {kk : Kz} {v : Value} {es : List MapEntry} (l : List (Kz × Value)) (he : kvs es = kvC l) (hno : idxOf l kk = none) {L' : List MapEntry → Hp}
    (h : ∀ es', kvs es' = kvC (l ++ [(kk, v)]) → K σ ⟨w0, F, L' es'⟩)
    (hx : evo f σ x = some (.map (some b)) := by exact rfl) (hy : evo f σ y = some (kzV kk) := by exact rfl) (hz : evo f σ z = some v := by exact rfl)
    (hu : ∀ es', Upd L (.map b es clock) (.map b es' (clock + 1)) (L' es') := by intro es'; repeat (first | exact Upd.head | apply Upd.tail)) (hcx : (sv f σ x).cnd = true := by exact rfl) (hcy : (sv f σ y).cnd = true := by exact rfl) (hcz : (sv f σ z).cnd = true := by exact rfl) (hd : dst = none := by exact rfl) (hg : guard = none := by exact rfl) :
    Ef P n f σ ⟨w0, F, L⟩ ⟨dst, .mapUpdate T x y z, ty, pos, after, guard⟩ K := by
  subst hd hg
  refine ⟨rfl, fun Q a w hrep hs N hN => ?_⟩
  unfold Oper.wp
  have hb : w.heap[b]? = some (.map es.toArray clock) := hs.own _ (hu es).mem
  have hck : (Instr.checkKey false 10000 E (kzV kk)).run P w = .ok () w := run_checkKz (P := P) (T := E) false kk 9998 w
  have hf := run_findKz (P := P) (T := E) kk es l he w
  have hgo : (getObj b).run P w = .ok (.map es.toArray clock) w := by simp [getObj, Sem.run, hb]
  have hso : ∀ o, (setObj b o).run P w = .ok () { w with heap := w.heap.setIfInBounds b o } := fun o => by simp [setObj, Sem.run, hb]
  have hr : (execOp a.eval (⟨none, .mapUpdate T x y z, ty, pos, after, none⟩ : Oper)).run P w = .ok .skip { w with heap := w.heap.setIfInBounds b (.map (es ++ [({ key := kzV kk, val := v, born := clock } : MapEntry)]).toArray (clock + 1)) } := by
    rw [hno] at hf
    simp [execOp, hrep.eval, ev_of_evo hx hcx, ev_of_evo hy hcy, ev_of_evo hz hcz, Instr.mapUpdate, underlying, hm.under, hgo, hck, hf, hso]
  rw [hr]
  simp only [Oper.upon]
  refine hN _ _ _ _ (h _ ?_) (hrep.put_none _) (hs.setMap (hu _))
  simp only [kvs, kvC, List.map_append, List.map_cons, List.map_nil] at he ⊢
  rw [he]
end
end Go.Cf

namespace Go.Cf

def keysC (l : List Kz) : List Value := l.flatMap kzC
theorem keysC_length (l : List Kz) : (keysC l).length = l.length * 3 := by
  induction l with
  | nil => rfl
  | cons t r ih => simp only [keysC, List.flatMap_cons, List.length_append] at ih ⊢; rw [ih]; simp only [kzC, List.length_cons, List.length_nil]; omega
theorem keysC_append (a b : List Kz) : keysC (a ++ b) = keysC a ++ keysC b := by simp [keysC]
theorem keysC_plain (l : List Kz) : ∀ u ∈ keysC l, plain u = true := by
  intro u hu
  simp only [keysC, List.mem_flatMap] at hu
  obtain ⟨t, _, ht⟩ := hu
  simp only [kzC, List.mem_cons, List.not_mem_nil, or_false] at ht
  rcases ht with rfl | rfl | rfl <;> rfl
theorem keysC_split (a b : List Kz) (x : Kz) {off : Nat} (ho : off = a.length * 3) : sub (keysC (a ++ x :: b)) off 3 = some (kzC x) := by
  subst ho
  have h1 : keysC (a ++ x :: b) = keysC a ++ (kzC x ++ keysC b) := by simp [keysC]
  rw [h1]
  exact sub_at (keysC_length a).symm rfl
theorem keysC_get {l : List Kz} {i off : Nat} {x : Kz} (h : l[i]? = some x) (ho : off = i * 3) : sub (keysC l) off 3 = some (kzC x) := by
  obtain ⟨h1, h2⟩ := List.getElem?_eq_some_iff.1 h
  have h3 : l = l.take i ++ x :: l.drop (i + 1) := by
    conv => lhs; rw [← List.take_append_drop i l, List.drop_eq_getElem_cons h1, h2]
  rw [h3]
  exact keysC_split _ _ _ (by rw [List.length_take, ho]; congr 1; omega)
theorem keysC_set (a b : List Kz) (x y : Kz) {off : Nat} (ho : off = a.length * 3) : splice (keysC (a ++ x :: b)) off (kzC y) = keysC (a ++ y :: b) := by
  subst ho
  have h1 : ∀ z, keysC (a ++ z :: b) = keysC a ++ (kzC z ++ keysC b) := fun z => by simp [keysC]
  rw [h1, h1]
  exact spl_at (keysC_length a).symm rfl
theorem keysC_take (l : List Kz) (n : Nat) : (keysC l).take (n * 3) = keysC (l.take n) := by
  induction l generalizing n with
  | nil => simp [keysC]
  | cons t r ih =>
    cases n with
    | zero => simp [keysC]
    | succ n =>
      have := ih n
      simp only [keysC, List.flatMap_cons, List.take_succ_cons] at this ⊢
      rw [show (n + 1) * 3 = (kzC t).length + n * 3 from by simp [kzC]; omega, List.take_append, List.take_of_length_le (by omega), show (kzC t).length + n * 3 - (kzC t).length = n * 3 from by omega, this]
theorem kzC_length (k : Kz) : (kzC k).length = 3 := rfl

section
variable {P : Program} {n : Nat} {Q : Exit → Act → World → Prop} {k : List It} {f : Nat → Value} {σ : Bd} {w0 : World} {F : List Nat} {L : Hp} {s : St} {all : List Oper} {dst : Option Tmp} {ty : TypeId} {pos : String} {after : Array Edge} {guard : Option (Nat × Bool)} {K : Bd → St → Prop}

/-- A struct or an array out of one's own slice. -/
theorem v_lrp {T off : Nat} {x : Operand} {sz : Nat} [TyA P T true sz] {p : Option Addr} {m cap sz' : Nat} {xs l' : List Value} {T' : TypeId} {gd : Option Bool} {d : Nat}
    (hx : evo f σ x = some (.pointer (some ⟨pb p, po p + off, none⟩)) := by exact rfl) (hm : En.row p m cap xs T' sz' ∈ s.L := by repeat (first | exact List.Mem.head _ | apply List.Mem.tail)) (hv : sub xs off sz = some l' := by first | exact rfl | assumption) (hd : dst = some d := by exact rfl) (hn : Nat.ble (d + 1) n = true := by exact rfl) (hg : gdOf f σ all guard = some gd := by exact rfl) (hob : gob f σ (gdc gd) (tmpsOf [x]) := by first | exact trivial | exact ⟨id, trivial⟩) :
    Val P n f σ all s ⟨dst, .load T x, ty, pos, after, guard⟩ d gd (.agg l'.toArray) :=
  .of hd hn hg (fun _ hW => ld_key (run_loadVar_a (sub_get hv).1 (fun j v hj => by
    have := (row_cell (hW.own _ hm) ((sub_get hv).2 j v hj)).2.2
    rw [Nat.add_assoc]; exact this)) hx) hob

/-- A struct or an array out of a slice that came in. -/
theorem v_lsa {T off : Nat} {x : Operand} {sz : Nat} [TyA P T true sz] {p : Option Addr} {m sz' : Nat} {xs l' : List Value} {gd : Option Bool} {d : Nat} (hs : Sl s.w0 s.F p m sz' xs) (hv : sub xs off sz = some l')
    (hx : evo f σ x = some (.pointer (some ⟨pb p, po p + off, none⟩)) := by exact rfl) (hd : dst = some d := by exact rfl) (hn : Nat.ble (d + 1) n = true := by exact rfl) (hg : gdOf f σ all guard = some gd := by exact rfl) (hob : gob f σ (gdc gd) (tmpsOf [x]) := by first | exact trivial | exact ⟨id, trivial⟩) :
    Val P n f σ all s ⟨dst, .load T x, ty, pos, after, guard⟩ d gd (.agg l'.toArray) :=
  .of hd hn hg (fun _ hW => ld_key (run_loadVar_a (sub_get hv).1 (fun j v hj => by
    have := hW.rd (hs.rd _ _ ((sub_get hv).2 j v hj))
    rw [Nat.add_assoc]; exact this)) hx) hob

/-- Places compared. -/
theorem v_ek {T I T' : TypeId} [h : TyKz P T I] {x y : Operand} (a b : Kz) {gd : Option Bool} {d : Nat}
    (hx : evo f σ x = some (kzV a) := by exact rfl) (hy : evo f σ y = some (kzV b) := by exact rfl) (hd : dst = some d := by exact rfl) (hn : Nat.ble (d + 1) n = true := by exact rfl) (hg : gdOf f σ all guard = some gd := by exact rfl)
    (hob : gob f σ (gdc gd) (tmpsOf [x, y]) := by first | exact trivial | exact ⟨id, trivial⟩ | exact ⟨id, id, trivial⟩ | exact ⟨andl, trivial⟩ | exact ⟨andl, andl, trivial⟩ | exact ⟨andl, id, trivial⟩ | exact ⟨id, andl, trivial⟩) : Val P n f σ all s ⟨dst, .binOp .eql T x y T', ty, pos, after, guard⟩ d gd (.bool (decide (a = b))) :=
  .of hd hn hg (fun W _ => by
    have key : ∀ ρ : Operand → Value, ρ x = kzV a → ρ y = kzV b → (execOp ρ ⟨dst, .binOp .eql T x y T', ty, pos, after, guard⟩).run P W = .ok (.value (.bool (decide (a = b)))) W := fun ρ hρ hρ2 => by
      have h1 : (binOp .eql T (kzV a) (kzV b)).run P W = .ok (.bool (decide (a = b))) W := by rw [run_eql_struct, run_eqKz a b 9998 W]; rfl
      have h2 : (eqGuard .eql T x y (kzV a) (kzV b)).run P W = .ok () W := run_eqGuard_agg W .eql T x y _ _ h.guard
      simp only [execOp, hρ, hρ2, Sem.run_bind, h2, Result.andThen_ok, h1]
      rfl
    exact key _ (ev_evo hx (.head _)) (ev_evo hy (.tail _ (.head _)))) hob
theorem v_nk {T I T' : TypeId} [h : TyKz P T I] {x y : Operand} (a b : Kz) {gd : Option Bool} {d : Nat}
    (hx : evo f σ x = some (kzV a) := by exact rfl) (hy : evo f σ y = some (kzV b) := by exact rfl) (hd : dst = some d := by exact rfl) (hn : Nat.ble (d + 1) n = true := by exact rfl) (hg : gdOf f σ all guard = some gd := by exact rfl)
    (hob : gob f σ (gdc gd) (tmpsOf [x, y]) := by first | exact trivial | exact ⟨id, trivial⟩ | exact ⟨id, id, trivial⟩ | exact ⟨andl, trivial⟩ | exact ⟨andl, andl, trivial⟩ | exact ⟨andl, id, trivial⟩ | exact ⟨id, andl, trivial⟩) : Val P n f σ all s ⟨dst, .binOp .neq T x y T', ty, pos, after, guard⟩ d gd (.bool (!decide (a = b))) :=
  .of hd hn hg (fun W _ => by
    have key : ∀ ρ : Operand → Value, ρ x = kzV a → ρ y = kzV b → (execOp ρ ⟨dst, .binOp .neq T x y T', ty, pos, after, guard⟩).run P W = .ok (.value (.bool (!decide (a = b)))) W := fun ρ hρ hρ2 => by
      have h1 : (binOp .neq T (kzV a) (kzV b)).run P W = .ok (.bool (!decide (a = b))) W := by rw [run_neq_struct, run_eqKz a b 9998 W]; rfl
      have h2 : (eqGuard .neq T x y (kzV a) (kzV b)).run P W = .ok () W := run_eqGuard_agg W .neq T x y _ _ h.guard
      simp only [execOp, hρ, hρ2, Sem.run_bind, h2, Result.andThen_ok, h1]
      rfl
    exact key _ (ev_evo hx (.head _)) (ev_evo hy (.tail _ (.head _)))) hob

/-- A cell that the call leaves alone. -/
theorem rd_cells_at {w : World} (h : (St.mk w0 F L).holds w) {C R : Hp} (hp : L.Perm (C ++ R)) {F' : List Nat} (hF : ∀ b, b ∈ F' → b ∈ blks C) {b off : Nat} {l : List Value} {T : TypeId} {v : Value} (hm : En.cells b l T ∈ R) (hv : l[off]? = some v) : Rd w F' b off v := by
  have h1 := rd_of_cells h (hp.mem_iff.2 (List.mem_append_right C hm)) hv
  refine ⟨h1.1, fun hb => ?_, h1.2.2⟩
  have h3 := (h.perm hp).nodup
  simp only [List.filterMap_append] at h3
  have hb2 : b ∈ List.filterMap En.blk R := List.mem_filterMap.2 ⟨_, hm, rfl⟩
  exact (List.nodup_append.1 h3).2.2 _ (hF _ hb) _ hb2 rfl

/-- Less of a row is known. -/
theorem r_sh {p : Option Addr} {m cap sz : Nat} {xs : List Value} {T : TypeId} {L' : Hp} (i : Nat) (hi : i ≤ m) (h : Wk P n Q k f σ ⟨w0, F, L'⟩)
    (hu : Upd L (.row p m cap xs T sz) (.row p i cap (xs.take (i * sz)) T sz) L' := by repeat (first | exact Upd.head | apply Upd.tail)) : Wk P n Q k f σ ⟨w0, F, L⟩ := by
  intro a w hr hs
  refine h a w hr (hs.upd hu rfl rfl rfl (Nat.le_refl _) (fun _ _ _ => rfl) ?_ (fun b' hb' => .inl hb'))
  obtain ⟨h1, h2⟩ : (En.row p m cap xs T sz).at w := hs.own _ hu.mem
  have hle : i * sz ≤ m * sz := Nat.mul_le_mul_right _ hi
  refine ⟨by rw [List.length_take, h1]; omega, ?_⟩
  rcases h2 with ⟨rfl, rfl, rfl⟩ | ⟨b, cur, rfl, hb, h3, h4, h5, h6⟩
  · exact .inl ⟨rfl, by omega, rfl⟩
  · refine .inr ⟨b, cur, rfl, hb, by omega, h4, h5, ?_⟩
    rw [← h6, List.take_take]; congr 1; omega
end

/-- The store's own cells. -/
abbrev stoC (most : Int) (bm : Nat) (q : Option Addr) (n cap : Nat) (pin : Kz) (pinned : Bool) : List Value :=
  [.int .i64 most, .map (some bm), .slice q n cap, .int .i64 pin.mag, .int .i64 pin.page, .int .i64 pin.sub, .bool pinned]

/-- A store where it lies. -/
structure Sp where
  most : Int
  bs : Nat
  bm : Nat
  q : Option Addr
  cap : Nat
  l : List (Kz × Value)
  es : List MapEntry
  clock : Nat
  pin : Kz
  pinned : Bool

abbrev Sp.keys (s : Sp) : List Kz := s.l.map (·.1)
abbrev spL (s : Sp) : Hp := [.cells s.bs (stoC s.most s.bm s.q s.l.length s.cap s.pin s.pinned) 201, .map s.bm s.es s.clock, .row s.q s.l.length s.cap (keysC s.keys) 45 3]
structure Sp.Ok (s : Sp) : Prop where
  kv : kvs s.es = kvC s.l
  nd : s.keys.Nodup
  le : s.l.length ≤ 100000
end Go.Cf

namespace Go.Cf
def notK (k : Kz) (l : List Kz) : List Kz := l.filter fun x => !decide (x = k)
def findK (k : Kz) : List Kz → Nat
  | [] => 0
  | x :: r => if x = k then 0 else findK k r + 1
theorem findK_le (k : Kz) : ∀ l : List Kz, findK k l ≤ l.length
  | [] => Nat.le_refl _
  | x :: r => by
    have := findK_le k r
    simp only [findK]; split <;> simp <;> omega
theorem notK_take (k : Kz) : ∀ (l : List Kz), notK k (l.take (findK k l)) = l.take (findK k l)
  | [] => rfl
  | x :: r => by
    have := notK_take k r
    simp only [findK]
    split
    · rfl
    · rename_i h
      simp only [notK, List.take_succ_cons] at this ⊢
      rw [List.filter_cons_of_pos (by simp [h]), this]
theorem findK_at (k : Kz) : ∀ (l : List Kz), findK k l < l.length → l[findK k l]? = some k
  | [], h => by simp [findK] at h
  | x :: r, h => by
    simp only [findK] at h ⊢
    split
    · rename_i hx; simp [hx]
    · rename_i hx
      rw [if_neg hx] at h
      simp only [List.length_cons] at h
      simpa using findK_at k r (by omega)
theorem findK_all (k : Kz) (l : List Kz) (h : findK k l = l.length) : notK k l = l := by
  have := notK_take k l
  rw [h, List.take_length] at this
  exact this
theorem findK_lt (k : Kz) : ∀ (l : List Kz) (i : Nat) (x : Kz), l[i]? = some x → i < findK k l → x ≠ k
  | [], i, x, h, _ => by simp at h
  | y :: r, 0, x, h, hi => by
    simp only [List.getElem?_cons_zero, Option.some.injEq] at h
    subst h
    simp only [findK] at hi
    split at hi
    · omega
    · assumption
  | y :: r, i + 1, x, h, hi => by
    simp only [findK] at hi
    split at hi
    · omega
    · exact findK_lt k r i x (by simpa using h) (by omega)
theorem findK_first (k : Kz) : ∀ (l : List Kz) (i : Nat), l[i]? = some k → i ≤ findK k l → findK k l = i
  | l, i, h, hi => by
    rcases Nat.lt_or_ge i (findK k l) with h1 | h1
    · exact absurd rfl (findK_lt k l i k h h1)
    · omega
end Go.Cf
namespace Go.Proofs
open Go.Cf
set_option maxRecDepth 10000

instance : TyKz Tryz.prog 45 3 := ⟨by kernel_rfl, by kernel_rfl, by kernel_rfl, by kernel_rfl, by kernel_rfl⟩
instance : TyMap Tryz.prog 199 45 55 := ⟨by kernel_rfl⟩

/-- A place in memory, which nobody turns. -/
def RdK (w : World) (F : List Nat) (b : Nat) (k : Kz) : Prop := ∀ j v, (kzC k)[j]? = some v → Rd w F b (0 + j) v

theorem isK_does (x k : Kz) (b : Nat) (w : World) (hk : RdK w [] b k) : Does Tryz.prog 247 [kzV x, .pointer (some ⟨b, 0, none⟩)] w [] (fun v L => v = .bool (decide (x = k)) ∧ L = []) := by
  refine does_of Tryz.func247 rfl rfl ?_
  repeat (first | refine w_ (v_lba (kzC_length k) hk) ?_ | refine w_ (v_ek x k) ?_ | refine r_seq ?_ | refine r_nil ?_ | refine r_region ?_ | refine r_skip ?_ | refine r_block ?_ | refine r_inBlock ?_ | refine x_ ?_ | refine w_ v_p ?_ | refine w_ v_cv ?_ | refine w_ v_and ?_ | refine w_ v_or ?_ | refine w_ v_f ?_ | refine w_ v_b ?_ | refine w_ v_r ?_ | refine w_ v_i ?_ | refine w_ v_a ?_ | refine w_ v_l ?_ | refine w_ v_la ?_ | refine w_ v_ls ?_ | refine w_ v_lr ?_ | refine w_ v_ln ?_ | refine w_ v_bd ?_ | refine w_ v_ba ?_ | refine w_ v_mf ?_ | refine w_ v_sap ?_ | refine w_ v_pkf ?_ | refine w_ v_pkt ?_ | refine w_ v_nl ?_ | refine w_ v_nn ?_ | refine e_ (f_st ?_) | refine e_ (f_al fun _ => ?_) | refine e_ (f_bx fun _ => ?_))
  exact t_ rfl (.tmp rfl .nil) (List.nil_sublist _) ⟨rfl, rfl⟩

theorem indexK_does (ks : List Kz) (k : Kz) (p : Option Addr) (c m b : Nat) (w : World) (hm : ks.length = m) (hle : m ≤ 100000) (hs : Sl w [] p m 3 (keysC ks)) (hk : RdK w [] b k) :
    Does Tryz.prog 267 [.slice p m c, .func (.func 247) #[] #[.pointer (some ⟨b, 0, none⟩)]] w [] (fun v L => v = .int .i64 (if findK k ks = m then -1 else (findK k ks : Int)) ∧ L = []) := by
  refine does_of Tryz.func267 rfl rfl ?_
  repeat (first | refine r_seq ?_ | refine r_nil ?_ | refine r_region ?_ | refine r_skip ?_ | refine r_block ?_ | refine r_inBlock ?_ | refine x_ ?_ | refine w_ v_p ?_ | refine w_ v_cv ?_ | refine w_ v_and ?_ | refine w_ v_or ?_ | refine w_ v_f ?_ | refine w_ v_b ?_ | refine w_ v_r ?_ | refine w_ v_i ?_ | refine w_ v_a ?_ | refine w_ v_l ?_ | refine w_ v_la ?_ | refine w_ v_ls ?_ | refine w_ v_lr ?_ | refine w_ v_ln ?_ | refine w_ v_bd ?_ | refine w_ v_ba ?_ | refine w_ v_mf ?_ | refine w_ v_sap ?_ | refine w_ v_pkf ?_ | refine w_ v_pkt ?_ | refine w_ v_nl ?_ | refine w_ v_nn ?_ | refine e_ (f_st ?_) | refine e_ (f_al fun _ => ?_) | refine e_ (f_bx fun _ => ?_))
  refine r_loop (τ := Nat) (fun i => i ≤ m ∧ i ≤ findK k ks) (fun i => m - i) (fun i => [(0, .v (.slice p m c)), (1, .v (.func (.func 247) #[] #[.pointer (some ⟨b, 0, none⟩)])), (7, .v (.int .i64 m)), (8, .v (.int .i64 i))]) (fun _ => []) 0 (by omega) ⟨rfl, rfl, rfl, rfl, trivial⟩ (List.Sublist.refl _) ?_
  rintro i ⟨hi, hif⟩ f
  have hfl := findK_le k ks
  repeat (first | refine r_seq ?_ | refine r_nil ?_ | refine r_region ?_ | refine r_skip ?_ | refine r_block ?_ | refine r_inBlock ?_ | refine x_ ?_ | refine w_ v_p ?_ | refine w_ v_cv ?_ | refine w_ v_and ?_ | refine w_ v_or ?_ | refine w_ v_f ?_ | refine w_ v_b ?_ | refine w_ v_r ?_ | refine w_ v_i ?_ | refine w_ v_a ?_ | refine w_ v_l ?_ | refine w_ v_la ?_ | refine w_ v_ls ?_ | refine w_ v_lr ?_ | refine w_ v_ln ?_ | refine w_ v_bd ?_ | refine w_ v_ba ?_ | refine w_ v_mf ?_ | refine w_ v_sap ?_ | refine w_ v_pkf ?_ | refine w_ v_pkt ?_ | refine w_ v_nl ?_ | refine w_ v_nn ?_ | refine e_ (f_st ?_) | refine e_ (f_al fun _ => ?_) | refine e_ (f_bx fun _ => ?_))
  refine c_ (fun h => ?_) (fun h => ?_)
  · simp only [decide_eq_true_eq] at h
    have hlt : i < m := by omega
    obtain ⟨x, hx⟩ : ∃ x, ks[i]? = some x := ⟨ks[i], List.getElem?_eq_getElem (by omega)⟩
    have hld : sub (keysC ks) (((i : Nat) : Int).toNat * 3) 3 = some (kzC x) := keysC_get hx (by simp)
    repeat (first | refine w_ (v_lsa hs hld) ?_ | refine r_seq ?_ | refine r_nil ?_ | refine r_region ?_ | refine r_skip ?_ | refine r_block ?_ | refine r_inBlock ?_ | refine x_ ?_ | refine w_ v_p ?_ | refine w_ v_cv ?_ | refine w_ v_and ?_ | refine w_ v_or ?_ | refine w_ v_f ?_ | refine w_ v_b ?_ | refine w_ v_r ?_ | refine w_ v_i ?_ | refine w_ v_a ?_ | refine w_ v_l ?_ | refine w_ v_la ?_ | refine w_ v_ls ?_ | refine w_ v_lr ?_ | refine w_ v_ln ?_ | refine w_ v_bd ?_ | refine w_ v_ba ?_ | refine w_ v_mf ?_ | refine w_ v_sap ?_ | refine w_ v_pkf ?_ | refine w_ v_pkt ?_ | refine w_ v_nl ?_ | refine w_ v_nn ?_ | refine e_ (f_st ?_) | refine e_ (f_al fun _ => ?_) | refine e_ (f_bx fun _ => ?_))
    refine e_ (f_v (caps := [.pointer (some ⟨b, 0, none⟩)]) (fun w hw => isK_does x k b w (fun j v hj => Rd.now (s := ⟨_, _, _⟩) hw (hk j v hj))) fun v L' h => ?_)
    obtain ⟨rfl, rfl⟩ := h
    repeat (first | refine r_seq ?_ | refine r_nil ?_ | refine r_region ?_ | refine r_skip ?_ | refine r_block ?_ | refine r_inBlock ?_ | refine x_ ?_ | refine w_ v_p ?_ | refine w_ v_cv ?_ | refine w_ v_and ?_ | refine w_ v_or ?_ | refine w_ v_f ?_ | refine w_ v_b ?_ | refine w_ v_r ?_ | refine w_ v_i ?_ | refine w_ v_a ?_ | refine w_ v_l ?_ | refine w_ v_la ?_ | refine w_ v_ls ?_ | refine w_ v_lr ?_ | refine w_ v_ln ?_ | refine w_ v_bd ?_ | refine w_ v_ba ?_ | refine w_ v_mf ?_ | refine w_ v_sap ?_ | refine w_ v_pkf ?_ | refine w_ v_pkt ?_ | refine w_ v_nl ?_ | refine w_ v_nn ?_ | refine e_ (f_st ?_) | refine e_ (f_al fun _ => ?_) | refine e_ (f_bx fun _ => ?_))
    refine c_ (fun h1 => ?_) (fun h1 => ?_)
    · simp only [decide_eq_true_eq] at h1
      subst h1
      have hf := findK_first x ks i hx hif
      repeat (first | refine r_seq ?_ | refine r_nil ?_ | refine r_region ?_ | refine r_skip ?_ | refine r_block ?_ | refine r_inBlock ?_ | refine x_ ?_ | refine w_ v_p ?_ | refine w_ v_cv ?_ | refine w_ v_and ?_ | refine w_ v_or ?_ | refine w_ v_f ?_ | refine w_ v_b ?_ | refine w_ v_r ?_ | refine w_ v_i ?_ | refine w_ v_a ?_ | refine w_ v_l ?_ | refine w_ v_la ?_ | refine w_ v_ls ?_ | refine w_ v_lr ?_ | refine w_ v_ln ?_ | refine w_ v_bd ?_ | refine w_ v_ba ?_ | refine w_ v_mf ?_ | refine w_ v_sap ?_ | refine w_ v_pkf ?_ | refine w_ v_pkt ?_ | refine w_ v_nl ?_ | refine w_ v_nn ?_ | refine e_ (f_st ?_) | refine e_ (f_al fun _ => ?_) | refine e_ (f_bx fun _ => ?_))
      refine t_ rfl (.tmp rfl .nil) (List.nil_sublist _) ⟨?_, rfl⟩
      rw [hf, if_neg (by omega)]; rfl
    · simp only [decide_eq_false_iff_not] at h1
      have hne : findK k ks ≠ i := fun he => by
        have := findK_at k ks (by omega)
        rw [he, hx] at this
        exact h1 (Option.some.inj this)
      repeat (first | refine r_seq ?_ | refine r_nil ?_ | refine r_region ?_ | refine r_skip ?_ | refine r_block ?_ | refine r_inBlock ?_ | refine x_ ?_ | refine w_ v_p ?_ | refine w_ v_cv ?_ | refine w_ v_and ?_ | refine w_ v_or ?_ | refine w_ v_f ?_ | refine w_ v_b ?_ | refine w_ v_r ?_ | refine w_ v_i ?_ | refine w_ v_a ?_ | refine w_ v_l ?_ | refine w_ v_la ?_ | refine w_ v_ls ?_ | refine w_ v_lr ?_ | refine w_ v_ln ?_ | refine w_ v_bd ?_ | refine w_ v_ba ?_ | refine w_ v_mf ?_ | refine w_ v_sap ?_ | refine w_ v_pkf ?_ | refine w_ v_pkt ?_ | refine w_ v_nl ?_ | refine w_ v_nn ?_ | refine e_ (f_st ?_) | refine e_ (f_al fun _ => ?_) | refine e_ (f_bx fun _ => ?_))
      exact r_again (i + 1) (by omega) (by omega) ⟨rfl, rfl, rfl, rfl, trivial⟩ (List.nil_sublist _)
  · simp only [decide_eq_false_iff_not] at h
    have hf : findK k ks = m := by omega
    repeat (first | refine r_seq ?_ | refine r_nil ?_ | refine r_region ?_ | refine r_skip ?_ | refine r_block ?_ | refine r_inBlock ?_ | refine x_ ?_ | refine w_ v_p ?_ | refine w_ v_cv ?_ | refine w_ v_and ?_ | refine w_ v_or ?_ | refine w_ v_f ?_ | refine w_ v_b ?_ | refine w_ v_r ?_ | refine w_ v_i ?_ | refine w_ v_a ?_ | refine w_ v_l ?_ | refine w_ v_la ?_ | refine w_ v_ls ?_ | refine w_ v_lr ?_ | refine w_ v_ln ?_ | refine w_ v_bd ?_ | refine w_ v_ba ?_ | refine w_ v_mf ?_ | refine w_ v_sap ?_ | refine w_ v_pkf ?_ | refine w_ v_pkt ?_ | refine w_ v_nl ?_ | refine w_ v_nn ?_ | refine e_ (f_st ?_) | refine e_ (f_al fun _ => ?_) | refine e_ (f_bx fun _ => ?_))
    refine t_ rfl (.tmp rfl .nil) (List.nil_sublist _) ⟨?_, rfl⟩
    rw [hf, if_pos rfl]; rfl
end Go.Proofs

namespace Go.Proofs
open Go.Cf
set_option maxRecDepth 10000

theorem notK_snoc {k x : Kz} {ks : List Kz} {j : Nat} (h : ks[j]? = some x) : notK k (ks.take (j + 1)) = if x = k then notK k (ks.take j) else notK k (ks.take j) ++ [x] := by
  rw [take_snoc h, notK, List.filter_append]
  by_cases hx : x = k
  · rw [if_pos hx, List.filter_cons_of_neg (by simp [hx])]; simp [notK]
  · rw [if_neg hx, List.filter_cons_of_pos (by simp [hx])]; rfl
theorem drop_cons {α : Type} {l : List α} {j : Nat} {x : α} (h : l[j]? = some x) : l.drop j = x :: l.drop (j + 1) := by
  obtain ⟨h1, h2⟩ := List.getElem?_eq_some_iff.1 h
  rw [List.drop_eq_getElem_cons h1, h2]

theorem zeros3 (n : Nat) : zeros [.int .i64 0, .int .i64 0, .int .i64 0] (n * 3) = keysC (List.replicate n ⟨0, 0, 0⟩) := by
  have h1 : zeros [.int .i64 0, .int .i64 0, .int .i64 0] (n * 3) = List.replicate (n * 3) (.int .i64 0) := by
    rw [List.eq_replicate_iff]
    refine ⟨zeros_length _ _, fun b hb => ?_⟩
    simp only [zeros, List.mem_map, List.mem_range, List.length_cons, List.length_nil] at hb
    obtain ⟨i, _, rfl⟩ := hb
    have : i % 3 = 0 ∨ i % 3 = 1 ∨ i % 3 = 2 := by omega
    rcases this with h | h | h <;> simp [h]
  have h2 : keysC (List.replicate n ⟨0, 0, 0⟩) = List.replicate (n * 3) (.int .i64 0) := by
    rw [List.eq_replicate_iff]
    refine ⟨by rw [keysC_length, List.length_replicate], fun b hb => ?_⟩
    simp only [keysC, List.mem_flatMap, List.mem_replicate] at hb
    obtain ⟨t, ⟨_, rfl⟩, hb⟩ := hb
    simp only [kzC, List.mem_cons, List.not_mem_nil, or_false, or_self] at hb
    exact hb
  rw [h1, h2]

theorem deleteK_does (ks : List Kz) (k : Kz) (q : Option Addr) (cap m b : Nat) (w : World) (hm : ks.length = m) (hle : m ≤ 100000) (hw : (St.mk w (blks [.row q m cap (keysC ks) 45 3]) [.row q m cap (keysC ks) 45 3]).holds w) (hk : RdK w (blks [.row q m cap (keysC ks) 45 3]) b k) :
    Does Tryz.prog 246 [.slice q m cap, .func (.func 247) #[] #[.pointer (some ⟨b, 0, none⟩)]] w (blks [.row q m cap (keysC ks) 45 3]) (fun v L => v = .slice q (notK k ks).length cap ∧ L = [.row q (notK k ks).length cap (keysC (notK k ks)) 45 3]) := by
  refine does_ofM Tryz.func246 rfl rfl hw ?_
  generalize blks [.row q m cap (keysC ks) 45 3] = FF at hk hw ⊢
  have hfl := findK_le k ks
  repeat (first | refine r_seq ?_ | refine r_nil ?_ | refine r_region ?_ | refine r_skip ?_ | refine r_block ?_ | refine r_inBlock ?_ | refine x_ ?_ | refine w_ v_p ?_ | refine w_ v_cv ?_ | refine w_ v_and ?_ | refine w_ v_or ?_ | refine w_ v_f ?_ | refine w_ v_b ?_ | refine w_ v_r ?_ | refine w_ v_i ?_ | refine w_ v_a ?_ | refine w_ v_l ?_ | refine w_ v_la ?_ | refine w_ v_ls ?_ | refine w_ v_lr ?_ | refine w_ v_ln ?_ | refine w_ v_bd ?_ | refine w_ v_ba ?_ | refine w_ v_mf ?_ | refine w_ v_sap ?_ | refine w_ v_pkf ?_ | refine w_ v_pkt ?_ | refine w_ v_nl ?_ | refine w_ v_nn ?_ | refine e_ (f_st ?_) | refine e_ (f_al fun _ => ?_) | refine e_ (f_bx fun _ => ?_))
  refine e_ (f_c (fun w2 hw2 => indexK_does ks k q cap m b w2 hm hle (sl_of_row hw2 (.head _)) (fun j v hj => Rd.now (s := ⟨_, _, _⟩) hw2 (hk j v hj))) fun v L' h => ?_)
  obtain ⟨rfl, rfl⟩ := h
  repeat (first | refine r_seq ?_ | refine r_nil ?_ | refine r_region ?_ | refine r_skip ?_ | refine r_block ?_ | refine r_inBlock ?_ | refine x_ ?_ | refine w_ v_p ?_ | refine w_ v_cv ?_ | refine w_ v_and ?_ | refine w_ v_or ?_ | refine w_ v_f ?_ | refine w_ v_b ?_ | refine w_ v_r ?_ | refine w_ v_i ?_ | refine w_ v_a ?_ | refine w_ v_l ?_ | refine w_ v_la ?_ | refine w_ v_ls ?_ | refine w_ v_lr ?_ | refine w_ v_ln ?_ | refine w_ v_bd ?_ | refine w_ v_ba ?_ | refine w_ v_mf ?_ | refine w_ v_sap ?_ | refine w_ v_pkf ?_ | refine w_ v_pkt ?_ | refine w_ v_nl ?_ | refine w_ v_nn ?_ | refine e_ (f_st ?_) | refine e_ (f_al fun _ => ?_) | refine e_ (f_bx fun _ => ?_))
  refine c_ (fun h => ?_) (fun h => ?_)
  · have hf : findK k ks = m := by
      simp only [beq_iff_eq] at h
      by_cases h2 : findK k ks = m
      · exact h2
      · rw [if_neg h2] at h; omega
    have hn : notK k ks = ks := findK_all k ks (by omega)
    repeat (first | refine r_seq ?_ | refine r_nil ?_ | refine r_region ?_ | refine r_skip ?_ | refine r_block ?_ | refine r_inBlock ?_ | refine x_ ?_ | refine w_ v_p ?_ | refine w_ v_cv ?_ | refine w_ v_and ?_ | refine w_ v_or ?_ | refine w_ v_f ?_ | refine w_ v_b ?_ | refine w_ v_r ?_ | refine w_ v_i ?_ | refine w_ v_a ?_ | refine w_ v_l ?_ | refine w_ v_la ?_ | refine w_ v_ls ?_ | refine w_ v_lr ?_ | refine w_ v_ln ?_ | refine w_ v_bd ?_ | refine w_ v_ba ?_ | refine w_ v_mf ?_ | refine w_ v_sap ?_ | refine w_ v_pkf ?_ | refine w_ v_pkt ?_ | refine w_ v_nl ?_ | refine w_ v_nn ?_ | refine e_ (f_st ?_) | refine e_ (f_al fun _ => ?_) | refine e_ (f_bx fun _ => ?_))
    refine t2 (List.Sublist.refl _) ⟨?_, ?_⟩
    · rw [hn, hm]; rfl
    · rw [hn, hm]; rfl
  · have hf : findK k ks < m := by
      simp only [beq_eq_false_iff_ne, ne_eq] at h
      by_cases h2 : findK k ks = m
      · rw [if_pos h2] at h; exact absurd rfl h
      · omega
    have hat := findK_at k ks (by omega)
    rw [if_neg (by omega)]
    have hn1 : notK k (ks.take (findK k ks + 1)) = ks.take (findK k ks) := by rw [notK_snoc hat, if_pos rfl, notK_take]
    have hl1 : (ks.take (findK k ks)).length = findK k ks := by rw [List.length_take]; omega
    refine r_own (.head _) (by omega) fun bq hq hcap hmx _ => ?_
    subst hq
    repeat (first | refine r_seq ?_ | refine r_nil ?_ | refine r_region ?_ | refine r_skip ?_ | refine r_block ?_ | refine r_inBlock ?_ | refine x_ ?_ | refine w_ v_p ?_ | refine w_ v_cv ?_ | refine w_ v_and ?_ | refine w_ v_or ?_ | refine w_ v_f ?_ | refine w_ v_b ?_ | refine w_ v_r ?_ | refine w_ v_i ?_ | refine w_ v_a ?_ | refine w_ v_l ?_ | refine w_ v_la ?_ | refine w_ v_ls ?_ | refine w_ v_lr ?_ | refine w_ v_ln ?_ | refine w_ v_bd ?_ | refine w_ v_ba ?_ | refine w_ v_mf ?_ | refine w_ v_sap ?_ | refine w_ v_pkf ?_ | refine w_ v_pkt ?_ | refine w_ v_nl ?_ | refine w_ v_nn ?_ | refine e_ (f_st ?_) | refine e_ (f_al fun _ => ?_) | refine e_ (f_bx fun _ => ?_))
    refine r_loop (τ := Nat × List Kz) (fun t => t.1 ≤ m ∧ t.2.length + (notK k (ks.take t.1)).length = t.1 ∧ t.2 ≠ []) (fun t => m - t.1)
      (fun t => [(0, .v (.slice (some ⟨bq, 0, none⟩) m cap)), (1, .v (.func (.func 247) #[] #[.pointer (some ⟨b, 0, none⟩)])), (5, .v (.int .i64 (notK k (ks.take t.1)).length)), (6, .v (.int .i64 t.1))])
      (fun t => [.row (some ⟨bq, 0, none⟩) m cap (keysC (notK k (ks.take t.1) ++ (t.2 ++ ks.drop t.1))) 45 3]) (findK k ks + 1, [k]) ⟨by dsimp only; omega, by dsimp only; rw [hn1, hl1]; simp; omega, by simp⟩
      ⟨rfl, rfl, by dsimp only; rw [hn1, hl1]; rfl, rfl, trivial⟩ (by
        dsimp only
        rw [hn1, show [k] ++ ks.drop (findK k ks + 1) = ks.drop (findK k ks) from (drop_cons hat).symm, List.take_append_drop]
        exact List.Sublist.refl _) ?_
    rintro ⟨j, r⟩ ⟨hj, hjl, hr⟩ f
    dsimp only at hj hjl hr ⊢
    obtain ⟨r0, r', rfl⟩ : ∃ a l, r = a :: l := List.exists_cons_of_ne_nil hr
    generalize hA : notK k (ks.take j) = A at hjl
    simp only [List.length_cons] at hjl
    repeat (first | refine r_seq ?_ | refine r_nil ?_ | refine r_region ?_ | refine r_skip ?_ | refine r_block ?_ | refine r_inBlock ?_ | refine x_ ?_ | refine w_ v_p ?_ | refine w_ v_cv ?_ | refine w_ v_and ?_ | refine w_ v_or ?_ | refine w_ v_f ?_ | refine w_ v_b ?_ | refine w_ v_r ?_ | refine w_ v_i ?_ | refine w_ v_a ?_ | refine w_ v_l ?_ | refine w_ v_la ?_ | refine w_ v_ls ?_ | refine w_ v_lr ?_ | refine w_ v_ln ?_ | refine w_ v_bd ?_ | refine w_ v_ba ?_ | refine w_ v_mf ?_ | refine w_ v_sap ?_ | refine w_ v_pkf ?_ | refine w_ v_pkt ?_ | refine w_ v_nl ?_ | refine w_ v_nn ?_ | refine e_ (f_st ?_) | refine e_ (f_al fun _ => ?_) | refine e_ (f_bx fun _ => ?_))
    refine c_ (fun h => ?_) (fun h => ?_)
    · simp only [decide_eq_true_eq] at h
      have hlt : j < m := by omega
      obtain ⟨x, hx⟩ : ∃ x, ks[j]? = some x := ⟨ks[j], List.getElem?_eq_getElem (by omega)⟩
      have hdr := drop_cons hx
      have hget : (A ++ (r0 :: r' ++ ks.drop j))[j]? = some x := by
        rw [List.getElem?_append_right (by omega), List.getElem?_append_right (by simp; omega), hdr]
        rw [show j - A.length - (r0 :: r').length = 0 from by simp; omega]; rfl
      have hld : sub (keysC (A ++ (r0 :: r' ++ ks.drop j))) (((j : Nat) : Int).toNat * 3) 3 = some (kzC x) := keysC_get hget (by simp)
      repeat (first | refine w_ (v_lrp (hv := hld)) ?_ | refine e_ (f_al fun b7 => ?_) | refine r_seq ?_ | refine r_nil ?_ | refine r_region ?_ | refine r_skip ?_ | refine r_block ?_ | refine r_inBlock ?_ | refine x_ ?_ | refine w_ v_p ?_ | refine w_ v_cv ?_ | refine w_ v_and ?_ | refine w_ v_or ?_ | refine w_ v_f ?_ | refine w_ v_b ?_ | refine w_ v_r ?_ | refine w_ v_i ?_ | refine w_ v_a ?_ | refine w_ v_l ?_ | refine w_ v_la ?_ | refine w_ v_ls ?_ | refine w_ v_lr ?_ | refine w_ v_ln ?_ | refine w_ v_bd ?_ | refine w_ v_ba ?_ | refine w_ v_mf ?_ | refine w_ v_sap ?_ | refine w_ v_pkf ?_ | refine w_ v_pkt ?_ | refine w_ v_nl ?_ | refine w_ v_nn ?_ | refine e_ (f_st ?_) | refine e_ (f_al fun _ => ?_) | refine e_ (f_bx fun _ => ?_))
      refine e_ (f_v (caps := [.pointer (some ⟨b, 0, none⟩)]) (fun w2 hw2 => isK_does x k b w2 (fun j v hj => Rd.now (s := ⟨_, _, _⟩) hw2 (hk j v hj))) fun v L' h => ?_)
      obtain ⟨rfl, rfl⟩ := h
      have hns := notK_snoc (k := k) hx
      rw [hA] at hns
      repeat (first | refine r_seq ?_ | refine r_nil ?_ | refine r_region ?_ | refine r_skip ?_ | refine r_block ?_ | refine r_inBlock ?_ | refine x_ ?_ | refine w_ v_p ?_ | refine w_ v_cv ?_ | refine w_ v_and ?_ | refine w_ v_or ?_ | refine w_ v_f ?_ | refine w_ v_b ?_ | refine w_ v_r ?_ | refine w_ v_i ?_ | refine w_ v_a ?_ | refine w_ v_l ?_ | refine w_ v_la ?_ | refine w_ v_ls ?_ | refine w_ v_lr ?_ | refine w_ v_ln ?_ | refine w_ v_bd ?_ | refine w_ v_ba ?_ | refine w_ v_mf ?_ | refine w_ v_sap ?_ | refine w_ v_pkf ?_ | refine w_ v_pkt ?_ | refine w_ v_nl ?_ | refine w_ v_nn ?_ | refine e_ (f_st ?_) | refine e_ (f_al fun _ => ?_) | refine e_ (f_bx fun _ => ?_))
      refine c_ (fun h1 => ?_) (fun h1 => ?_)
      · have hxk : ¬ x = k := by simpa using h1
        rw [if_neg hxk] at hns
        have hset : splice (keysC (A ++ (r0 :: r' ++ ks.drop j))) (((A.length : Nat) : Int).toNat * 3) (kzC x) = keysC (A ++ x :: (r' ++ ks.drop j)) := keysC_set A (r' ++ ks.drop j) r0 x (by simp)
        repeat (first | refine r_seq ?_ | refine r_nil ?_ | refine r_region ?_ | refine r_skip ?_ | refine r_block ?_ | refine r_inBlock ?_ | refine x_ ?_ | refine w_ v_p ?_ | refine w_ v_cv ?_ | refine w_ v_and ?_ | refine w_ v_or ?_ | refine w_ v_f ?_ | refine w_ v_b ?_ | refine w_ v_r ?_ | refine w_ v_i ?_ | refine w_ v_a ?_ | refine w_ v_l ?_ | refine w_ v_la ?_ | refine w_ v_ls ?_ | refine w_ v_lr ?_ | refine w_ v_ln ?_ | refine w_ v_bd ?_ | refine w_ v_ba ?_ | refine w_ v_mf ?_ | refine w_ v_sap ?_ | refine w_ v_pkf ?_ | refine w_ v_pkt ?_ | refine w_ v_nl ?_ | refine w_ v_nn ?_ | refine e_ (f_st ?_) | refine e_ (f_al fun _ => ?_) | refine e_ (f_bx fun _ => ?_))
        refine e_ (f_sr (off := ((A.length : Nat) : Int).toNat * 3) (hl := hset) ?_ (by rw [keysC_length]; simp; omega))
        repeat (first | refine r_seq ?_ | refine r_nil ?_ | refine r_region ?_ | refine r_skip ?_ | refine r_block ?_ | refine r_inBlock ?_ | refine x_ ?_ | refine w_ v_p ?_ | refine w_ v_cv ?_ | refine w_ v_and ?_ | refine w_ v_or ?_ | refine w_ v_f ?_ | refine w_ v_b ?_ | refine w_ v_r ?_ | refine w_ v_i ?_ | refine w_ v_a ?_ | refine w_ v_l ?_ | refine w_ v_la ?_ | refine w_ v_ls ?_ | refine w_ v_lr ?_ | refine w_ v_ln ?_ | refine w_ v_bd ?_ | refine w_ v_ba ?_ | refine w_ v_mf ?_ | refine w_ v_sap ?_ | refine w_ v_pkf ?_ | refine w_ v_pkt ?_ | refine w_ v_nl ?_ | refine w_ v_nn ?_ | refine e_ (f_st ?_) | refine e_ (f_al fun _ => ?_) | refine e_ (f_bx fun _ => ?_))
        refine r_ord (M := [.row (some ⟨bq, 0, none⟩) m cap (keysC (A ++ x :: (r' ++ ks.drop j))) 45 3]) ?_
        have he : A ++ x :: (r' ++ ks.drop j) = notK k (ks.take (j + 1)) ++ ((r' ++ [x]) ++ ks.drop (j + 1)) := by rw [hns, hdr]; simp
        rw [he]
        exact r_again (j + 1, r' ++ [x]) ⟨by dsimp only; omega, by dsimp only; rw [hns]; simp; omega, by simp⟩ (by dsimp only; omega) ⟨rfl, rfl, by dsimp only; rw [hns]; exact congrArg (Value.int .i64) (by simp), rfl, trivial⟩ (List.Sublist.refl _)
      · have hxk : x = k := by simpa using h1
        rw [if_pos hxk] at hns
        repeat (first | refine r_seq ?_ | refine r_nil ?_ | refine r_region ?_ | refine r_skip ?_ | refine r_block ?_ | refine r_inBlock ?_ | refine x_ ?_ | refine w_ v_p ?_ | refine w_ v_cv ?_ | refine w_ v_and ?_ | refine w_ v_or ?_ | refine w_ v_f ?_ | refine w_ v_b ?_ | refine w_ v_r ?_ | refine w_ v_i ?_ | refine w_ v_a ?_ | refine w_ v_l ?_ | refine w_ v_la ?_ | refine w_ v_ls ?_ | refine w_ v_lr ?_ | refine w_ v_ln ?_ | refine w_ v_bd ?_ | refine w_ v_ba ?_ | refine w_ v_mf ?_ | refine w_ v_sap ?_ | refine w_ v_pkf ?_ | refine w_ v_pkt ?_ | refine w_ v_nl ?_ | refine w_ v_nn ?_ | refine e_ (f_st ?_) | refine e_ (f_al fun _ => ?_) | refine e_ (f_bx fun _ => ?_))
        refine r_ord (M := [.row (some ⟨bq, 0, none⟩) m cap (keysC (A ++ (r0 :: r' ++ ks.drop j))) 45 3]) ?_
        have he : A ++ (r0 :: r' ++ ks.drop j) = notK k (ks.take (j + 1)) ++ ((r0 :: r' ++ [x]) ++ ks.drop (j + 1)) := by rw [hns, hdr]; simp
        rw [he]
        exact r_again (j + 1, r0 :: r' ++ [x]) ⟨by dsimp only; omega, by dsimp only; rw [hns]; simp; omega, by simp⟩ (by dsimp only; omega) ⟨rfl, rfl, by dsimp only; rw [hns]; rfl, rfl, trivial⟩ (List.Sublist.refl _)
    · simp only [decide_eq_false_iff_not] at h
      have hj2 : j = m := by omega
      subst hj2
      have hAll : notK k ks = A := by rw [← hA, List.take_of_length_le (by omega)]
      have hdn : ks.drop j = [] := List.drop_of_length_le (by omega)
      rw [hdn, List.append_nil]
      repeat (first | refine w_ (v_sl (hb := ⟨by omega, by omega⟩)) ?_ | refine r_seq ?_ | refine r_nil ?_ | refine r_region ?_ | refine r_skip ?_ | refine r_block ?_ | refine r_inBlock ?_ | refine x_ ?_ | refine w_ v_p ?_ | refine w_ v_cv ?_ | refine w_ v_and ?_ | refine w_ v_or ?_ | refine w_ v_f ?_ | refine w_ v_b ?_ | refine w_ v_r ?_ | refine w_ v_i ?_ | refine w_ v_a ?_ | refine w_ v_l ?_ | refine w_ v_la ?_ | refine w_ v_ls ?_ | refine w_ v_lr ?_ | refine w_ v_ln ?_ | refine w_ v_bd ?_ | refine w_ v_ba ?_ | refine w_ v_mf ?_ | refine w_ v_sap ?_ | refine w_ v_pkf ?_ | refine w_ v_pkt ?_ | refine w_ v_nl ?_ | refine w_ v_nn ?_ | refine e_ (f_st ?_) | refine e_ (f_al fun _ => ?_) | refine e_ (f_bx fun _ => ?_))
      have hin : ((A.length : Nat) : Int).toNat = A.length := by omega
      refine r_as 38 (v' := .slice (some ⟨bq, A.length * 3, none⟩) (j - A.length) (cap - A.length)) ?_ ?_
      · show Value.slice (slp (some ⟨bq, 0, none⟩) cap ((A.length : Nat) : Int).toNat 3) (j - ((A.length : Nat) : Int).toNat) (cap - ((A.length : Nat) : Int).toNat) = _
        rw [hin, slp, if_neg (by omega)]
        simp [add_none]
      have hz : zeros [.int .i64 0, .int .i64 0, .int .i64 0] ((j - A.length) * 3) = keysC (List.replicate (j - A.length) ⟨0, 0, 0⟩) := zeros3 _
      refine e_ (f_cl (sz := 3) (b := bq) (off := A.length * 3) (m := j) (xs' := keysC (A ++ List.replicate (j - A.length) ⟨0, 0, 0⟩)) ?_ ?_ rfl ?_ ?_ ?_)
      rotate_left
      · omega
      · rw [hz]; exact keysC_plain _
      · omega
      · rw [hz, keysC_append, keysC_append]
        have := spl_at (A := keysC A) (B := keysC (r0 :: r')) (C := []) (vs := keysC (List.replicate (j - A.length) ⟨0, 0, 0⟩)) (off := A.length * 3) (keysC_length A).symm (by rw [keysC_length, keysC_length]; simp; omega)
        simpa using this
      repeat (first | refine w_ (v_sh (hb := ⟨by omega, by omega⟩)) ?_ | refine r_seq ?_ | refine r_nil ?_ | refine r_region ?_ | refine r_skip ?_ | refine r_block ?_ | refine r_inBlock ?_ | refine x_ ?_ | refine w_ v_p ?_ | refine w_ v_cv ?_ | refine w_ v_and ?_ | refine w_ v_or ?_ | refine w_ v_f ?_ | refine w_ v_b ?_ | refine w_ v_r ?_ | refine w_ v_i ?_ | refine w_ v_a ?_ | refine w_ v_l ?_ | refine w_ v_la ?_ | refine w_ v_ls ?_ | refine w_ v_lr ?_ | refine w_ v_ln ?_ | refine w_ v_bd ?_ | refine w_ v_ba ?_ | refine w_ v_mf ?_ | refine w_ v_sap ?_ | refine w_ v_pkf ?_ | refine w_ v_pkt ?_ | refine w_ v_nl ?_ | refine w_ v_nn ?_ | refine e_ (f_st ?_) | refine e_ (f_al fun _ => ?_) | refine e_ (f_bx fun _ => ?_))
      have hv4 : Value.slice (slp (some ⟨bq, 0, none⟩) cap 0 3) (((A.length : Nat) : Int).toNat - 0) (cap - 0) = .slice (some ⟨bq, 0, none⟩) A.length cap := by
        rw [hin, slp, if_neg (by omega)]
        simp [add_none]
      refine r_as 4 hv4 ?_
      refine r_sh (m := j) A.length (by omega) ?_
      rw [keysC_take, List.take_append_of_le_length (by omega), List.take_length]
      rw [hAll]
      exact t2 (List.Sublist.refl _) ⟨rfl, rfl⟩
end Go.Proofs

namespace Go.Cf
theorem dropK_keys (l : List (Kz × Value)) (k : Kz) : (dropK l k).map (·.1) = notK k (l.map (·.1)) := by
  induction l with
  | nil => rfl
  | cons x r ih =>
    by_cases h : k = x.1
    · simp only [dropK, notK, List.map_cons] at ih ⊢
      rw [List.filter_cons_of_neg (by simp [h]), List.filter_cons_of_neg (by simp [h]), ih]
    · simp only [dropK, notK, List.map_cons] at ih ⊢
      rw [List.filter_cons_of_pos (by simp [h]), List.filter_cons_of_pos (by simp [Ne.symm h]), List.map_cons, ih]
theorem dropK_le (l : List (Kz × Value)) (k : Kz) : (dropK l k).length ≤ l.length := List.length_filter_le _ _
theorem notK_nodup {l : List Kz} (k : Kz) (h : l.Nodup) : (notK k l).Nodup := h.sublist (List.filter_sublist)
theorem notK_not (l : List Kz) (k : Kz) : k ∉ notK k l := by simp [notK]
end Go.Cf
namespace Go.Proofs
open Go.Cf
set_option maxRecDepth 10000

theorem drop_does (s : Sp) (k : Kz) (w : World) (hok : s.Ok) (hw : (St.mk w (blks (spL s)) (spL s)).holds w) :
    Does Tryz.prog 226 [.pointer (some ⟨s.bs, 0, none⟩), kzV k] w (blks (spL s)) (fun v L => v = .tuple #[] ∧ ∃ es', kvs es' = kvC (dropK s.l k) ∧ L = spL { s with l := dropK s.l k, es := es' }) := by
  refine does_ofM Tryz.func226 rfl rfl hw ?_
  generalize blks (spL s) = FF at hw ⊢
  obtain ⟨most, bs, bm, q, cap, l, es, clock, pin, pinned⟩ := s
  obtain ⟨hkv, hnd, hle⟩ := hok
  dsimp only at hkv hnd hle hw ⊢
  repeat (first | refine e_ (f_bx (c := kzC k) fun b3 => ?_) | refine r_seq ?_ | refine r_nil ?_ | refine r_region ?_ | refine r_skip ?_ | refine r_block ?_ | refine r_inBlock ?_ | refine x_ ?_ | refine w_ v_p ?_ | refine w_ v_cv ?_ | refine w_ v_and ?_ | refine w_ v_or ?_ | refine w_ v_f ?_ | refine w_ v_b ?_ | refine w_ v_r ?_ | refine w_ v_i ?_ | refine w_ v_a ?_ | refine w_ v_l ?_ | refine w_ v_la ?_ | refine w_ v_ls ?_ | refine w_ v_lr ?_ | refine w_ v_ln ?_ | refine w_ v_bd ?_ | refine w_ v_ba ?_ | refine w_ v_mf ?_ | refine w_ v_sap ?_ | refine w_ v_pkf ?_ | refine w_ v_pkt ?_ | refine w_ v_nl ?_ | refine w_ v_nn ?_ | refine e_ (f_st ?_) | refine e_ (f_al fun _ => ?_) | refine e_ (f_bx fun _ => ?_))
  repeat refine r_seq ?_
  refine d_in ([.cells b3 (kzC k) 45, .cells bs (stoC most bm q l.length cap pin pinned) 201]) [] ?_
  first | (refine dp 0 ?_; first | refine tp (fun _ => v_p) ?_) | (refine dw 0 ?_; first | refine tw (v_la (hv := sub_all (kzC_length k))) ?_)
  first | (refine dp 1 ?_; first | refine tp (fun _ => v_p) ?_) | (refine dw 1 ?_; first | refine tw (v_la (hv := sub_all (kzC_length k))) ?_)
  first | (refine dp 2 ?_; first | refine tp (fun _ => v_f) ?_) | (refine dw 2 ?_; first | refine tw (v_la (hv := sub_all (kzC_length k))) ?_)
  first | (refine dw 3 ?_; first | refine tw (v_la (hv := sub_all (kzC_length k))) ?_ | refine tw (v_l) ?_ | refine tw (v_la) ?_ | refine tw (v_ls) ?_ | refine tw (v_lr) ?_ | refine tw ((v_ge hG)) ?_)
  first | (refine dw 4 ?_; first | refine tw (v_la (hv := sub_all (kzC_length k))) ?_ | refine tw (v_l) ?_ | refine tw (v_la) ?_ | refine tw (v_ls) ?_ | refine tw (v_lr) ?_ | refine tw ((v_ge hG)) ?_)
  refine d_e 5 ?_
  refine f_dl l hkv hnd fun es' he' => ?_
  refine ⟨?_, ?_⟩
  · first | exact st_n | exact st_l rfl | exact st_s (by repeat (first | exact List.Sublist.refl _ | exact List.nil_sublist _ | exact List.sublist_append_right _ _ | apply List.Sublist.cons_cons | apply List.Sublist.cons))
  refine d_z ?_
  dsimp only [Sp.keys]
  repeat (first | refine r_seq ?_ | refine r_nil ?_ | refine r_region ?_ | refine r_skip ?_ | refine r_block ?_ | refine r_inBlock ?_ | refine x_ ?_ | refine w_ v_p ?_ | refine w_ v_cv ?_ | refine w_ v_and ?_ | refine w_ v_or ?_ | refine w_ v_f ?_ | refine w_ v_b ?_ | refine w_ v_r ?_ | refine w_ v_i ?_ | refine w_ v_a ?_ | refine w_ v_l ?_ | refine w_ v_la ?_ | refine w_ v_ls ?_ | refine w_ v_lr ?_ | refine w_ v_ln ?_ | refine w_ v_bd ?_ | refine w_ v_ba ?_ | refine w_ v_mf ?_ | refine w_ v_sap ?_ | refine w_ v_pkf ?_ | refine w_ v_pkt ?_ | refine w_ v_nl ?_ | refine w_ v_nn ?_ | refine e_ (f_st ?_) | refine e_ (f_al fun _ => ?_) | refine e_ (f_bx fun _ => ?_))
  refine r_ord (M := [.row q l.length cap (keysC (l.map (·.1))) 45 3, .cells bs (stoC most bm q l.length cap pin pinned) 201, .map bm es' clock, .cells b3 (kzC k) 45]) ?_
  refine e_ (f_cM [.row q l.length cap (keysC (l.map (·.1))) 45 3] _ (List.Perm.refl _) (fun b hb => hb) (fun w2 hw2 => deleteK_does (l.map (·.1)) k q cap l.length b3 w2 (by simp) hle (hw2.give (List.Perm.refl _)) (fun j v hj => rd_cells_at hw2 (C := [.row q l.length cap (keysC (l.map (·.1))) 45 3]) (List.Perm.refl _) (fun b hb => hb) (by repeat (first | exact List.Mem.head _ | apply List.Mem.tail)) (by rw [Nat.zero_add]; exact hj))) fun v L' h => ?_)
  obtain ⟨rfl, rfl⟩ := h
  have hk := dropK_keys l k
  have hlk : (notK k (l.map (·.1))).length = (dropK l k).length := by rw [← hk]; simp
  rw [← hk, List.length_map]
  repeat (first | refine r_seq ?_ | refine r_nil ?_ | refine r_region ?_ | refine r_skip ?_ | refine r_block ?_ | refine r_inBlock ?_ | refine x_ ?_ | refine w_ v_p ?_ | refine w_ v_cv ?_ | refine w_ v_and ?_ | refine w_ v_or ?_ | refine w_ v_f ?_ | refine w_ v_b ?_ | refine w_ v_r ?_ | refine w_ v_i ?_ | refine w_ v_a ?_ | refine w_ v_l ?_ | refine w_ v_la ?_ | refine w_ v_ls ?_ | refine w_ v_lr ?_ | refine w_ v_ln ?_ | refine w_ v_bd ?_ | refine w_ v_ba ?_ | refine w_ v_mf ?_ | refine w_ v_sap ?_ | refine w_ v_pkf ?_ | refine w_ v_pkt ?_ | refine w_ v_nl ?_ | refine w_ v_nn ?_ | refine e_ (f_st ?_) | refine e_ (f_al fun _ => ?_) | refine e_ (f_bx fun _ => ?_))
  exact r_ord (M := [.cells bs (stoC most bm q (dropK l k).length cap pin pinned) 201, .map bm es' clock, .row q (dropK l k).length cap (keysC ((dropK l k).map (·.1))) 45 3]) (r_fin rfl .nil (List.Sublist.refl _) ⟨rfl, es', he', rfl⟩)

/-- The key that goes. -/
def victimM (l : List Kz) (k pin : Kz) (pinned : Bool) : Kz := match l with
  | [] => k
  | x :: r => if x ≠ k ∧ ¬ (pinned = true ∧ x = pin) then x else victimM r k pin pinned
theorem victimM_skip (k pin : Kz) (pinned : Bool) : ∀ (l : List Kz) (i : Nat), (∀ j x, j < i → l[j]? = some x → ¬ (x ≠ k ∧ ¬ (pinned = true ∧ x = pin))) → victimM l k pin pinned = victimM (l.drop i) k pin pinned
  | [], i, h => by simp
  | x :: r, 0, h => rfl
  | x :: r, i + 1, h => by
    rw [victimM, if_neg (h 0 x (by omega) rfl), List.drop_succ_cons]
    exact victimM_skip k pin pinned r i (fun j y hj hy => h (j + 1) y (by omega) (by simpa using hy))

theorem victim_does (s : Sp) (k : Kz) (w : World) (hok : s.Ok) (hw : (St.mk w (blks (spL s)) (spL s)).holds w) :
    Does Tryz.prog 227 [.pointer (some ⟨s.bs, 0, none⟩), kzV k] w (blks (spL s)) (fun v L => v = kzV (victimM s.keys k s.pin s.pinned) ∧ L = spL s) := by
  refine does_ofM Tryz.func227 rfl rfl hw ?_
  generalize blks (spL s) = FF at hw ⊢
  obtain ⟨most, bs, bm, q, cap, l, es, clock, pin, pinned⟩ := s
  obtain ⟨hkv, hnd, hle⟩ := hok
  dsimp only at hkv hnd hle hw ⊢
  repeat (first | refine e_ (f_bx (c := kzC k) fun b3 => ?_) | refine e_ (f_al fun b4 => ?_) | refine r_seq ?_ | refine r_nil ?_ | refine r_region ?_ | refine r_skip ?_ | refine r_block ?_ | refine r_inBlock ?_ | refine x_ ?_ | refine w_ v_p ?_ | refine w_ v_cv ?_ | refine w_ v_and ?_ | refine w_ v_or ?_ | refine w_ v_f ?_ | refine w_ v_b ?_ | refine w_ v_r ?_ | refine w_ v_i ?_ | refine w_ v_a ?_ | refine w_ v_l ?_ | refine w_ v_la ?_ | refine w_ v_ls ?_ | refine w_ v_lr ?_ | refine w_ v_ln ?_ | refine w_ v_bd ?_ | refine w_ v_ba ?_ | refine w_ v_mf ?_ | refine w_ v_sap ?_ | refine w_ v_pkf ?_ | refine w_ v_pkt ?_ | refine w_ v_nl ?_ | refine w_ v_nn ?_ | refine e_ (f_st ?_) | refine e_ (f_al fun _ => ?_) | refine e_ (f_bx fun _ => ?_))
  refine r_loop (τ := Nat) (fun i => i ≤ l.length ∧ ∀ j x, j < i → (l.map (·.1))[j]? = some x → ¬ (x ≠ k ∧ ¬ (pinned = true ∧ x = pin))) (fun i => l.length - i)
    (fun i => [(0, .v (.pointer (some ⟨bs, 0, none⟩))), (3, .v (.pointer (some ⟨b3, 0, none⟩))), (4, .v (.pointer (some ⟨b4, 0, none⟩))), (10, .v (.slice q l.length cap)), (11, .v (.int .i64 l.length)), (12, .v (.int .i64 i))])
    (fun _ => [.cells b4 [.int .i64 0, .int .i64 0, .int .i64 0] 45, .cells b3 (kzC k) 45, .cells bs (stoC most bm q l.length cap pin pinned) 201, .map bm es clock, .row q l.length cap (keysC (l.map (·.1))) 45 3]) 0 ⟨by omega, by omega⟩ ⟨rfl, rfl, rfl, rfl, rfl, rfl, trivial⟩ (List.Sublist.refl _) ?_
  rintro i ⟨hi, hskip⟩ f
  repeat (first | refine r_seq ?_ | refine r_nil ?_ | refine r_region ?_ | refine r_skip ?_ | refine r_block ?_ | refine r_inBlock ?_ | refine x_ ?_ | refine w_ v_p ?_ | refine w_ v_cv ?_ | refine w_ v_and ?_ | refine w_ v_or ?_ | refine w_ v_f ?_ | refine w_ v_b ?_ | refine w_ v_r ?_ | refine w_ v_i ?_ | refine w_ v_a ?_ | refine w_ v_l ?_ | refine w_ v_la ?_ | refine w_ v_ls ?_ | refine w_ v_lr ?_ | refine w_ v_ln ?_ | refine w_ v_bd ?_ | refine w_ v_ba ?_ | refine w_ v_mf ?_ | refine w_ v_sap ?_ | refine w_ v_pkf ?_ | refine w_ v_pkt ?_ | refine w_ v_nl ?_ | refine w_ v_nn ?_ | refine e_ (f_st ?_) | refine e_ (f_al fun _ => ?_) | refine e_ (f_bx fun _ => ?_))
  refine c_ (fun h => ?_) (fun h => ?_)
  · simp only [decide_eq_true_eq] at h
    have hlt : i < l.length := by omega
    obtain ⟨x, hx⟩ : ∃ x, (l.map (·.1))[i]? = some x := ⟨_, List.getElem?_eq_getElem (by simpa using hlt)⟩
    have hld : sub (keysC (l.map (·.1))) (((i : Nat) : Int).toNat * 3) 3 = some (kzC x) := keysC_get hx (by simp)
    repeat (first | refine w_ (v_lrp (hv := hld)) ?_ | refine e_ (f_al fun b6 => ?_) | refine e_ (f_st (hl := splice_all (l := [.int .i64 0, .int .i64 0, .int .i64 0]) (vs := kzC x) rfl) ?_) | refine r_seq ?_ | refine r_nil ?_ | refine r_region ?_ | refine r_skip ?_ | refine r_block ?_ | refine r_inBlock ?_ | refine x_ ?_ | refine w_ v_p ?_ | refine w_ v_cv ?_ | refine w_ v_and ?_ | refine w_ v_or ?_ | refine w_ v_f ?_ | refine w_ v_b ?_ | refine w_ v_r ?_ | refine w_ v_i ?_ | refine w_ v_a ?_ | refine w_ v_l ?_ | refine w_ v_la ?_ | refine w_ v_ls ?_ | refine w_ v_lr ?_ | refine w_ v_ln ?_ | refine w_ v_bd ?_ | refine w_ v_ba ?_ | refine w_ v_mf ?_ | refine w_ v_sap ?_ | refine w_ v_pkf ?_ | refine w_ v_pkt ?_ | refine w_ v_nl ?_ | refine w_ v_nn ?_ | refine e_ (f_st ?_) | refine e_ (f_al fun _ => ?_) | refine e_ (f_bx fun _ => ?_))
    repeat refine r_seq ?_
    refine d_all [] ?_
    first | (refine dw 0 ?_; first | refine tw (v_la (hv := sub_all (kzC_length x))) ?_ | refine tw (v_l) ?_ | refine tw (v_la) ?_ | refine tw (v_ls) ?_ | refine tw (v_lr) ?_ | refine tw ((v_ge hG)) ?_)
    first | (refine dw 1 ?_; first | refine tw (v_la (hv := sub_all (kzC_length k))) ?_ | refine tw (v_l) ?_ | refine tw (v_la) ?_ | refine tw (v_ls) ?_ | refine tw (v_lr) ?_ | refine tw ((v_ge hG)) ?_)
    first | (refine dp 2 ?_; first | refine tp (fun _ => v_nk x k) ?_ | refine tp (fun _ => v_p) ?_ | refine tp (fun _ => v_nl) ?_ | refine tp (fun _ => v_nn) ?_ | refine tp (fun _ => v_bq) ?_)
    first | (refine dp 3 ?_; first | refine tp (fun _ => v_p) ?_)
    first | (refine dp 4 ?_; first | refine tp (fun _ => v_p) ?_)
    first | (refine dp 5 ?_; first | refine tp (fun _ => v_p) ?_)
    first | (refine dp 6 ?_; first | refine tp (fun _ => v_f) ?_)
    first | (refine dw 7 ?_; first | refine tw (v_l) ?_ | refine tw (v_la) ?_ | refine tw (v_ls) ?_ | refine tw (v_lr) ?_ | refine tw ((v_ge hG)) ?_)
    first | (refine dp 8 ?_; first | refine tp (fun _ => v_p) ?_)
    first | (refine dw 9 ?_; first | refine tw (v_la (hv := sub_all (kzC_length x))) ?_ | refine tw (v_l) ?_ | refine tw (v_la) ?_ | refine tw (v_ls) ?_ | refine tw (v_lr) ?_ | refine tw ((v_ge hG)) ?_)
    first | (refine dp 10 ?_; first | refine tp (fun _ => v_p) ?_)
    first | (refine dp 11 ?_; first | refine tp (fun _ => v_p) ?_)
    first | (refine dp 12 ?_; first | refine tp (fun _ => v_f) ?_)
    first | (refine dw 13 ?_; first | refine tw (v_l) ?_ | refine tw (v_la) ?_ | refine tw (v_ls) ?_ | refine tw (v_lr) ?_ | refine tw ((v_ge hG)) ?_)
    first | (refine dp 14 ?_; first | refine tp (fun _ => v_ek x pin) ?_ | refine tp (fun _ => v_p) ?_ | refine tp (fun _ => v_nl) ?_ | refine tp (fun _ => v_nn) ?_ | refine tp (fun _ => v_bq) ?_)
    first | (refine dp 15 ?_; first | refine tp (fun _ => v_and) ?_ | refine tp (fun _ => v_or) ?_ | refine tp (fun _ => v_pkf) ?_ | refine tp (fun _ => v_pkt) ?_)
    first | (refine dp 16 ?_; first | refine tp (fun _ => v_p) ?_)
    first | (refine dp 17 ?_; first | refine tp (fun _ => v_and) ?_ | refine tp (fun _ => v_or) ?_ | refine tp (fun _ => v_pkf) ?_ | refine tp (fun _ => v_pkt) ?_)
    refine d_z ?_
    refine c_ (fun h1 => ?_) (fun h1 => ?_)
    · have hc : x ≠ k ∧ ¬ (pinned = true ∧ x = pin) := by
        simp only [Bool.and_eq_true, Bool.not_eq_true', decide_eq_false_iff_not, Bool.and_eq_false_iff] at h1
        refine ⟨h1.1, fun h2 => ?_⟩
        rcases h1.2 with h3 | h3
        · rw [h2.1] at h3; cases h3
        · exact h3 h2.2
      have hv : victimM (l.map (·.1)) k pin pinned = x := by
        rw [victimM_skip k pin pinned _ i hskip, drop_cons hx, victimM, if_pos hc]
      repeat (first | refine w_ (v_la (hv := sub_all (kzC_length x))) ?_ | refine e_ (f_st (hl := splice_all (l := [.int .i64 0, .int .i64 0, .int .i64 0]) (vs := kzC x) rfl) ?_) | refine r_seq ?_ | refine r_nil ?_ | refine r_region ?_ | refine r_skip ?_ | refine r_block ?_ | refine r_inBlock ?_ | refine x_ ?_ | refine w_ v_p ?_ | refine w_ v_cv ?_ | refine w_ v_and ?_ | refine w_ v_or ?_ | refine w_ v_f ?_ | refine w_ v_b ?_ | refine w_ v_r ?_ | refine w_ v_i ?_ | refine w_ v_a ?_ | refine w_ v_l ?_ | refine w_ v_la ?_ | refine w_ v_ls ?_ | refine w_ v_lr ?_ | refine w_ v_ln ?_ | refine w_ v_bd ?_ | refine w_ v_ba ?_ | refine w_ v_mf ?_ | refine w_ v_sap ?_ | refine w_ v_pkf ?_ | refine w_ v_pkt ?_ | refine w_ v_nl ?_ | refine w_ v_nn ?_ | refine e_ (f_st ?_) | refine e_ (f_al fun _ => ?_) | refine e_ (f_bx fun _ => ?_))
      refine t2 (.cons _ (.cons _ (.cons _ (List.Sublist.refl _)))) ⟨?_, rfl⟩ (.cella rfl (.tail _ (.head _)) (sub_all (kzC_length x)) .nil)
      rw [← hv]; rfl
    · have hc : ¬ (x ≠ k ∧ ¬ (pinned = true ∧ x = pin)) := by
        rintro ⟨h2, h3⟩
        cases pinned <;> simp_all
      repeat (first | refine r_seq ?_ | refine r_nil ?_ | refine r_region ?_ | refine r_skip ?_ | refine r_block ?_ | refine r_inBlock ?_ | refine x_ ?_ | refine w_ v_p ?_ | refine w_ v_cv ?_ | refine w_ v_and ?_ | refine w_ v_or ?_ | refine w_ v_f ?_ | refine w_ v_b ?_ | refine w_ v_r ?_ | refine w_ v_i ?_ | refine w_ v_a ?_ | refine w_ v_l ?_ | refine w_ v_la ?_ | refine w_ v_ls ?_ | refine w_ v_lr ?_ | refine w_ v_ln ?_ | refine w_ v_bd ?_ | refine w_ v_ba ?_ | refine w_ v_mf ?_ | refine w_ v_sap ?_ | refine w_ v_pkf ?_ | refine w_ v_pkt ?_ | refine w_ v_nl ?_ | refine w_ v_nn ?_ | refine e_ (f_st ?_) | refine e_ (f_al fun _ => ?_) | refine e_ (f_bx fun _ => ?_))
      exact r_ord (r_again (i + 1) ⟨by omega, fun j y hj hy => by
        rcases Nat.lt_or_ge j i with h4 | h4
        · exact hskip j y h4 hy
        · have : j = i := by omega
          subst this
          rw [hx] at hy
          cases hy; exact hc⟩ (by omega) ⟨rfl, rfl, rfl, rfl, rfl, rfl, trivial⟩ (List.Sublist.refl _))
  · simp only [decide_eq_false_iff_not] at h
    have hil : i = l.length := by omega
    have hv : victimM (l.map (·.1)) k pin pinned = k := by
      rw [victimM_skip k pin pinned _ i hskip, List.drop_of_length_le (by simp; omega)]; rfl
    repeat (first | refine w_ (v_la (hv := sub_all (kzC_length k))) ?_ | refine e_ (f_st (hl := splice_all (l := [.int .i64 0, .int .i64 0, .int .i64 0]) (vs := kzC k) rfl) ?_) | refine r_seq ?_ | refine r_nil ?_ | refine r_region ?_ | refine r_skip ?_ | refine r_block ?_ | refine r_inBlock ?_ | refine x_ ?_ | refine w_ v_p ?_ | refine w_ v_cv ?_ | refine w_ v_and ?_ | refine w_ v_or ?_ | refine w_ v_f ?_ | refine w_ v_b ?_ | refine w_ v_r ?_ | refine w_ v_i ?_ | refine w_ v_a ?_ | refine w_ v_l ?_ | refine w_ v_la ?_ | refine w_ v_ls ?_ | refine w_ v_lr ?_ | refine w_ v_ln ?_ | refine w_ v_bd ?_ | refine w_ v_ba ?_ | refine w_ v_mf ?_ | refine w_ v_sap ?_ | refine w_ v_pkf ?_ | refine w_ v_pkt ?_ | refine w_ v_nl ?_ | refine w_ v_nn ?_ | refine e_ (f_st ?_) | refine e_ (f_al fun _ => ?_) | refine e_ (f_bx fun _ => ?_))
    refine t2 (.cons _ (.cons _ (List.Sublist.refl _))) ⟨?_, rfl⟩ (.cella rfl (.head _) (sub_all (kzC_length k)) .nil)
    rw [hv]; rfl
end Go.Proofs

namespace Go.Cf
def putL (most : Int) (pin : Kz) (pinned : Bool) (l : List (Kz × Value)) (k : Kz) (v : Value) : List (Kz × Value) :=
  if ((dropK l k ++ [(k, v)]).length : Int) ≤ most then dropK l k ++ [(k, v)] else dropK (dropK l k ++ [(k, v)]) (Go.Proofs.victimM ((dropK l k ++ [(k, v)]).map (·.1)) k pin pinned)
theorem dropK_idx (l : List (Kz × Value)) (k : Kz) : idxOf (dropK l k) k = none := by
  rw [notin_idx, dropK_keys]; exact notK_not _ _
theorem putK_nodup {l : List (Kz × Value)} (k : Kz) (v : Value) (h : (l.map (·.1)).Nodup) : ((dropK l k ++ [(k, v)]).map (·.1)).Nodup := by
  rw [List.map_append, dropK_keys, List.nodup_append]
  refine ⟨notK_nodup k h, by simp, fun a ha b hb => ?_⟩
  simp only [List.map_cons, List.map_nil, List.mem_singleton] at hb
  subst hb
  rintro rfl
  exact notK_not _ _ ha
end Go.Cf
namespace Go.Proofs
open Go.Cf
set_option maxRecDepth 10000

abbrev k0C : List Value := [.int .i64 0, .int .i64 0, .int .i64 0]

theorem storePut_does (s : Sp) (k : Kz) (g : Pg) (p : Option Addr) (c : Nat) (w : World) (hok : s.Ok) (hle1 : s.l.length ≤ 50000) (hw : (St.mk w (blks (spL s)) (spL s)).holds w) :
    Does Tryz.prog 186 [.pointer (some ⟨s.bs, 0, none⟩), kzV k, .agg (pgC g p c).toArray] w (blks (spL s)) (fun _ L => ∃ s', s'.Ok ∧ s'.bs = s.bs ∧ s'.most = s.most ∧ s'.pin = s.pin ∧ s'.pinned = s.pinned ∧ s'.l = putL s.most s.pin s.pinned s.l k (.agg (pgC g p c).toArray) ∧ L = spL s') := by
  refine does_ofM Tryz.func186 rfl rfl hw ?_
  generalize blks (spL s) = FF at hw ⊢
  obtain ⟨most, bs, bm, q, cap, l, es, clock, pin, pinned⟩ := s
  obtain ⟨hkv, hnd, hle⟩ := hok
  dsimp only at hkv hnd hle hw hle1 ⊢
  repeat (first | refine e_ (f_bx (c := kzC k) fun b4 => ?_) | refine e_ (f_bx (c := pgC g p c) fun b5 => ?_) | refine e_ (f_al fun b6 => ?_) | refine w_ (v_la (hv := sub_all (kzC_length k))) ?_ | refine r_seq ?_ | refine r_nil ?_ | refine r_region ?_ | refine r_skip ?_ | refine r_block ?_ | refine r_inBlock ?_ | refine x_ ?_ | refine w_ v_p ?_ | refine w_ v_cv ?_ | refine w_ v_and ?_ | refine w_ v_or ?_ | refine w_ v_f ?_ | refine w_ v_b ?_ | refine w_ v_r ?_ | refine w_ v_i ?_ | refine w_ v_a ?_ | refine w_ v_l ?_ | refine w_ v_la ?_ | refine w_ v_ls ?_ | refine w_ v_lr ?_ | refine w_ v_ln ?_ | refine w_ v_bd ?_ | refine w_ v_ba ?_ | refine w_ v_mf ?_ | refine w_ v_sap ?_ | refine w_ v_pkf ?_ | refine w_ v_pkt ?_ | refine w_ v_nl ?_ | refine w_ v_nn ?_ | refine e_ (f_st ?_) | refine e_ (f_al fun _ => ?_) | refine e_ (f_bx fun _ => ?_))
  refine r_ord (M := spL ⟨most, bs, bm, q, cap, l, es, clock, pin, pinned⟩ ++ [.cells b4 (kzC k) 45, .cells b5 (pgC g p c) 55, .cells b6 k0C 45]) ?_
  refine e_ (f_cM (spL ⟨most, bs, bm, q, cap, l, es, clock, pin, pinned⟩) _ (List.Perm.refl _) (fun b hb => hb) (fun w2 hw2 => drop_does ⟨most, bs, bm, q, cap, l, es, clock, pin, pinned⟩ k w2 ⟨hkv, hnd, hle⟩ (hw2.give (List.Perm.refl _))) fun v L' h => ?_)
  obtain ⟨rfl, es1, hkv1, rfl⟩ := h
  have hdl := dropK_le l k
  have hno := dropK_idx l k
  have hkey := dropK_keys l k
  have hndu := putK_nodup k (.agg (pgC g p c).toArray) hnd
  dsimp only [spL, Sp.keys, List.cons_append, List.nil_append]
  generalize hl1 : dropK l k = l1 at *
  repeat (first | refine r_seq ?_ | refine r_nil ?_ | refine r_region ?_ | refine r_skip ?_ | refine r_block ?_ | refine r_inBlock ?_ | refine x_ ?_ | refine w_ v_p ?_ | refine w_ v_cv ?_ | refine w_ v_and ?_ | refine w_ v_or ?_ | refine w_ v_f ?_ | refine w_ v_b ?_ | refine w_ v_r ?_ | refine w_ v_i ?_ | refine w_ v_a ?_ | refine w_ v_l ?_ | refine w_ v_la ?_ | refine w_ v_ls ?_ | refine w_ v_lr ?_ | refine w_ v_ln ?_ | refine w_ v_bd ?_ | refine w_ v_ba ?_ | refine w_ v_mf ?_ | refine w_ v_sap ?_ | refine w_ v_pkf ?_ | refine w_ v_pkt ?_ | refine w_ v_nl ?_ | refine w_ v_nn ?_ | refine e_ (f_st ?_) | refine e_ (f_al fun _ => ?_) | refine e_ (f_bx fun _ => ?_))
  repeat refine r_seq ?_
  refine d_in ([.cells bs (stoC most bm q l1.length cap pin pinned) 201, .cells b4 (kzC k) 45, .cells b5 (pgC g p c) 55]) [] ?_
  first | (refine dp 0 ?_; first | refine tp (fun _ => v_p) ?_) | (refine dw 0 ?_; first | refine tw (v_la (hv := sub_all (kzC_length k))) ?_ | refine tw (v_la (hv := pg_all rfl)) ?_)
  first | (refine dp 1 ?_; first | refine tp (fun _ => v_p) ?_) | (refine dw 1 ?_; first | refine tw (v_la (hv := sub_all (kzC_length k))) ?_ | refine tw (v_la (hv := pg_all rfl)) ?_)
  first | (refine dp 2 ?_; first | refine tp (fun _ => v_f) ?_) | (refine dw 2 ?_; first | refine tw (v_la (hv := sub_all (kzC_length k))) ?_ | refine tw (v_la (hv := pg_all rfl)) ?_)
  first | (refine dw 3 ?_; first | refine tw (v_la (hv := sub_all (kzC_length k))) ?_ | refine tw (v_la (hv := pg_all rfl)) ?_ | refine tw (v_l) ?_ | refine tw (v_la) ?_ | refine tw (v_ls) ?_ | refine tw (v_lr) ?_ | refine tw ((v_ge hG)) ?_)
  first | (refine dw 4 ?_; first | refine tw (v_la (hv := sub_all (kzC_length k))) ?_ | refine tw (v_la (hv := pg_all rfl)) ?_ | refine tw (v_l) ?_ | refine tw (v_la) ?_ | refine tw (v_ls) ?_ | refine tw (v_lr) ?_ | refine tw ((v_ge hG)) ?_)
  first | (refine dw 5 ?_; first | refine tw (v_la (hv := sub_all (kzC_length k))) ?_ | refine tw (v_la (hv := pg_all rfl)) ?_ | refine tw (v_l) ?_ | refine tw (v_la) ?_ | refine tw (v_ls) ?_ | refine tw (v_lr) ?_ | refine tw ((v_ge hG)) ?_)
  refine d_e 6 ?_
  refine f_mu l1 hkv1 hno fun es2 hkv2 => ?_
  refine ⟨?_, ?_⟩
  · first | exact st_n | exact st_l rfl | exact st_s (by repeat (first | exact List.Sublist.refl _ | exact List.nil_sublist _ | exact List.sublist_append_right _ _ | apply List.Sublist.cons_cons | apply List.Sublist.cons))
  refine d_z ?_
  dsimp only
  have hpl : putL most pin pinned l k (.agg (pgC g p c).toArray) = if ((l1 ++ [(k, Value.agg (pgC g p c).toArray)]).length : Int) ≤ most then l1 ++ [(k, Value.agg (pgC g p c).toArray)] else dropK (l1 ++ [(k, Value.agg (pgC g p c).toArray)]) (victimM ((l1 ++ [(k, Value.agg (pgC g p c).toArray)]).map (·.1)) k pin pinned) := by rw [putL, hl1]
  have e1 : keysC (l1.map (·.1)) ++ keysC [k] = keysC ((l1 ++ [(k, Value.agg (pgC g p c).toArray)]).map (·.1)) := by rw [List.map_append, keysC_append]; rfl
  have e2 : l1.length + 1 = (l1 ++ [(k, Value.agg (pgC g p c).toArray)]).length := by simp
  refine r_seq ?_
  repeat refine r_seq ?_
  refine d_in ([.cells bs (stoC most bm q l1.length cap pin pinned) 201, .cells b4 (kzC k) 45]) [10] ?_
  first | (refine dp 0 ?_; first | refine tp (fun _ => v_p) ?_) | (refine dw 0 ?_; first | refine tw (v_la (hv := sub_all (kzC_length k))) ?_)
  first | (refine dp 1 ?_; first | refine tp (fun _ => v_p) ?_) | (refine dw 1 ?_; first | refine tw (v_la (hv := sub_all (kzC_length k))) ?_)
  first | (refine dp 2 ?_; first | refine tp (fun _ => v_p) ?_) | (refine dw 2 ?_; first | refine tw (v_la (hv := sub_all (kzC_length k))) ?_)
  first | (refine dp 3 ?_; first | refine tp (fun _ => v_f) ?_) | (refine dw 3 ?_; first | refine tw (v_la (hv := sub_all (kzC_length k))) ?_)
  first | (refine dw 4 ?_; first | refine tw (v_la (hv := sub_all (kzC_length k))) ?_ | refine tw (v_l) ?_ | refine tw (v_la) ?_ | refine tw (v_ls) ?_ | refine tw (v_lr) ?_ | refine tw ((v_ge hG)) ?_)
  first | (refine dw 5 ?_; first | refine tw (v_la (hv := sub_all (kzC_length k))) ?_ | refine tw (v_l) ?_ | refine tw (v_la) ?_ | refine tw (v_ls) ?_ | refine tw (v_lr) ?_ | refine tw ((v_ge hG)) ?_)
  refine d_e 6 ?_
  refine f_bs (l := keysC [k]) fun b25 => ?_
  refine ⟨?_, ?_⟩
  · first | exact st_n | exact st_l rfl | exact st_s (by repeat (first | exact List.Sublist.refl _ | exact List.nil_sublist _ | exact List.sublist_append_right _ _ | apply List.Sublist.cons_cons | apply List.Sublist.cons))
  refine d_e 7 ?_
  refine f_a (m := l1.length) (m2 := 1) (fun w hw => sl_of_cells hw (by repeat (first | exact List.Mem.head _ | apply List.Mem.tail)) rfl) (keysC_plain [k]) fun q3 c3 => ?_
  refine ⟨?_, ?_⟩
  · first | exact st_n | exact st_l rfl | exact st_s (by repeat (first | exact List.Sublist.refl _ | exact List.nil_sublist _ | exact List.sublist_append_right _ _ | apply List.Sublist.cons_cons | apply List.Sublist.cons))
  first | (refine dp 8 ?_; first | refine tp (fun _ => v_p) ?_) | (refine dw 8 ?_; first | refine tw (v_la (hv := sub_all (kzC_length k))) ?_)
  first | (refine dp 9 ?_; first | refine tp (fun _ => v_f) ?_) | (refine dw 9 ?_; first | refine tw (v_la (hv := sub_all (kzC_length k))) ?_)
  refine d_e 10 ?_
  first | refine f_st ⟨?_, ?_⟩
  · first | exact st_n | exact st_l rfl | exact st_s (by repeat (first | exact List.Sublist.refl _ | exact List.nil_sublist _ | exact List.sublist_append_right _ _ | apply List.Sublist.cons_cons | apply List.Sublist.cons))
  refine d_z ?_
  rw [e1, e2]
  generalize l1 ++ [(k, Value.agg (pgC g p c).toArray)] = l2 at *
  have hl2 : l2.length ≤ 50001 := by omega
  clear e1 e2 hkv1 hno hkey
  refine r_ord (M := spL ⟨most, bs, bm, q3, c3, l2, es2, clock + 1, pin, pinned⟩ ++ [.cells b4 (kzC k) 45, .cells b6 k0C 45]) ?_
  dsimp only [spL, Sp.keys, List.cons_append, List.nil_append]
  repeat refine r_seq ?_
  refine d_all [] ?_
  first | (refine dp 0 ?_; first | refine tp (fun _ => v_p) ?_)
  first | (refine dp 1 ?_; first | refine tp (fun _ => v_p) ?_)
  first | (refine dp 2 ?_; first | refine tp (fun _ => v_f) ?_)
  first | (refine dw 3 ?_; first | refine tw (v_l) ?_ | refine tw (v_la) ?_ | refine tw (v_ls) ?_ | refine tw (v_lr) ?_ | refine tw ((v_ge hG)) ?_)
  first | (refine dp 4 ?_; first | refine tp (fun _ => v_ln) ?_)
  first | (refine dp 5 ?_; first | refine tp (fun _ => v_p) ?_)
  first | (refine dp 6 ?_; first | refine tp (fun _ => v_p) ?_)
  first | (refine dp 7 ?_; first | refine tp (fun _ => v_f) ?_)
  first | (refine dw 8 ?_; first | refine tw (v_l) ?_ | refine tw (v_la) ?_ | refine tw (v_ls) ?_ | refine tw (v_lr) ?_ | refine tw ((v_ge hG)) ?_)
  first | (refine dp 9 ?_; first | refine tp (fun _ => v_p) ?_ | refine tp (fun _ => v_nl) ?_ | refine tp (fun _ => v_nn) ?_ | refine tp (fun _ => v_bq) ?_)
  refine d_z ?_
  refine c_ (fun h1 => ?_) (fun h1 => ?_)
  · have h1' : (l2.length : Int) ≤ most := by simpa using h1
    rw [if_pos h1'] at hpl
    repeat (first | refine e_ (f_al fun b8 => ?_) | refine r_seq ?_ | refine r_nil ?_ | refine r_region ?_ | refine r_skip ?_ | refine r_block ?_ | refine r_inBlock ?_ | refine x_ ?_ | refine w_ v_p ?_ | refine w_ v_cv ?_ | refine w_ v_and ?_ | refine w_ v_or ?_ | refine w_ v_f ?_ | refine w_ v_b ?_ | refine w_ v_r ?_ | refine w_ v_i ?_ | refine w_ v_a ?_ | refine w_ v_l ?_ | refine w_ v_la ?_ | refine w_ v_ls ?_ | refine w_ v_lr ?_ | refine w_ v_ln ?_ | refine w_ v_bd ?_ | refine w_ v_ba ?_ | refine w_ v_mf ?_ | refine w_ v_sap ?_ | refine w_ v_pkf ?_ | refine w_ v_pkt ?_ | refine w_ v_nl ?_ | refine w_ v_nn ?_ | refine e_ (f_st ?_) | refine e_ (f_al fun _ => ?_) | refine e_ (f_bx fun _ => ?_))
    exact r_ord (M := spL ⟨most, bs, bm, q3, c3, l2, es2, clock + 1, pin, pinned⟩ ++ [.cells b6 k0C 45]) (t2 (List.sublist_append_left _ _) ⟨⟨most, bs, bm, q3, c3, l2, es2, clock + 1, pin, pinned⟩, ⟨hkv2, hndu, by dsimp only; omega⟩, rfl, rfl, rfl, rfl, hpl.symm, rfl⟩ (.cella rfl (by repeat (first | exact List.Mem.head _ | apply List.Mem.tail)) (by exact rfl) (.tmp rfl .nil)))
  · have h1' : ¬ (l2.length : Int) ≤ most := by simpa using h1
    rw [if_neg h1'] at hpl
    repeat (first | refine w_ (v_la (hv := sub_all (kzC_length k))) ?_ | refine r_seq ?_ | refine r_nil ?_ | refine r_region ?_ | refine r_skip ?_ | refine r_block ?_ | refine r_inBlock ?_ | refine x_ ?_ | refine w_ v_p ?_ | refine w_ v_cv ?_ | refine w_ v_and ?_ | refine w_ v_or ?_ | refine w_ v_f ?_ | refine w_ v_b ?_ | refine w_ v_r ?_ | refine w_ v_i ?_ | refine w_ v_a ?_ | refine w_ v_l ?_ | refine w_ v_la ?_ | refine w_ v_ls ?_ | refine w_ v_lr ?_ | refine w_ v_ln ?_ | refine w_ v_bd ?_ | refine w_ v_ba ?_ | refine w_ v_mf ?_ | refine w_ v_sap ?_ | refine w_ v_pkf ?_ | refine w_ v_pkt ?_ | refine w_ v_nl ?_ | refine w_ v_nn ?_ | refine e_ (f_st ?_) | refine e_ (f_al fun _ => ?_) | refine e_ (f_bx fun _ => ?_))
    refine e_ (f_cM (spL ⟨most, bs, bm, q3, c3, l2, es2, clock + 1, pin, pinned⟩) _ (List.Perm.refl _) (fun b hb => hb) (fun w2 hw2 => victim_does ⟨most, bs, bm, q3, c3, l2, es2, clock + 1, pin, pinned⟩ k w2 ⟨hkv2, hndu, by dsimp only; omega⟩ (hw2.give (List.Perm.refl _))) fun v L' h => ?_)
    obtain ⟨rfl, rfl⟩ := h
    generalize hvk : victimM (Sp.keys ⟨most, bs, bm, q3, c3, l2, es2, clock + 1, pin, pinned⟩) k pin pinned = vk
    repeat (first | refine e_ (f_al fun b9 => ?_) | refine e_ (f_st (hl := splice_all (l := k0C) (vs := kzC vk) rfl) ?_) | refine w_ (v_la (hv := sub_all (kzC_length vk))) ?_ | refine r_seq ?_ | refine r_nil ?_ | refine r_region ?_ | refine r_skip ?_ | refine r_block ?_ | refine r_inBlock ?_ | refine x_ ?_ | refine w_ v_p ?_ | refine w_ v_cv ?_ | refine w_ v_and ?_ | refine w_ v_or ?_ | refine w_ v_f ?_ | refine w_ v_b ?_ | refine w_ v_r ?_ | refine w_ v_i ?_ | refine w_ v_a ?_ | refine w_ v_l ?_ | refine w_ v_la ?_ | refine w_ v_ls ?_ | refine w_ v_lr ?_ | refine w_ v_ln ?_ | refine w_ v_bd ?_ | refine w_ v_ba ?_ | refine w_ v_mf ?_ | refine w_ v_sap ?_ | refine w_ v_pkf ?_ | refine w_ v_pkt ?_ | refine w_ v_nl ?_ | refine w_ v_nn ?_ | refine e_ (f_st ?_) | refine e_ (f_al fun _ => ?_) | refine e_ (f_bx fun _ => ?_))
    refine r_ord (M := spL ⟨most, bs, bm, q3, c3, l2, es2, clock + 1, pin, pinned⟩ ++ [.cells b9 (kzC vk) 45, .cells b6 k0C 45]) ?_
    refine e_ (f_cM (spL ⟨most, bs, bm, q3, c3, l2, es2, clock + 1, pin, pinned⟩) _ (List.Perm.refl _) (fun b hb => hb) (fun w2 hw2 => drop_does ⟨most, bs, bm, q3, c3, l2, es2, clock + 1, pin, pinned⟩ vk w2 ⟨hkv2, hndu, by dsimp only; omega⟩ (hw2.give (List.Perm.refl _))) fun v L' h => ?_)
    obtain ⟨rfl, es3, hkv3, rfl⟩ := h
    have hdl3 := dropK_le l2 vk
    have hnd3 : ((dropK l2 vk).map (·.1)).Nodup := by rw [dropK_keys]; exact notK_nodup _ hndu
    dsimp only at hkv3
    have hvk' : victimM (l2.map (·.1)) k pin pinned = vk := hvk
    rw [hvk'] at hpl
    repeat (first | refine w_ (v_la (hv := sub_all (kzC_length vk))) ?_ | refine e_ (f_st (hl := splice_all (l := k0C) (vs := kzC vk) rfl) ?_) | refine r_seq ?_ | refine r_nil ?_ | refine r_region ?_ | refine r_skip ?_ | refine r_block ?_ | refine r_inBlock ?_ | refine x_ ?_ | refine w_ v_p ?_ | refine w_ v_cv ?_ | refine w_ v_and ?_ | refine w_ v_or ?_ | refine w_ v_f ?_ | refine w_ v_b ?_ | refine w_ v_r ?_ | refine w_ v_i ?_ | refine w_ v_a ?_ | refine w_ v_l ?_ | refine w_ v_la ?_ | refine w_ v_ls ?_ | refine w_ v_lr ?_ | refine w_ v_ln ?_ | refine w_ v_bd ?_ | refine w_ v_ba ?_ | refine w_ v_mf ?_ | refine w_ v_sap ?_ | refine w_ v_pkf ?_ | refine w_ v_pkt ?_ | refine w_ v_nl ?_ | refine w_ v_nn ?_ | refine e_ (f_st ?_) | refine e_ (f_al fun _ => ?_) | refine e_ (f_bx fun _ => ?_))
    exact t2 (List.sublist_append_left _ _) ⟨⟨most, bs, bm, q3, c3, dropK l2 vk, es3, clock + 1, pin, pinned⟩, ⟨hkv3, hnd3, by dsimp only; omega⟩, rfl, rfl, rfl, rfl, hpl.symm, rfl⟩ (.cella rfl (by repeat (first | exact List.Mem.head _ | apply List.Mem.tail)) (sub_all (kzC_length vk)) (.tmp rfl .nil))
end Go.Proofs

namespace Go.Cf
/-- A page where it lies. -/
structure Pp where
  g : Pg
  p : Option Addr
  c : Nat
def pp0 : Pp := ⟨pg0, none, 0⟩
abbrev ppC (x : Pp) : List Value := pgC x.g x.p x.c
abbrev ppV (x : Pp) : Value := .agg (pgC x.g x.p x.c).toArray
end Go.Cf
namespace Go.Proofs
open Go.Cf
set_option maxRecDepth 10000

theorem cloneK_does (ks : List Kz) (p : Option Addr) (c m : Nat) (w : World) (hm : ks.length = m) (hle : m ≤ 100000) (hs : Sl w [] p m 3 (keysC ks)) :
    Does Tryz.prog 145 [.slice p m c] w [] (fun v L => ∃ q d, v = .slice q m d ∧ L = [.row q m d (keysC ks) 45 3]) := by
  refine does_of Tryz.func145 rfl rfl ?_
  cases p with
  | none =>
    have h0 : m = 0 := by
      rcases Nat.eq_zero_or_pos m with h | h
      · exact h
      · have := hs.ptr h; cases this
    subst h0
    have hk : ks = [] := List.eq_nil_of_length_eq_zero hm
    subst hk
    repeat (first | refine r_seq ?_ | refine ri_seq ?_ | refine ri_region ?_ | refine ri_skip ?_ | refine ri_block ?_ | refine xi_ ?_ | refine r_nil ?_ | refine r_region ?_ | refine r_skip ?_ | refine r_block ?_ | refine r_inBlock ?_ | refine x_ ?_ | refine w_ v_p ?_ | refine w_ v_cv ?_ | refine w_ v_and ?_ | refine w_ v_or ?_ | refine w_ v_f ?_ | refine w_ v_b ?_ | refine w_ v_r ?_ | refine w_ v_i ?_ | refine w_ v_a ?_ | refine w_ v_l ?_ | refine w_ v_la ?_ | refine w_ v_ls ?_ | refine w_ v_lr ?_ | refine w_ v_ln ?_ | refine w_ v_bd ?_ | refine w_ v_ba ?_ | refine w_ v_mf ?_ | refine w_ v_sap ?_ | refine w_ v_pkf ?_ | refine w_ v_pkt ?_ | refine w_ v_nl ?_ | refine w_ v_nn ?_ | refine e_ (f_st ?_) | refine e_ (f_al fun _ => ?_) | refine e_ (f_bx fun _ => ?_))
    refine c_ (t := true) (fun _ => ?_) (fun h => by cases h)
    refine r_row (T := 45) (sz := 3) ?_
    repeat (first | refine r_seq ?_ | refine ri_seq ?_ | refine ri_region ?_ | refine ri_skip ?_ | refine ri_block ?_ | refine xi_ ?_ | refine r_nil ?_ | refine r_region ?_ | refine r_skip ?_ | refine r_block ?_ | refine r_inBlock ?_ | refine x_ ?_ | refine w_ v_p ?_ | refine w_ v_cv ?_ | refine w_ v_and ?_ | refine w_ v_or ?_ | refine w_ v_f ?_ | refine w_ v_b ?_ | refine w_ v_r ?_ | refine w_ v_i ?_ | refine w_ v_a ?_ | refine w_ v_l ?_ | refine w_ v_la ?_ | refine w_ v_ls ?_ | refine w_ v_lr ?_ | refine w_ v_ln ?_ | refine w_ v_bd ?_ | refine w_ v_ba ?_ | refine w_ v_mf ?_ | refine w_ v_sap ?_ | refine w_ v_pkf ?_ | refine w_ v_pkt ?_ | refine w_ v_nl ?_ | refine w_ v_nn ?_ | refine e_ (f_st ?_) | refine e_ (f_al fun _ => ?_) | refine e_ (f_bx fun _ => ?_))
    exact t2 (List.Sublist.refl _) ⟨none, 0, rfl, rfl⟩
  | some a =>
    repeat (first | refine r_seq ?_ | refine ri_seq ?_ | refine ri_region ?_ | refine ri_skip ?_ | refine ri_block ?_ | refine xi_ ?_ | refine r_nil ?_ | refine r_region ?_ | refine r_skip ?_ | refine r_block ?_ | refine r_inBlock ?_ | refine x_ ?_ | refine w_ v_p ?_ | refine w_ v_cv ?_ | refine w_ v_and ?_ | refine w_ v_or ?_ | refine w_ v_f ?_ | refine w_ v_b ?_ | refine w_ v_r ?_ | refine w_ v_i ?_ | refine w_ v_a ?_ | refine w_ v_l ?_ | refine w_ v_la ?_ | refine w_ v_ls ?_ | refine w_ v_lr ?_ | refine w_ v_ln ?_ | refine w_ v_bd ?_ | refine w_ v_ba ?_ | refine w_ v_mf ?_ | refine w_ v_sap ?_ | refine w_ v_pkf ?_ | refine w_ v_pkt ?_ | refine w_ v_nl ?_ | refine w_ v_nn ?_ | refine e_ (f_st ?_) | refine e_ (f_al fun _ => ?_) | refine e_ (f_bx fun _ => ?_))
    refine c_ (t := false) (fun h => by cases h) (fun _ => ?_)
    repeat (first | refine r_seq ?_ | refine ri_seq ?_ | refine ri_region ?_ | refine ri_skip ?_ | refine ri_block ?_ | refine xi_ ?_ | refine r_nil ?_ | refine r_region ?_ | refine r_skip ?_ | refine r_block ?_ | refine r_inBlock ?_ | refine x_ ?_ | refine w_ v_p ?_ | refine w_ v_cv ?_ | refine w_ v_and ?_ | refine w_ v_or ?_ | refine w_ v_f ?_ | refine w_ v_b ?_ | refine w_ v_r ?_ | refine w_ v_i ?_ | refine w_ v_a ?_ | refine w_ v_l ?_ | refine w_ v_la ?_ | refine w_ v_ls ?_ | refine w_ v_lr ?_ | refine w_ v_ln ?_ | refine w_ v_bd ?_ | refine w_ v_ba ?_ | refine w_ v_mf ?_ | refine w_ v_sap ?_ | refine w_ v_pkf ?_ | refine w_ v_pkt ?_ | refine w_ v_nl ?_ | refine w_ v_nn ?_ | refine e_ (f_st ?_) | refine e_ (f_al fun _ => ?_) | refine e_ (f_bx fun _ => ?_))
    refine e_ (f_bs (l := []) fun _ => ?_)
    refine r_cr 0 3 ?_
    repeat (first | refine r_seq ?_ | refine ri_seq ?_ | refine ri_region ?_ | refine ri_skip ?_ | refine ri_block ?_ | refine xi_ ?_ | refine r_nil ?_ | refine r_region ?_ | refine r_skip ?_ | refine r_block ?_ | refine r_inBlock ?_ | refine x_ ?_ | refine w_ v_p ?_ | refine w_ v_cv ?_ | refine w_ v_and ?_ | refine w_ v_or ?_ | refine w_ v_f ?_ | refine w_ v_b ?_ | refine w_ v_r ?_ | refine w_ v_i ?_ | refine w_ v_a ?_ | refine w_ v_l ?_ | refine w_ v_la ?_ | refine w_ v_ls ?_ | refine w_ v_lr ?_ | refine w_ v_ln ?_ | refine w_ v_bd ?_ | refine w_ v_ba ?_ | refine w_ v_mf ?_ | refine w_ v_sap ?_ | refine w_ v_pkf ?_ | refine w_ v_pkt ?_ | refine w_ v_nl ?_ | refine w_ v_nn ?_ | refine e_ (f_st ?_) | refine e_ (f_al fun _ => ?_) | refine e_ (f_bx fun _ => ?_))
    refine e_ (f_a (fun w hw => hs.now hw) (keysC_plain ks) fun q c => ?_)
    repeat (first | refine r_seq ?_ | refine ri_seq ?_ | refine ri_region ?_ | refine ri_skip ?_ | refine ri_block ?_ | refine xi_ ?_ | refine r_nil ?_ | refine r_region ?_ | refine r_skip ?_ | refine r_block ?_ | refine r_inBlock ?_ | refine x_ ?_ | refine w_ v_p ?_ | refine w_ v_cv ?_ | refine w_ v_and ?_ | refine w_ v_or ?_ | refine w_ v_f ?_ | refine w_ v_b ?_ | refine w_ v_r ?_ | refine w_ v_i ?_ | refine w_ v_a ?_ | refine w_ v_l ?_ | refine w_ v_la ?_ | refine w_ v_ls ?_ | refine w_ v_lr ?_ | refine w_ v_ln ?_ | refine w_ v_bd ?_ | refine w_ v_ba ?_ | refine w_ v_mf ?_ | refine w_ v_sap ?_ | refine w_ v_pkf ?_ | refine w_ v_pkt ?_ | refine w_ v_nl ?_ | refine w_ v_nn ?_ | refine e_ (f_st ?_) | refine e_ (f_al fun _ => ?_) | refine e_ (f_bx fun _ => ?_))
    refine t_ rfl (.tmp rfl .nil) (List.Sublist.refl _) ⟨q, c, ?_, ?_⟩
    · show Value.slice q (0 + m) c = _
      rw [Nat.zero_add]
    · show [En.row q (0 + m) c ([] ++ keysC ks) 45 3] = _
      rw [Nat.zero_add, List.nil_append]

theorem keys_does (s : Sp) (w : World) (hok : s.Ok) (hw : (St.mk w (blks (spL s)) (spL s)).holds w) :
    Does Tryz.prog 76 [.pointer (some ⟨s.bs, 0, none⟩)] w (blks (spL s)) (fun v L => ∃ q d, v = .slice q s.l.length d ∧ L = .row q s.l.length d (keysC s.keys) 45 3 :: spL s) := by
  refine does_ofM Tryz.func76 rfl rfl hw ?_
  generalize blks (spL s) = FF at hw ⊢
  obtain ⟨most, bs, bm, q, cap, l, es, clock, pin, pinned⟩ := s
  obtain ⟨hkv, hnd, hle⟩ := hok
  dsimp only at hkv hnd hle hw ⊢
  repeat (first | refine r_seq ?_ | refine ri_seq ?_ | refine ri_region ?_ | refine ri_skip ?_ | refine ri_block ?_ | refine xi_ ?_ | refine r_nil ?_ | refine r_region ?_ | refine r_skip ?_ | refine r_block ?_ | refine r_inBlock ?_ | refine x_ ?_ | refine w_ v_p ?_ | refine w_ v_cv ?_ | refine w_ v_and ?_ | refine w_ v_or ?_ | refine w_ v_f ?_ | refine w_ v_b ?_ | refine w_ v_r ?_ | refine w_ v_i ?_ | refine w_ v_a ?_ | refine w_ v_l ?_ | refine w_ v_la ?_ | refine w_ v_ls ?_ | refine w_ v_lr ?_ | refine w_ v_ln ?_ | refine w_ v_bd ?_ | refine w_ v_ba ?_ | refine w_ v_mf ?_ | refine w_ v_sap ?_ | refine w_ v_pkf ?_ | refine w_ v_pkt ?_ | refine w_ v_nl ?_ | refine w_ v_nn ?_ | refine e_ (f_st ?_) | refine e_ (f_al fun _ => ?_) | refine e_ (f_bx fun _ => ?_))
  refine e_ (f_c (fun w hw => cloneK_does (l.map (·.1)) q cap l.length w (by simp) hle (sl_of_row hw (by repeat (first | exact List.Mem.head _ | apply List.Mem.tail)))) fun v L' h => ?_)
  obtain ⟨q2, d2, rfl, rfl⟩ := h
  repeat (first | refine r_seq ?_ | refine ri_seq ?_ | refine ri_region ?_ | refine ri_skip ?_ | refine ri_block ?_ | refine xi_ ?_ | refine r_nil ?_ | refine r_region ?_ | refine r_skip ?_ | refine r_block ?_ | refine r_inBlock ?_ | refine x_ ?_ | refine w_ v_p ?_ | refine w_ v_cv ?_ | refine w_ v_and ?_ | refine w_ v_or ?_ | refine w_ v_f ?_ | refine w_ v_b ?_ | refine w_ v_r ?_ | refine w_ v_i ?_ | refine w_ v_a ?_ | refine w_ v_l ?_ | refine w_ v_la ?_ | refine w_ v_ls ?_ | refine w_ v_lr ?_ | refine w_ v_ln ?_ | refine w_ v_bd ?_ | refine w_ v_ba ?_ | refine w_ v_mf ?_ | refine w_ v_sap ?_ | refine w_ v_pkf ?_ | refine w_ v_pkt ?_ | refine w_ v_nl ?_ | refine w_ v_nn ?_ | refine e_ (f_st ?_) | refine e_ (f_al fun _ => ?_) | refine e_ (f_bx fun _ => ?_))
  exact t2 (List.Sublist.refl _) ⟨q2, d2, rfl, rfl⟩

theorem zero55 : ∀ v, zeroOf Tryz.prog 55 = some v → v = ppV pp0 := by
  have : zeroOf Tryz.prog 55 = some (ppV pp0) := by kernel_rfl
  intro v hv
  rw [this] at hv
  exact (Option.some.inj hv).symm

theorem get_does' (s : Sp) (k : Kz) (o : Option Pp) (w : World) (hok : s.Ok) (ho : Cf.valOf s.l k = o.map fun x => ppV x) (hw : (St.mk w (blks (spL s)) (spL s)).holds w) :
    Does Tryz.prog 77 [.pointer (some ⟨s.bs, 0, none⟩), kzV k] w (blks (spL s)) (fun v L => v = .tuple #[ppV (o.getD pp0), .bool o.isSome] ∧ L = spL s) := by
  refine does_ofM Tryz.func77 rfl rfl hw ?_
  generalize blks (spL s) = FF at hw ⊢
  obtain ⟨most, bs, bm, q, cap, l, es, clock, pin, pinned⟩ := s
  obtain ⟨hkv, hnd, hle⟩ := hok
  dsimp only at hkv hnd hle hw ho ⊢
  have hv1 : (Cf.valOf l k).getD (ppV pp0) = ppV (o.getD pp0) := by rw [ho]; cases o <;> rfl
  have hv2 : (Cf.valOf l k).isSome = o.isSome := by rw [ho]; cases o <;> rfl
  repeat (first | refine e_ (f_bx (c := kzC k) fun b3 => ?_) | refine e_ (f_al fun b4 => ?_) | refine r_seq ?_ | refine ri_seq ?_ | refine ri_region ?_ | refine ri_skip ?_ | refine ri_block ?_ | refine xi_ ?_ | refine r_nil ?_ | refine r_region ?_ | refine r_skip ?_ | refine r_block ?_ | refine r_inBlock ?_ | refine x_ ?_ | refine w_ v_p ?_ | refine w_ v_cv ?_ | refine w_ v_and ?_ | refine w_ v_or ?_ | refine w_ v_f ?_ | refine w_ v_b ?_ | refine w_ v_r ?_ | refine w_ v_i ?_ | refine w_ v_a ?_ | refine w_ v_l ?_ | refine w_ v_la ?_ | refine w_ v_ls ?_ | refine w_ v_lr ?_ | refine w_ v_ln ?_ | refine w_ v_bd ?_ | refine w_ v_ba ?_ | refine w_ v_mf ?_ | refine w_ v_sap ?_ | refine w_ v_pkf ?_ | refine w_ v_pkt ?_ | refine w_ v_nl ?_ | refine w_ v_nn ?_ | refine e_ (f_st ?_) | refine e_ (f_al fun _ => ?_) | refine e_ (f_bx fun _ => ?_))
  repeat refine r_seq ?_
  refine d_in ([.cells b3 (kzC k) 45, .cells bs (stoC most bm q l.length cap pin pinned) 201, .map bm es clock]) [] ?_
  first | (refine dp 0 ?_; first | refine tp (fun _ => v_p) ?_) | (refine dw 0 ?_; first | refine tw (v_la (hv := sub_all (kzC_length k))) ?_ | refine tw (v_lke (b := bm) (clock := clock) (es := es) (l := l) (kk := k) (by repeat (first | exact List.Mem.head _ | apply List.Mem.tail)) hkv zero55 hv1 hv2) ?_)
  first | (refine dp 1 ?_; first | refine tp (fun _ => v_p) ?_) | (refine dw 1 ?_; first | refine tw (v_la (hv := sub_all (kzC_length k))) ?_ | refine tw (v_lke (b := bm) (clock := clock) (es := es) (l := l) (kk := k) (by repeat (first | exact List.Mem.head _ | apply List.Mem.tail)) hkv zero55 hv1 hv2) ?_)
  first | (refine dp 2 ?_; first | refine tp (fun _ => v_f) ?_) | (refine dw 2 ?_; first | refine tw (v_la (hv := sub_all (kzC_length k))) ?_ | refine tw (v_lke (b := bm) (clock := clock) (es := es) (l := l) (kk := k) (by repeat (first | exact List.Mem.head _ | apply List.Mem.tail)) hkv zero55 hv1 hv2) ?_)
  first | (refine dw 3 ?_; first | refine tw (v_la (hv := sub_all (kzC_length k))) ?_ | refine tw (v_lke (b := bm) (clock := clock) (es := es) (l := l) (kk := k) (by repeat (first | exact List.Mem.head _ | apply List.Mem.tail)) hkv zero55 hv1 hv2) ?_ | refine tw (v_l) ?_ | refine tw (v_la) ?_ | refine tw (v_ls) ?_ | refine tw (v_lr) ?_ | refine tw ((v_ge hG)) ?_)
  first | (refine dw 4 ?_; first | refine tw (v_la (hv := sub_all (kzC_length k))) ?_ | refine tw (v_lke (b := bm) (clock := clock) (es := es) (l := l) (kk := k) (by repeat (first | exact List.Mem.head _ | apply List.Mem.tail)) hkv zero55 hv1 hv2) ?_ | refine tw (v_l) ?_ | refine tw (v_la) ?_ | refine tw (v_ls) ?_ | refine tw (v_lr) ?_ | refine tw ((v_ge hG)) ?_)
  first | (refine dw 5 ?_; first | refine tw (v_la (hv := sub_all (kzC_length k))) ?_ | refine tw (v_lke (b := bm) (clock := clock) (es := es) (l := l) (kk := k) (by repeat (first | exact List.Mem.head _ | apply List.Mem.tail)) hkv zero55 hv1 hv2) ?_ | refine tw (v_lk) ?_)
  first | (refine dp 6 ?_; first | refine tp (fun _ => v_p) ?_) | (refine dw 6 ?_; first | refine tw (v_la (hv := sub_all (kzC_length k))) ?_ | refine tw (v_lke (b := bm) (clock := clock) (es := es) (l := l) (kk := k) (by repeat (first | exact List.Mem.head _ | apply List.Mem.tail)) hkv zero55 hv1 hv2) ?_)
  first | (refine dp 7 ?_; first | refine tp (fun _ => v_p) ?_) | (refine dw 7 ?_; first | refine tw (v_la (hv := sub_all (kzC_length k))) ?_ | refine tw (v_lke (b := bm) (clock := clock) (es := es) (l := l) (kk := k) (by repeat (first | exact List.Mem.head _ | apply List.Mem.tail)) hkv zero55 hv1 hv2) ?_)
  first | (refine dp 8 ?_; first | refine tp (fun _ => v_p) ?_) | (refine dw 8 ?_; first | refine tw (v_la (hv := sub_all (kzC_length k))) ?_ | refine tw (v_lke (b := bm) (clock := clock) (es := es) (l := l) (kk := k) (by repeat (first | exact List.Mem.head _ | apply List.Mem.tail)) hkv zero55 hv1 hv2) ?_)
  refine d_e 9 ?_
  refine f_al fun b6 => ?_
  refine ⟨?_, ?_⟩
  · first | exact st_n | exact st_l rfl | exact st_s (by repeat (first | exact List.Sublist.refl _ | exact List.nil_sublist _ | exact List.sublist_append_right _ _ | apply List.Sublist.cons_cons | apply List.Sublist.cons))
  refine d_e 10 ?_
  first | refine f_st (hl := pg_sAll rfl) (hc := pgC_length _ _ _) (hp := pgC_plain _ _ _) (hr := pgb (by omega)) ⟨?_, ?_⟩ | refine f_st ⟨?_, ?_⟩
  · first | exact st_n | exact st_l rfl | exact st_s (by repeat (first | exact List.Sublist.refl _ | exact List.nil_sublist _ | exact List.sublist_append_right _ _ | apply List.Sublist.cons_cons | apply List.Sublist.cons))
  first | (refine dp 11 ?_; first | refine tp (fun _ => v_p) ?_) | (refine dw 11 ?_; first | refine tw (v_la (hv := sub_all (kzC_length k))) ?_ | refine tw (v_lke (b := bm) (clock := clock) (es := es) (l := l) (kk := k) (by repeat (first | exact List.Mem.head _ | apply List.Mem.tail)) hkv zero55 hv1 hv2) ?_)
  refine d_z ?_
  dsimp only
  repeat (first | refine w_ (v_la (hv := pg_all rfl)) ?_ | refine e_ (f_st (hl := pg_sAll rfl) (hc := pgC_length _ _ _) (hp := pgC_plain _ _ _) (hr := pgb (by omega)) ?_) | refine r_seq ?_ | refine ri_seq ?_ | refine ri_region ?_ | refine ri_skip ?_ | refine ri_block ?_ | refine xi_ ?_ | refine r_nil ?_ | refine r_region ?_ | refine r_skip ?_ | refine r_block ?_ | refine r_inBlock ?_ | refine x_ ?_ | refine w_ v_p ?_ | refine w_ v_cv ?_ | refine w_ v_and ?_ | refine w_ v_or ?_ | refine w_ v_f ?_ | refine w_ v_b ?_ | refine w_ v_r ?_ | refine w_ v_i ?_ | refine w_ v_a ?_ | refine w_ v_l ?_ | refine w_ v_la ?_ | refine w_ v_ls ?_ | refine w_ v_lr ?_ | refine w_ v_ln ?_ | refine w_ v_bd ?_ | refine w_ v_ba ?_ | refine w_ v_mf ?_ | refine w_ v_sap ?_ | refine w_ v_pkf ?_ | refine w_ v_pkt ?_ | refine w_ v_nl ?_ | refine w_ v_nn ?_ | refine e_ (f_st ?_) | refine e_ (f_al fun _ => ?_) | refine e_ (f_bx fun _ => ?_))
  exact t2 (.cons _ (.cons _ (.cons _ (List.Sublist.refl _)))) ⟨rfl, rfl⟩ (.cella rfl (.tail _ (.head _)) (pg_all rfl) (.tmp rfl .nil))

theorem pin_does (s : Sp) (k : Kz) (w : World) (hw : (St.mk w (blks (spL s)) (spL s)).holds w) :
    Does Tryz.prog 84 [.pointer (some ⟨s.bs, 0, none⟩), kzV k] w (blks (spL s)) (fun _ L => L = spL { s with pin := k, pinned := true }) := by
  refine does_ofM Tryz.func84 rfl rfl hw ?_
  generalize blks (spL s) = FF at hw ⊢
  obtain ⟨most, bs, bm, q, cap, l, es, clock, pin, pinned⟩ := s
  dsimp only at hw ⊢
  repeat (first | refine e_ (f_bx (c := kzC k) fun b3 => ?_) | refine w_ (v_la (hv := sub_all (kzC_length k))) ?_ | refine e_ (f_st (vs := kzC k) (l' := stoC most bm q l.length cap k pinned) (hl := rfl) ?_) | refine r_seq ?_ | refine ri_seq ?_ | refine ri_region ?_ | refine ri_skip ?_ | refine ri_block ?_ | refine xi_ ?_ | refine r_nil ?_ | refine r_region ?_ | refine r_skip ?_ | refine r_block ?_ | refine r_inBlock ?_ | refine x_ ?_ | refine w_ v_p ?_ | refine w_ v_cv ?_ | refine w_ v_and ?_ | refine w_ v_or ?_ | refine w_ v_f ?_ | refine w_ v_b ?_ | refine w_ v_r ?_ | refine w_ v_i ?_ | refine w_ v_a ?_ | refine w_ v_l ?_ | refine w_ v_la ?_ | refine w_ v_ls ?_ | refine w_ v_lr ?_ | refine w_ v_ln ?_ | refine w_ v_bd ?_ | refine w_ v_ba ?_ | refine w_ v_mf ?_ | refine w_ v_sap ?_ | refine w_ v_pkf ?_ | refine w_ v_pkt ?_ | refine w_ v_nl ?_ | refine w_ v_nn ?_ | refine e_ (f_st ?_) | refine e_ (f_al fun _ => ?_) | refine e_ (f_bx fun _ => ?_))
  exact r_fin rfl .nil (.cons _ (List.Sublist.refl _)) rfl

theorem free_does (s : Sp) (w : World) (hw : (St.mk w (blks (spL s)) (spL s)).holds w) :
    Does Tryz.prog 85 [.pointer (some ⟨s.bs, 0, none⟩)] w (blks (spL s)) (fun _ L => L = spL { s with pinned := false }) := by
  refine does_ofM Tryz.func85 rfl rfl hw ?_
  generalize blks (spL s) = FF at hw ⊢
  obtain ⟨most, bs, bm, q, cap, l, es, clock, pin, pinned⟩ := s
  dsimp only at hw ⊢
  repeat (first | refine r_seq ?_ | refine ri_seq ?_ | refine ri_region ?_ | refine ri_skip ?_ | refine ri_block ?_ | refine xi_ ?_ | refine r_nil ?_ | refine r_region ?_ | refine r_skip ?_ | refine r_block ?_ | refine r_inBlock ?_ | refine x_ ?_ | refine w_ v_p ?_ | refine w_ v_cv ?_ | refine w_ v_and ?_ | refine w_ v_or ?_ | refine w_ v_f ?_ | refine w_ v_b ?_ | refine w_ v_r ?_ | refine w_ v_i ?_ | refine w_ v_a ?_ | refine w_ v_l ?_ | refine w_ v_la ?_ | refine w_ v_ls ?_ | refine w_ v_lr ?_ | refine w_ v_ln ?_ | refine w_ v_bd ?_ | refine w_ v_ba ?_ | refine w_ v_mf ?_ | refine w_ v_sap ?_ | refine w_ v_pkf ?_ | refine w_ v_pkt ?_ | refine w_ v_nl ?_ | refine w_ v_nn ?_ | refine e_ (f_st ?_) | refine e_ (f_al fun _ => ?_) | refine e_ (f_bx fun _ => ?_))
  exact r_fin rfl .nil (List.Sublist.refl _) rfl

/-- What 'store.New' hands back. -/
def NewS (E : Nat → Value) (most : Int) (v : Value) (L : Hp) : Prop :=
  if most < 1 ∨ 800 < most then v = .tuple #[.pointer none, E 0] ∧ L = [] else ∃ bs bm, v = .tuple #[.pointer (some ⟨bs, 0, none⟩), .nilIface] ∧ L = spL ⟨most, bs, bm, none, 0, [], [], 0, ⟨0, 0, 0⟩, false⟩

theorem newS_does (E : Nat → Value) (most : Int) (w : World) (hG : Glob w [] E) : Does Tryz.prog 57 [.int .i64 most] w [] (NewS E most) := by
  refine does_of Tryz.func57 rfl rfl ?_
  repeat (first | refine r_seq ?_ | refine ri_seq ?_ | refine ri_region ?_ | refine ri_skip ?_ | refine ri_block ?_ | refine xi_ ?_ | refine r_nil ?_ | refine r_region ?_ | refine r_skip ?_ | refine r_block ?_ | refine r_inBlock ?_ | refine x_ ?_ | refine w_ v_p ?_ | refine w_ v_cv ?_ | refine w_ v_and ?_ | refine w_ v_or ?_ | refine w_ v_f ?_ | refine w_ v_b ?_ | refine w_ v_r ?_ | refine w_ v_i ?_ | refine w_ v_a ?_ | refine w_ v_l ?_ | refine w_ v_la ?_ | refine w_ v_ls ?_ | refine w_ v_lr ?_ | refine w_ v_ln ?_ | refine w_ v_bd ?_ | refine w_ v_ba ?_ | refine w_ v_mf ?_ | refine w_ v_sap ?_ | refine w_ v_pkf ?_ | refine w_ v_pkt ?_ | refine w_ v_nl ?_ | refine w_ v_nn ?_ | refine e_ (f_st ?_) | refine e_ (f_al fun _ => ?_) | refine e_ (f_bx fun _ => ?_))
  refine c_ (fun h => ?_) (fun h => ?_)
  · have h' : most < 1 ∨ 800 < most := by simpa using h
    repeat refine r_seq ?_
    refine d_in [] [] ?_
    first | (refine dw 0 ?_; first | refine tw (v_l) ?_ | refine tw (v_la) ?_ | refine tw (v_ls) ?_ | refine tw (v_lr) ?_ | refine tw ((v_ge hG)) ?_)
    first | (refine dp 1 ?_; first | refine tp (fun _ => v_p) ?_)
    first | (refine dp 2 ?_; first | refine tp (fun _ => v_p) ?_)
    refine d_z ?_
    refine t2 (List.nil_sublist _) ?_
    rw [NewS, if_pos h']
    exact ⟨rfl, rfl⟩
  · have h' : ¬ (most < 1 ∨ 800 < most) := by simpa using h
    repeat (first | refine e_ (f_mm fun bm => ?_) | refine r_seq ?_ | refine ri_seq ?_ | refine ri_region ?_ | refine ri_skip ?_ | refine ri_block ?_ | refine xi_ ?_ | refine r_nil ?_ | refine r_region ?_ | refine r_skip ?_ | refine r_block ?_ | refine r_inBlock ?_ | refine x_ ?_ | refine w_ v_p ?_ | refine w_ v_cv ?_ | refine w_ v_and ?_ | refine w_ v_or ?_ | refine w_ v_f ?_ | refine w_ v_b ?_ | refine w_ v_r ?_ | refine w_ v_i ?_ | refine w_ v_a ?_ | refine w_ v_l ?_ | refine w_ v_la ?_ | refine w_ v_ls ?_ | refine w_ v_lr ?_ | refine w_ v_ln ?_ | refine w_ v_bd ?_ | refine w_ v_ba ?_ | refine w_ v_mf ?_ | refine w_ v_sap ?_ | refine w_ v_pkf ?_ | refine w_ v_pkt ?_ | refine w_ v_nl ?_ | refine w_ v_nn ?_ | refine e_ (f_st ?_) | refine e_ (f_al fun _ => ?_) | refine e_ (f_bx fun _ => ?_))
    rename_i bs
    refine r_row (T := 45) (sz := 3) ?_
    refine r_ord (M := spL ⟨most, bs, bm, none, 0, [], [], 0, ⟨0, 0, 0⟩, false⟩) (t2 (List.Sublist.refl _) ?_)
    rw [NewS, if_neg h']
    exact ⟨bs, bm, rfl, rfl⟩
end Go.Proofs

