/-
  Ranges over a function; pages found; errors told apart.
-/
import Derived.Test.YtdjgkbphbffleaaGreatDoorA12
import Derived.Test.YtdjgkbphbffleaaGreatDoorA14
import Derived.Test.YtdjgkbphbffleaaGreatDoorA09
import Derived.Test.YtdjgkbphbffleaaGreatDoorA02
import Derived.Deep.RegionHeld3
import Derived.LaidEql
namespace Go.Cf
open Go.Proofs

section
variable {P : Program} {n : Nat} {Q : Exit → Act → World → Prop} {k : List It} {f : Nat → Value} {σ : Bd} {s : St} {w0 : World} {F : List Nat} {L Lp : Hp} {l : Nat}

theorem ex_outgrown (k : List It) (a : Act) (w : World) : ex P Q k .outgrown a w = Q .outgrown a w := by
  induction k with
  | nil => rfl
  | cons i k ih => exact ih

def ndf : List Oper → Bool
  | [] => true
  | o :: r => match o.op with | .defer _ => false | _ => ndf r

theorem ndf_mem {ops : List Oper} (h : ndf ops = true) : ∀ o ∈ ops, ∀ c, o.op ≠ .defer c := by
  induction ops with
  | nil => simp
  | cons o r ih =>
    intro x hx c hc
    rcases List.mem_cons.1 hx with rfl | hx
    · simp only [ndf, hc] at h; cases h
    · refine ih ?_ x hx c hc
      simp only [ndf] at h
      split at h
      · cases h
      · exact h

theorem rows_in {row : String} {args : Array Value} {w : World} {R : Value → World → Prop} (h : Rows P row args w R) : RowsIn (Fence.wide.inRound l) (0 - 1) P row args w R :=
  fun c cs _ => let ⟨v, w', r, s⟩ := h c cs; ⟨v, w', r, stepsIn_wide.2 s⟩

theorem oper_in {o : Oper} {a : Act} {w : World} {N : Act → World → Prop} (hd : ∀ c, o.op ≠ .defer c) (h : o.wp P a w N Q) : o.wpIn (Fence.wide.inRound l) 0 P a w N Q := by
  unfold Oper.wpIn
  refine ⟨fun _ _ => trivial, ?_⟩
  rw [Oper.semAt_eq _ _ _ hd]
  unfold Oper.wp at h
  generalize (execOp a.eval o).run P w = r at *
  cases r with
  | ok x w' =>
    cases x with
    | value v => exact h
    | skip => exact h
    | defer d => exact h
    | enter g args => exact ⟨fun h => by simp [Fence.wide] at h, callsIn_wide.2 h⟩
    | row r args => exact ⟨fun h => by simp [Fence.wide] at h, rows_in h⟩
    | _ => exact h.elim
  | halt x w' => cases x <;> exact h

theorem list_in {all : Array Oper} (hQ : ¬ LetsOut Q) : ∀ (ops : List Oper), ndf ops = true → ∀ a w, wpList P all Q ops a w → wpListIn (Fence.wide.inRound l) 0 P all Q ops a w := by
  intro ops
  induction ops with
  | nil => exact fun _ _ _ h => h
  | cons o r ih =>
    intro hn a w h
    have ho : ∀ c, o.op ≠ .defer c := ndf_mem hn o (.head _)
    have hr : ndf r = true := by
      simp only [ndf] at hn
      first
        | exact hn
        | (split at hn
           · cases hn
           · exact hn)
    simp only [wpList] at h
    simp only [wpListIn]
    split
    · rename_i hw
      rw [if_pos hw] at h
      exact Oper.wpIn_mono (ih hr) (oper_in ho (h.resolve_right fun x => hQ x.2))
    · rename_i hw
      rw [if_neg hw] at h
      exact ⟨fun _ _ => trivial, ih hr _ _ h⟩

theorem any_in {ops : Array Oper} (hn : ∀ o ∈ ops.toList, ∀ c, o.op ≠ .defer c) (hQ : ¬ LetsOut Q) : ∀ (m : Nat) (listed : Array Bool) (a : Act) (w : World), wpAny P .any ops Q m listed a w → wpAnyIn (Fence.wide.inRound l) 0 P .any ops Q m listed a w := by
  intro m
  induction m with
  | zero => exact fun _ _ _ h => h
  | succ m ih =>
    intro listed a w h
    refine ⟨h.1, fun i hi => ?_⟩
    have h2 := h.2 i hi
    unfold wpOp at h2
    unfold wpOpIn
    split
    · rename_i hnone; rw [hnone] at h2; exact ih _ _ _ h2
    · rename_i o ho
      rw [ho] at h2
      simp only at h2
      split
      · rename_i hw
        rw [if_pos hw] at h2
        exact Oper.wpIn_mono (fun a w => ih _ a w) (oper_in (hn o (by rw [Array.mem_toList_iff]; exact Array.mem_of_getElem? ho)) (h2.resolve_right fun x => hQ x.2))
      · rename_i hw
        rw [if_neg hw] at h2
        exact ⟨fun _ _ => trivial, ih _ _ _ h2⟩

/-! ### Walking in a round -/

theorem ri_seq {x y : Code} (h : Wk P n Q (.rcode l x :: .rcode l y :: k) f σ s) : Wk P n Q (.rcode l (.seq x y) :: k) f σ s := by
  intro a w hr hs
  refine wpIn_seq (wpIn_mono (h a w hr hs) fun e a w q => ?_)
  cases e <;> exact q
theorem ri_skip (h : Wk P n Q k f σ s) : Wk P n Q (.rcode l .skip :: k) f σ s := fun a w hr hs => wpIn_skip (h a w hr hs)
theorem ri_block {id : Nat} {c : Code} (h : Wk P n Q (.rcode l c :: .block id :: k) f σ s) : Wk P n Q (.rcode l (.block id c) :: k) f σ s := by
  intro a w hr hs
  refine wpIn_block (wpIn_mono (h a w hr hs) fun e a w q => ?_)
  cases e <;> exact q
theorem xi_ {id : Nat} {k' : List It} (h : Wk P n Q k' f σ s) (hd : dropTo id k = some k' := by exact rfl) : Wk P n Q (.rcode l (.exit id) :: k) f σ s :=
  fun a w hr hs => wpIn_exit (by rw [ex_exit hd]; exact h a w hr hs)
theorem ri_region {id : Nat} {ops : List Oper} (h : Wk P n Q (.ops ops.toArray ops :: k) f σ s) (hQ : ∀ a w, ¬ Q .outgrown a w := by exact fun _ _ h => h) (hn : ndf ops = true := by exact rfl) : Wk P n Q (.rcode l (.region id ops.toArray false) :: k) f σ s :=
  fun a w hr hs => wpIn_region_lit (list_in (fun ⟨a, w, h⟩ => hQ a w (by rw [ex_outgrown] at h; exact h)) _ hn _ _ (h a w hr hs))
theorem ci_ {c : Operand} {x y : Code} {t : Bool} (ht : t = true → Wk P n Q (.rcode l x :: k) f σ s) (hf : t = false → Wk P n Q (.rcode l y :: k) f σ s) (hc : evo f σ c = some (.bool t) := by exact rfl) (hcc : (sv f σ c).cnd = true := by exact rfl) : Wk P n Q (.rcode l (.cond c x y) :: k) f σ s :=
  fun a w hr hs => wpIn_cond_split (t := t) (by rw [hr.eval]; exact ev_of_evo hc hcc) (fun h => ht h a w hr hs) (fun h => hf h a w hr hs)
theorem di_in (Lp : Hp) (lst : List Nat) {id : Nat} {ops : List Oper} (h : WkD P n Q k ops w0 F Lp lst ops.length (Array.replicate ops.length false) f σ L) (hQ : ∀ a w, ¬ Q .outgrown a w := by exact fun _ _ h => h) (hn : ndf ops = true := by exact rfl) (hm : P.follows .mixedOrders = true := by kernel_rfl) :
    Wk P n Q (.rcode l (.region id ops.toArray true) :: k) f σ ⟨w0, F, L⟩ :=
  fun a w hr hs => wpIn_mono (Q := NoPanic (ex P Q k)) (wpIn_region_any hm (by
    have := wpD_any _ _ _ _ (h a { w with drawn := w.drawn + 1 } hr (hs.drew _))
    exact any_in (by simpa using ndf_mem hn) (fun ⟨a, w, h⟩ => hQ a w (by have := NoPanic.imp _ _ _ h; rw [ex_outgrown] at this; exact this)) _ _ _ _ (by simpa using this))) NoPanic.imp

/-! ### The call of 'yield' -/

theorem ry_region {id : Nat} {ops : List Oper} (h : Wk P n Q (.opsI ops.toArray ops :: k) f σ s) : Wk P n Q (.code (.region id ops.toArray false) :: k) f σ s :=
  fun a w hr hs => wpIn_wide.1 (wpIn_region_lit (n := 0) (h a w hr hs))
theorem ny_ {all : Array Oper} (h : Wk P n Q k f σ s) : Wk P n Q (.opsI all [] :: k) f σ s := h
variable {all : List Oper} {o : Oper} {rest : List Oper}
theorem wy_ {gd : Option Bool} {d : Nat} {v : Value} (hv : Val P n f σ all s o d gd v) (h : Wk P n Q (.opsI all.toArray rest :: k) f ((d, mk gd v) :: σ) s) : Wk P n Q (.opsI all.toArray (o :: rest) :: k) f σ s := by
  have hdn : d < n := Nat.le_of_ble_eq_true hv.hn
  intro a w hr hs
  refine wpListIn_step fun K hK => ?_
  rw [wanted_of hr hv.hg]
  cases hc : gdc gd with
  | true =>
    simp only [if_true]
    refine ⟨fun _ _ => trivial, ?_⟩
    have h1 : (o.semAt Fence.wide.round a.eval) = execOp a.eval o := rfl
    rw [h1, hv.hr a w hr hc hs]
    simp only [Oper.uponIn, hv.hd]
    refine hK _ _ ?_
    have := hr.put hdn (mk gd v)
    rw [mk_true hc] at this
    exact h _ w this hs
  | false =>
    simp only [Bool.false_eq_true, if_false]
    refine ⟨fun _ _ => trivial, hK _ _ ?_⟩
    rw [hv.hd]
    have := hr.put hdn (mk gd v)
    rw [mk_false hc] at this
    exact h _ w this hs

/-- A call of 'yield' comes back, and has changed what lies in C. -/
theorem yy_ {x : Operand} {xs : List Operand} {ats : Array TypeId} {d y : Nat} {ty : TypeId} {pos : String} {after : Array Edge} {dst : Option Tmp} {guard : Option (Nat × Bool)} {gd : Option Bool} {vs : List Value} {C R : Hp} {Φ : Value → Hp → Prop} (hgd : gdc gd = true)
    (hC : L.Perm (C ++ R)) (hc : ∀ w, (St.mk w (blks C) C).holds w → YieldAt Fence.wide 0 P y vs.toArray w (Post w (blks C) Φ))
    (h : ∀ v L', Φ v L' → Wk P n Q (.opsI all.toArray rest :: k) f ((d, mk gd v) :: σ) ⟨w0, F, L' ++ R⟩)
    (hx : evo f σ x = some (.func (.yield y) #[] #[]) := by exact rfl) (hcx : (gdc gd = true → (sv f σ x).cnd = true) := by exact fun _ => rfl) (hvs : evl f σ xs = vs := by exact rfl) (hcc : cndl f σ xs = true := by exact rfl)
    (hd : dst = some d := by exact rfl) (hn : Nat.ble (d + 1) n = true := by exact rfl) (hg : gdOf f σ all guard = some gd := by exact rfl) :
    Wk P n Q (.opsI all.toArray (⟨dst, .call { callee := .value x, args := xs.toArray, argTypes := ats }, ty, pos, after, guard⟩ :: rest) :: k) f σ ⟨w0, F, L⟩ := by
  have hdn : d < n := Nat.le_of_ble_eq_true hn
  subst hd
  intro a w hr hs
  refine wpListIn_step fun K hK => ?_
  rw [wanted_of hr hg, hgd]
  simp only [if_true]
  refine ⟨fun _ _ => trivial, ?_⟩
  obtain ⟨fn, tmps, assign, body, hyr, hround⟩ := hc w ((hs.perm hC).give (R := R) (List.Perm.refl _))
  have hex : (Oper.semAt Fence.wide.round a.eval (⟨some d, .call { callee := .value x, args := xs.toArray, argTypes := ats }, ty, pos, after, guard⟩ : Oper)).run P w = .ok (.round y fn tmps assign body) w := by
    have h1 : ∀ o, Oper.semAt Fence.wide.round a.eval o = execOp a.eval o := fun _ => rfl
    rw [← hyr, h1]
    simp only [execOp, resolve, Deferred.ofValue, invoke, hr.eval, List.map_toArray, evs_map, evs_evl hcc, ev_of_evo hx (hcx hgd), Array.empty_append, Bind.bind, Pure.pure, Sem.bind]
    rw [hvs]
  rw [hex]
  refine ⟨fun h => by simp [Fence.wide] at h, hround.mono fun e w' he => ?_⟩
  cases e with
  | returned v =>
    obtain ⟨L', hΦ, hs'⟩ := he
    refine hK _ _ ?_
    have := hr.put hdn (mk gd v)
    rw [mk_true hgd] at this
    exact h v L' hΦ _ _ this ((hs.perm hC).call (fun b hb => hb) hs')
  | panicked c => exact he.elim
  | outgrown => exact he.elim

/-! ### Rounds -/

theorem St.holds.obj {w : World} {b : Nat} {o' : Obj} {o1 : Obj} {L' : Hp} (h : (St.mk w0 F L).holds w) (hu : Upd L (.obj b o1) (.obj b o') L') : (St.mk w0 F L').holds (w.putObj b o') := by
  have hb : w.heap[b]? = some o1 := h.own _ hu.mem
  have hlt := (Array.getElem?_eq_some_iff.1 hb).1
  refine h.upd hu rfl rfl rfl (by simp [World.putObj]) (fun k _ hk => World.putObj_heap_other fun e => hk (by rw [e]; rfl)) (World.putObj_heap_same hlt) (fun b' hb' => .inl hb')

/-- What begins a round. -/
def Begin (P : Program) (l : Nat) (body : Code) (R : Ending → World → Prop) (a : Act) (w : World) : Prop :=
  ∃ w₂, (Instr.beginRound l).run P w = .ok () w₂ ∧ body.wpIn (Fence.wide.inRound l) 0 P (roundPost P l R) a w₂

theorem r_begin {body : Code} {R : Ending → World → Prop} {r : Loop} {L' : Hp} (h : Wk P n (roundPost P l R) [.rcode l body] f σ ⟨w0, F, L'⟩)
    (hu : Upd L (.obj l (.loop r)) (.obj l (.loop { r with state := .busy })) L' := by repeat (first | exact Upd.head | apply Upd.tail)) (hst : r.state = .ready := by exact rfl) :
    Wk P n Q (.stop (Begin P l body R) :: k) f σ ⟨w0, F, L⟩ := by
  intro a w hr hs
  refine ⟨_, run_beginRound (hs.own _ hu.mem) hst, ?_⟩
  refine wpIn_mono (h a _ hr (hs.obj hu)) fun e a w q => ?_
  exact q

theorem r_ended {w : World} {Φ : Value → Hp → Prop} {r : Loop} {L' : Hp} (hu : Upd L (.obj l (.loop r)) (.obj l (.loop { r with state := .ready, pending := none })) L') {L2 : Hp} (hL : L2.Sublist L') (hΦ : Φ (.bool true) L2) :
    Wk P n (roundPost P l (Post w F Φ)) [] f σ ⟨w, F, L⟩ :=
  r_end fun _ W hr hs => by
    have := run_endRound (P := P) (w := W) none (hs.own _ hu.mem)
    exact ⟨_, _, this, L2, hΦ, (hs.obj hu).sub hL⟩

/-- A round. -/
theorem y_round {a : Act} {fn : FuncId} {p1 p2 D : Nat} {assign body : Code} {x y : Value} {C : Hp} {Φ : Value → Hp → Prop} {w : World} (hr : Rep n f σ a) (hn : nod n σ = true) (h1 : p1 < n) (h2 : p2 < n) (hw : (St.mk w (blks C) C).holds w)
    (hm : En.obj l (.loop { state := .ready, pending := none, fn, tmps := a.tmps, params := #[p1, p2], assign, body, defers := D }) ∈ C)
    (h : Wk P n (fun _ _ _ => False) [.rcode l assign, .stop (Begin P l body (Post w (blks C) Φ))] f ((p2, .v y) :: (p1, .v x) :: σ) ⟨w, blks C, C⟩) :
    YieldAt Fence.wide 0 P l #[x, y] w (Post w (blks C) Φ) := by
  refine ⟨fn, _, assign, body, run_yield (hw.own _ hm) rfl, roundIn_of_wpIn trivial ?_⟩
  have ha : Rep n f σ { tmps := a.tmps, defers := [] } := ⟨hr.size, (nod_dfs hn).symm, hr.val⟩
  have hrep := (ha.put h1 (.v x)).put h2 (.v y)
  refine wpIn_mono (h _ w (by simpa [Act.put, SV.val] using hrep) hw) fun e a' w' q => ?_
  cases e with
  | normal => exact q
  | exit id => exact q
  | goto t => exact q
  | ret => exact q
  | panic c => exact q
  | outgrown => exact q

/-! ### The statement -/

def recO (fn : FuncId) (tmps : Array Value) (ps : Array Tmp) (assign body : Code) (D : Nat) : Obj := .loop { state := .ready, pending := none, fn, tmps, params := ps, assign, body, defers := D }

theorem r_range {g : Operand} {ps : Array Tmp} {assign body : Code} {gf : Nat} [Ent P gf] {lb : List Value} {Φ : Hp → Prop}
    (hcall : ∀ (fn : FuncId) (a : Act) (D b : Nat) (w : World), Rep n f σ a → (St.mk w0 F (.obj b (recO fn a.tmps ps assign body D) :: .obj D (.deferred (some [])) :: L)).holds w →
      Does P gf (.func (.yield b) #[] #[] :: lb) w (blks (.obj b (recO fn a.tmps ps assign body D) :: .obj D (.deferred (some [])) :: L)) (fun _ L' => ∃ L2, L' = .obj b (recO fn a.tmps ps assign body D) :: .obj D (.deferred (some [])) :: L2 ∧ Φ L2))
    (h : ∀ L2 D, Φ L2 → Wk P n Q k f ((n, .g false (.int .i64 (D : Nat))) :: σ) ⟨w0, F, .obj D (.deferred (some [])) :: L2⟩)
    (hg : evo f σ g = some (.func (.func gf) #[] lb.toArray) := by exact rfl) (hcg : (sv f σ g).cnd = true := by exact rfl) (hn : nod n σ = true := by exact rfl) :
    Wk P n Q (.code (.rangeFunc g ps assign body) :: k) f σ ⟨w0, F, L⟩ := by
  intro a w hr hs
  refine (wpIn_wide (n := 0)).1 (wpIn_rangeFunc ?_)
  intro fn _
  have hs1 : (St.mk w0 F (.obj w.heap.size (.deferred (some [])) :: L)).holds (w.alloc (.deferred (some []))) :=
    hs.cons (e' := .obj w.heap.size (.deferred (some []))) rfl rfl rfl (by simp) (fun k' hk => aold w _ k' hk) (World.alloc_heap_new w _) (fun b hb => by simp only [En.blk, Option.some.injEq] at hb; omega)
  have hs2 : (St.mk w0 F (.obj (w.heap.size + 1) (recO fn a.tmps ps assign body w.heap.size) :: .obj w.heap.size (.deferred (some [])) :: L)).holds ((w.alloc (.deferred (some []))).alloc (recO fn a.tmps ps assign body w.heap.size)) := by
    refine hs1.cons (e' := .obj (w.heap.size + 1) (recO fn a.tmps ps assign body w.heap.size)) rfl rfl rfl (by simp) (fun k' hk => aold _ _ k' hk) ?_ (fun b hb => by simp only [En.blk, Option.some.injEq] at hb; simp; omega)
    have := World.alloc_heap_new (w.alloc (.deferred (some []))) (recO fn a.tmps ps assign body w.heap.size)
    rwa [World.size_alloc] at this
  refine ⟨w.heap.size + 1, [{ target := .collected w.heap.size, args := #[] }], (w.alloc (.deferred (some []))).alloc (recO fn a.tmps ps assign body w.heap.size), { target := .fn (.func gf) lb.toArray, args := #[.func (.yield (w.heap.size + 1)) #[] #[]] }, (w.alloc (.deferred (some []))).alloc (recO fn a.tmps ps assign body w.heap.size), gf,
    #[.func (.yield (w.heap.size + 1)) #[] #[]] ++ lb.toArray, (w.alloc (.deferred (some []))).alloc (recO fn a.tmps ps assign body w.heap.size), run_enterLoop_outer _ _ _ _ _, ?_, fun _ _ => trivial, ?_, fun h => by simp [Fence.wide] at h, ?_⟩
  · simp only [resolve, hr.eval, ev_of_evo hg hcg]
    simp [go_sem]
    rfl
  · have := (‹Ent P gf›).enters
    simp only [invoke]
    exact this _ _
  · have hd := hcall fn a w.heap.size (w.heap.size + 1) _ hr hs2
    refine callsIn_wide.2 (Calls.mono (by
      have h0 : (#[.func (.yield (w.heap.size + 1)) #[] #[]] ++ lb.toArray : Array Value) = (.func (.yield (w.heap.size + 1)) #[] #[] :: lb).toArray := by simp
      rw [h0]; exact hd) fun e w' he => ?_)
    cases e with
    | returned v =>
      obtain ⟨L', ⟨L2, rfl, hΦ⟩, hs'⟩ := he
      have hs3 : (St.mk w0 F (.obj (w.heap.size + 1) (recO fn a.tmps ps assign body w.heap.size) :: .obj w.heap.size (.deferred (some [])) :: L2)).holds w' := by
        have := (hs2.perm (List.append_nil _ ▸ List.Perm.refl _)).call (R := []) (fun b hb => hb) hs'
        simpa using this
      have hl := hs3.own _ (.head _)
      refine ⟨none, _, run_endLoop hl (by simp), ?_⟩
      have hs4 := (hs3.obj (o' := .loop { state := .exhausted, pending := none, fn, tmps := a.tmps, params := ps, assign, body, defers := w.heap.size }) Upd.head).sub (L' := .obj w.heap.size (.deferred (some [])) :: L2) (.cons _ (List.Sublist.refl _))
      refine h L2 w.heap.size hΦ _ _ ⟨hr.size, ?_, fun t => ?_⟩ hs4
      · rw [look_cons, if_pos rfl]
        show [_] ++ a.defers = _
        rw [hr.defers, nod_dfs hn]
        simp [dfs]
      · rw [look_cons]
        by_cases ht : n = t
        · subst ht
          rw [if_pos rfl]
          show a.tmps.getD n undef = undef
          rw [Array.getD_eq_getD_getElem?, Array.getElem?_eq_none (by rw [hr.size]; exact Nat.le_refl _)]; rfl
        · rw [if_neg ht]; exact hr.val t
    | panicked c => exact he.elim
    | outgrown => exact he.elim

/-! ### A function with such a statement -/

theorem does_ofY {g : Nat} {fn : Func} {c : Code} {args : List Value} {w : World} {F : List Nat} {L : Hp} {Φ : Value → Hp → Prop} (hf : P.funcs[g]? = some fn) (hb : fn.body = some c)
    (hlen : Nat.ble args.length fn.ntmps = true) (hL : (St.mk w F L).holds w)
    (h : Wk P fn.ntmps (bodyPostM Fence.wide 0 P fn (Post w F Φ)) [.code c] (fun _ => undef) (argsBd 0 args) ⟨w, F, L⟩) : Does P g args w F Φ := by
  refine (callsIn_wide (n := 0)).1 (callsIn_of_wp_marks hf hb trivial (wpIn_wide.2 (wp_mono (h _ w ?_ hL) fun e a w q => q)))
  have hle := Nat.le_of_ble_eq_true hlen
  refine ⟨by simp; omega, by rw [look_argsBd]; rfl, fun t => ?_⟩
  rw [look_argsBd]
  simp only [Nat.zero_le, if_true, Nat.sub_zero, SV.val, Array.getD_eq_getD_getElem?, List.getD_eq_getElem?_getD, Array.getElem?_append, List.size_toArray, List.getElem?_toArray]
  split
  · rfl
  · rename_i hge
    rw [List.getElem?_eq_none (by omega)]
    rw [Array.getElem?_replicate]
    split <;> rfl

/-- Back, a mark standing. -/
theorem tY {fn : Func} {w : World} {F : List Nat} {Φ : Value → Hp → Prop} {vs : List Value} {L2 L' : Hp} {D : Nat} {rs : List ResultVar} (hfn : fn.results = rs.toArray) (hres : Res f σ P L2 rs vs) (hL : L'.Sublist L2) (hΦ : Φ (packed vs) L')
    (hD : dfs (look f σ n) = [{ target := .collected D, args := #[] }] := by exact rfl) :
    Wk P n (bodyPostM Fence.wide 0 P fn (Post w F Φ)) (.code .ret :: k) f σ ⟨w, F, .obj D (.deferred (some [])) :: L2⟩ :=
  r_ret fun a W hr hs => by
    have hs' : (St.mk w F L2).holds (W.putObj D (.deferred none)) := (hs.obj Upd.head).sub (.cons _ (List.Sublist.refl _))
    show LeavesInM _ _ _ _ _ _ _ _ _
    rw [hr.defers, hD]
    exact ⟨by simp, .inl ⟨D, _, rfl, run_takeDeferred (hs.own _ (.head _)), packed vs, hres.run hr hs' fn hfn, L', hΦ, hs'.sub hL⟩⟩

/-- Back, no mark standing. -/
theorem tN {fn : Func} {w : World} {F : List Nat} {Φ : Value → Hp → Prop} {vs : List Value} {L' : Hp} {rs : List ResultVar} (hfn : fn.results = rs.toArray) (hres : Res f σ P L rs vs) (hL : L'.Sublist L) (hΦ : Φ (packed vs) L') (hn : nod n σ = true := by exact rfl) :
    Wk P n (bodyPostM Fence.wide 0 P fn (Post w F Φ)) (.code .ret :: k) f σ ⟨w, F, L⟩ :=
  r_ret fun a W hr hs => by
    show LeavesInM _ _ _ _ _ _ _ _ _
    rw [hr.defers, nod_dfs hn]
    exact ⟨packed vs, hres.run hr hs fn hfn, L', hΦ, hs.sub hL⟩

end
end Go.Cf

namespace Go.Cf
open Go.Proofs
theorem valP {l : List Pp} (hn : (l.map Pp.k).Nodup) {j : Nat} {x : Pp} (hx : l[j]? = some x) : valOf (ppL l) x.k = some (ppV x) := by
  induction l generalizing j with
  | nil => simp at hx
  | cons y r ih =>
    simp only [List.map_cons, List.nodup_cons] at hn
    simp only [ppL, List.map_cons, valOf]
    cases j with
    | zero =>
      simp only [List.getElem?_cons_zero, Option.some.injEq] at hx
      subst hx
      rw [if_pos rfl]
    | succ j =>
      rw [List.getElem?_cons_succ] at hx
      have hm := List.mem_of_getElem? hx
      rw [if_neg (fun h : x.k = y.k => hn.1 (by rw [← h]; exact List.mem_map.2 ⟨x, hm, rfl⟩))]
      exact ih hn.2 hx
/-- A row of states: each page turns one into the next. -/
def Rounds (P : Program) (y : Nat) (l : List Pp) (J : Nat → Hp → Prop) : Prop :=
  ∀ j x L, l[j]? = some x → J j L → ∀ w, (St.mk w (blks L) L).holds w → YieldAt Fence.wide 0 P y #[kzV x.k, ppV x] w (Post w (blks L) (fun v L' => v = .bool true ∧ J (j + 1) L'))
end Go.Cf
namespace Go.Proofs
open Go.Cf
set_option maxRecDepth 10000

theorem all_does (bs : Nat) (w : World) : Does Tryz.prog 79 [.pointer (some ⟨bs, 0, none⟩)] w [] (fun v L => ∃ b, v = .func (.func 147) #[] #[.pointer (some ⟨b, 0, none⟩)] ∧ L = [.cells b [.pointer (some ⟨bs, 0, none⟩)] 121]) := by
  refine does_of Tryz.func79 rfl rfl ?_
  repeat (first | refine e_ (f_bx fun b => ?_) | refine r_seq ?_ | refine ri_seq ?_ | refine ri_region ?_ | refine ri_skip ?_ | refine ri_block ?_ | refine xi_ ?_ | refine r_nil ?_ | refine r_region ?_ | refine r_skip ?_ | refine r_block ?_ | refine r_inBlock ?_ | refine x_ ?_ | refine w_ v_p ?_ | refine w_ v_cv ?_ | refine w_ v_and ?_ | refine w_ v_or ?_ | refine w_ v_f ?_ | refine w_ v_b ?_ | refine w_ v_r ?_ | refine w_ v_i ?_ | refine w_ v_a ?_ | refine w_ v_l ?_ | refine w_ v_la ?_ | refine w_ v_ls ?_ | refine w_ v_lr ?_ | refine w_ v_ln ?_ | refine w_ v_bd ?_ | refine w_ v_ba ?_ | refine w_ v_mf ?_ | refine w_ v_sap ?_ | refine w_ v_pkf ?_ | refine w_ v_pkt ?_ | refine w_ v_nl ?_ | refine w_ v_nn ?_ | refine e_ (f_st ?_) | refine e_ (f_al fun _ => ?_) | refine e_ (f_bx fun _ => ?_))
  exact t2 (List.Sublist.refl _) ⟨b, rfl, rfl⟩

theorem iter_does (s : Sp) (l : List Pp) (y b1 : Nat) (J : Nat → Hp → Prop) (L0 : Hp) (w : World) (hok : s.Ok) (hl : s.l = ppL l) (hJ : J 0 L0) (hy : Rounds Tryz.prog y l J)
    (hw : (St.mk w (blks (.cells b1 [.pointer (some ⟨s.bs, 0, none⟩)] 121 :: (spL s ++ L0))) (.cells b1 [.pointer (some ⟨s.bs, 0, none⟩)] 121 :: (spL s ++ L0))).holds w) :
    Does Tryz.prog 147 [.func (.yield y) #[] #[], .pointer (some ⟨b1, 0, none⟩)] w (blks (.cells b1 [.pointer (some ⟨s.bs, 0, none⟩)] 121 :: (spL s ++ L0))) (fun _ L => ∃ L1, L = spL s ++ L1 ∧ J l.length L1) := by
  refine does_ofM Tryz.func147 rfl rfl hw ?_
  generalize blks (.cells b1 [.pointer (some ⟨s.bs, 0, none⟩)] 121 :: (spL s ++ L0)) = FF at hw ⊢
  repeat (first | refine r_seq ?_ | refine ri_seq ?_ | refine ri_region ?_ | refine ri_skip ?_ | refine ri_block ?_ | refine xi_ ?_ | refine r_nil ?_ | refine r_region ?_ | refine r_skip ?_ | refine r_block ?_ | refine r_inBlock ?_ | refine x_ ?_ | refine w_ v_p ?_ | refine w_ v_cv ?_ | refine w_ v_and ?_ | refine w_ v_or ?_ | refine w_ v_f ?_ | refine w_ v_b ?_ | refine w_ v_r ?_ | refine w_ v_i ?_ | refine w_ v_a ?_ | refine w_ v_l ?_ | refine w_ v_la ?_ | refine w_ v_ls ?_ | refine w_ v_lr ?_ | refine w_ v_ln ?_ | refine w_ v_bd ?_ | refine w_ v_ba ?_ | refine w_ v_mf ?_ | refine w_ v_sap ?_ | refine w_ v_pkf ?_ | refine w_ v_pkt ?_ | refine w_ v_nl ?_ | refine w_ v_nn ?_ | refine e_ (f_st ?_) | refine e_ (f_al fun _ => ?_) | refine e_ (f_bx fun _ => ?_))
  refine e_ (f_cs (spL s) (fun b hb => hb) (fun w2 hw2 => keys_does s w2 hok (hw2.give (Spl.perm (by repeat (first | exact Spl.nil | exact Rem.head | apply Rem.tail | apply Spl.cons))))) fun v L' h => ?_)
  obtain ⟨q2, d2, rfl, rfl⟩ := h
  obtain ⟨most, bs, bm, q, cap, l', es, clock, pin, pinned⟩ := s
  obtain ⟨hkv, hnd, hle⟩ := hok
  dsimp only at hl
  subst hl
  dsimp only [Sp.keys] at hkv hnd hle hw ⊢
  have hlen : (ppL l).length = l.length := ppL_length l
  have hks : (ppL l).map (·.1) = l.map Pp.k := ppL_keys l
  simp only [hlen, hks] at hnd hle ⊢
  repeat (first | refine r_seq ?_ | refine ri_seq ?_ | refine ri_region ?_ | refine ri_skip ?_ | refine ri_block ?_ | refine xi_ ?_ | refine r_nil ?_ | refine r_region ?_ | refine r_skip ?_ | refine r_block ?_ | refine r_inBlock ?_ | refine x_ ?_ | refine w_ v_p ?_ | refine w_ v_cv ?_ | refine w_ v_and ?_ | refine w_ v_or ?_ | refine w_ v_f ?_ | refine w_ v_b ?_ | refine w_ v_r ?_ | refine w_ v_i ?_ | refine w_ v_a ?_ | refine w_ v_l ?_ | refine w_ v_la ?_ | refine w_ v_ls ?_ | refine w_ v_lr ?_ | refine w_ v_ln ?_ | refine w_ v_bd ?_ | refine w_ v_ba ?_ | refine w_ v_mf ?_ | refine w_ v_sap ?_ | refine w_ v_pkf ?_ | refine w_ v_pkt ?_ | refine w_ v_nl ?_ | refine w_ v_nn ?_ | refine e_ (f_st ?_) | refine e_ (f_al fun _ => ?_) | refine e_ (f_bx fun _ => ?_))
  refine r_pl (L1 := .cells b1 [.pointer (some ⟨bs, 0, none⟩)] 121 :: .row q2 l.length d2 (keysC (l.map Pp.k)) 45 3 :: .cells bs (stoC most bm q (ppL l).length cap pin pinned) 201 :: .map bm es clock :: .row q (ppL l).length cap (keysC ((ppL l).map (·.1))) 45 3 :: L0) (List.Sublist.refl _) (List.Perm.cons _ (List.perm_append_comm (l₁ := ([.row q2 l.length d2 (keysC (l.map Pp.k)) 45 3, .cells bs (stoC most bm q (ppL l).length cap pin pinned) 201, .map bm es clock, .row q (ppL l).length cap (keysC ((ppL l).map (·.1))) 45 3] : Hp)))) ?_
  refine r_loop (τ := Nat × Hp) (fun t => t.1 ≤ l.length ∧ J t.1 t.2) (fun t => l.length - t.1)
    (fun t => [(0, .v (.func (.yield y) #[] #[])), (1, .v (.pointer (some ⟨b1, 0, none⟩))), (8, .v (.slice q2 l.length d2)), (9, .v (.int .i64 l.length)), (10, .v (.int .i64 t.1))])
    (fun t => .cells b1 [.pointer (some ⟨bs, 0, none⟩)] 121 :: .row q2 l.length d2 (keysC (l.map Pp.k)) 45 3 :: .cells bs (stoC most bm q (ppL l).length cap pin pinned) 201 :: .map bm es clock :: .row q (ppL l).length cap (keysC ((ppL l).map (·.1))) 45 3 :: t.2) (0, L0) ⟨by dsimp only; omega, hJ⟩ ⟨rfl, rfl, rfl, rfl, rfl, trivial⟩ (List.Sublist.refl _) ?_
  rintro ⟨i, L1⟩ ⟨hi, hJi⟩ f
  dsimp only at hi hJi ⊢
  repeat (first | refine r_seq ?_ | refine ri_seq ?_ | refine ri_region ?_ | refine ri_skip ?_ | refine ri_block ?_ | refine xi_ ?_ | refine r_nil ?_ | refine r_region ?_ | refine r_skip ?_ | refine r_block ?_ | refine r_inBlock ?_ | refine x_ ?_ | refine w_ v_p ?_ | refine w_ v_cv ?_ | refine w_ v_and ?_ | refine w_ v_or ?_ | refine w_ v_f ?_ | refine w_ v_b ?_ | refine w_ v_r ?_ | refine w_ v_i ?_ | refine w_ v_a ?_ | refine w_ v_l ?_ | refine w_ v_la ?_ | refine w_ v_ls ?_ | refine w_ v_lr ?_ | refine w_ v_ln ?_ | refine w_ v_bd ?_ | refine w_ v_ba ?_ | refine w_ v_mf ?_ | refine w_ v_sap ?_ | refine w_ v_pkf ?_ | refine w_ v_pkt ?_ | refine w_ v_nl ?_ | refine w_ v_nn ?_ | refine e_ (f_st ?_) | refine e_ (f_al fun _ => ?_) | refine e_ (f_bx fun _ => ?_))
  refine c_ (fun h => ?_) (fun h => ?_)
  · simp only [decide_eq_true_eq] at h
    have hlt : i < l.length := by omega
    obtain ⟨x, hx⟩ : ∃ x, l[i]? = some x := ⟨_, List.getElem?_eq_getElem hlt⟩
    have hxk : (l.map Pp.k)[i]? = some x.k := by rw [List.getElem?_map, hx]; rfl
    have hld : sub (keysC (l.map Pp.k)) (((i : Nat) : Int).toNat * 3) 3 = some (kzC x.k) := keysC_get hxk (by simp)
    have hv := valP hnd hx
    have hv1 : (Cf.valOf (ppL l) x.k).getD (ppV pp0) = ppV x := by rw [hv]; rfl
    have hv2 : (Cf.valOf (ppL l) x.k).isSome = true := by rw [hv]; rfl
    repeat (first | refine w_ (v_lrp (hv := hld)) ?_ | refine e_ (f_al fun b4 => ?_) | refine e_ (f_st (hl := splice_all (l := [.int .i64 0, .int .i64 0, .int .i64 0]) (vs := kzC x.k) rfl) ?_) | refine r_seq ?_ | refine ri_seq ?_ | refine ri_region ?_ | refine ri_skip ?_ | refine ri_block ?_ | refine xi_ ?_ | refine r_nil ?_ | refine r_region ?_ | refine r_skip ?_ | refine r_block ?_ | refine r_inBlock ?_ | refine x_ ?_ | refine w_ v_p ?_ | refine w_ v_cv ?_ | refine w_ v_and ?_ | refine w_ v_or ?_ | refine w_ v_f ?_ | refine w_ v_b ?_ | refine w_ v_r ?_ | refine w_ v_i ?_ | refine w_ v_a ?_ | refine w_ v_l ?_ | refine w_ v_la ?_ | refine w_ v_ls ?_ | refine w_ v_lr ?_ | refine w_ v_ln ?_ | refine w_ v_bd ?_ | refine w_ v_ba ?_ | refine w_ v_mf ?_ | refine w_ v_sap ?_ | refine w_ v_pkf ?_ | refine w_ v_pkt ?_ | refine w_ v_nl ?_ | refine w_ v_nn ?_ | refine e_ (f_st ?_) | refine e_ (f_al fun _ => ?_) | refine e_ (f_bx fun _ => ?_))
    repeat refine r_seq ?_
    refine d_in ([.cells b4 (kzC x.k) 45, .cells b1 [.pointer (some ⟨bs, 0, none⟩)] 121, .cells bs (stoC most bm q (ppL l).length cap pin pinned) 201, .map bm es clock]) [] ?_
    first | (refine dw 0 ?_; first | refine tw (v_lke (b := bm) (clock := clock) (es := es) (l := ppL l) (kk := x.k) (by repeat (first | exact List.Mem.head _ | apply List.Mem.tail)) hkv zero55 hv1 hv2) ?_ | refine tw (v_l) ?_ | refine tw (v_la) ?_ | refine tw (v_ls) ?_ | refine tw (v_lr) ?_ | refine tw ((v_ge hG)) ?_)
    first | (refine dp 1 ?_; first | refine tp (fun _ => v_p) ?_) | (refine dw 1 ?_; first | refine tw (v_lke (b := bm) (clock := clock) (es := es) (l := ppL l) (kk := x.k) (by repeat (first | exact List.Mem.head _ | apply List.Mem.tail)) hkv zero55 hv1 hv2) ?_)
    first | (refine dp 2 ?_; first | refine tp (fun _ => v_f) ?_) | (refine dw 2 ?_; first | refine tw (v_lke (b := bm) (clock := clock) (es := es) (l := ppL l) (kk := x.k) (by repeat (first | exact List.Mem.head _ | apply List.Mem.tail)) hkv zero55 hv1 hv2) ?_)
    first | (refine dw 3 ?_; first | refine tw (v_lke (b := bm) (clock := clock) (es := es) (l := ppL l) (kk := x.k) (by repeat (first | exact List.Mem.head _ | apply List.Mem.tail)) hkv zero55 hv1 hv2) ?_ | refine tw (v_l) ?_ | refine tw (v_la) ?_ | refine tw (v_ls) ?_ | refine tw (v_lr) ?_ | refine tw ((v_ge hG)) ?_)
    first | (refine dw 4 ?_; first | refine tw (v_la (hv := sub_all (kzC_length x.k))) ?_ | refine tw (v_lke (b := bm) (clock := clock) (es := es) (l := ppL l) (kk := x.k) (by repeat (first | exact List.Mem.head _ | apply List.Mem.tail)) hkv zero55 hv1 hv2) ?_ | refine tw (v_l) ?_ | refine tw (v_la) ?_ | refine tw (v_ls) ?_ | refine tw (v_lr) ?_ | refine tw ((v_ge hG)) ?_)
    first | (refine dw 5 ?_; first | refine tw (v_lke (b := bm) (clock := clock) (es := es) (l := ppL l) (kk := x.k) (by repeat (first | exact List.Mem.head _ | apply List.Mem.tail)) hkv zero55 hv1 hv2) ?_ | refine tw (v_lk) ?_)
    first | (refine dp 6 ?_; first | refine tp (fun _ => v_p) ?_) | (refine dw 6 ?_; first | refine tw (v_lke (b := bm) (clock := clock) (es := es) (l := ppL l) (kk := x.k) (by repeat (first | exact List.Mem.head _ | apply List.Mem.tail)) hkv zero55 hv1 hv2) ?_)
    first | (refine dp 7 ?_; first | refine tp (fun _ => v_p) ?_) | (refine dw 7 ?_; first | refine tw (v_lke (b := bm) (clock := clock) (es := es) (l := ppL l) (kk := x.k) (by repeat (first | exact List.Mem.head _ | apply List.Mem.tail)) hkv zero55 hv1 hv2) ?_)
    first | (refine dp 8 ?_; first | refine tp (fun _ => v_p) ?_) | (refine dw 8 ?_; first | refine tw (v_lke (b := bm) (clock := clock) (es := es) (l := ppL l) (kk := x.k) (by repeat (first | exact List.Mem.head _ | apply List.Mem.tail)) hkv zero55 hv1 hv2) ?_)
    refine d_e 9 ?_
    refine f_al fun b6 => ?_
    refine ⟨?_, ?_⟩
    · first | exact st_n | exact st_l rfl | exact st_s (by repeat (first | exact List.Sublist.refl _ | exact List.nil_sublist _ | exact List.sublist_append_right _ _ | apply List.Sublist.cons_cons | apply List.Sublist.cons))
    refine d_e 10 ?_
    first | refine f_st (hl := pg_sAll rfl) (hc := pgC_length _ _ _) (hp := pgC_plain _ _ _) (hr := pgb (by omega)) ⟨?_, ?_⟩ | refine f_st ⟨?_, ?_⟩
    · first | exact st_n | exact st_l rfl | exact st_s (by repeat (first | exact List.Sublist.refl _ | exact List.nil_sublist _ | exact List.sublist_append_right _ _ | apply List.Sublist.cons_cons | apply List.Sublist.cons))
    first | (refine dp 11 ?_; first | refine tp (fun _ => v_p) ?_) | (refine dw 11 ?_; first | refine tw (v_lke (b := bm) (clock := clock) (es := es) (l := ppL l) (kk := x.k) (by repeat (first | exact List.Mem.head _ | apply List.Mem.tail)) hkv zero55 hv1 hv2) ?_)
    refine d_z ?_
    skip
    refine r_seq ?_
    refine ry_region ?_
    refine wy_ v_p ?_
    refine wy_ v_p ?_
    refine wy_ v_p ?_
    refine wy_ (v_la (hv := sub_all (kzC_length x.k))) ?_
    refine wy_ (v_la (hv := pg_all rfl)) ?_
    refine yy_ (C := L1) (R := [.cells b6 (pgC x.g x.p x.c) 55, .cells b4 (kzC x.k) 45, .cells b1 [.pointer (some ⟨bs, 0, none⟩)] 121, .row q2 l.length d2 (keysC (l.map Pp.k)) 45 3, .cells bs (stoC most bm q (ppL l).length cap pin pinned) 201, .map bm es clock, .row q (ppL l).length cap (keysC ((ppL l).map (·.1))) 45 3]) rfl
      (List.perm_append_comm (l₁ := ([.cells b6 (pgC x.g x.p x.c) 55, .cells b4 (kzC x.k) 45, .cells b1 [.pointer (some ⟨bs, 0, none⟩)] 121, .row q2 l.length d2 (keysC (l.map Pp.k)) 45 3, .cells bs (stoC most bm q (ppL l).length cap pin pinned) 201, .map bm es clock, .row q (ppL l).length cap (keysC ((ppL l).map (·.1))) 45 3] : Hp))) (fun w hw => hy i x L1 hx hJi w hw) (fun v L' h => ?_)
    obtain ⟨rfl, hJ2⟩ := h
    refine wy_ v_p ?_
    refine wy_ v_and ?_
    refine ny_ ?_
    refine c_ (t := false) (fun h => by cases h) (fun _ => ?_)
    repeat (first | refine r_seq ?_ | refine ri_seq ?_ | refine ri_region ?_ | refine ri_skip ?_ | refine ri_block ?_ | refine xi_ ?_ | refine r_nil ?_ | refine r_region ?_ | refine r_skip ?_ | refine r_block ?_ | refine r_inBlock ?_ | refine x_ ?_ | refine w_ v_p ?_ | refine w_ v_cv ?_ | refine w_ v_and ?_ | refine w_ v_or ?_ | refine w_ v_f ?_ | refine w_ v_b ?_ | refine w_ v_r ?_ | refine w_ v_i ?_ | refine w_ v_a ?_ | refine w_ v_l ?_ | refine w_ v_la ?_ | refine w_ v_ls ?_ | refine w_ v_lr ?_ | refine w_ v_ln ?_ | refine w_ v_bd ?_ | refine w_ v_ba ?_ | refine w_ v_mf ?_ | refine w_ v_sap ?_ | refine w_ v_pkf ?_ | refine w_ v_pkt ?_ | refine w_ v_nl ?_ | refine w_ v_nn ?_ | refine e_ (f_st ?_) | refine e_ (f_al fun _ => ?_) | refine e_ (f_bx fun _ => ?_))
    refine r_pl (L1 := .cells b1 [.pointer (some ⟨bs, 0, none⟩)] 121 :: .row q2 l.length d2 (keysC (l.map Pp.k)) 45 3 :: .cells bs (stoC most bm q (ppL l).length cap pin pinned) 201 :: .map bm es clock :: .row q (ppL l).length cap (keysC ((ppL l).map (·.1))) 45 3 :: L') (L2 := L' ++ [.cells b1 [.pointer (some ⟨bs, 0, none⟩)] 121, .row q2 l.length d2 (keysC (l.map Pp.k)) 45 3, .cells bs (stoC most bm q (ppL l).length cap pin pinned) 201, .map bm es clock, .row q (ppL l).length cap (keysC ((ppL l).map (·.1))) 45 3]) (List.Sublist.append (List.Sublist.refl _) (.cons _ (.cons _ (List.Sublist.refl _))))
      (List.perm_append_comm (l₁ := ([.cells b1 [.pointer (some ⟨bs, 0, none⟩)] 121, .row q2 l.length d2 (keysC (l.map Pp.k)) 45 3, .cells bs (stoC most bm q (ppL l).length cap pin pinned) 201, .map bm es clock, .row q (ppL l).length cap (keysC ((ppL l).map (·.1))) 45 3] : Hp))) ?_
    exact r_again (i + 1, L') ⟨by dsimp only; omega, hJ2⟩ (by dsimp only; omega) ⟨rfl, rfl, rfl, rfl, rfl, trivial⟩ (List.Sublist.refl _)
  · simp only [decide_eq_false_iff_not] at h
    have hil : i = l.length := by omega
    subst hil
    repeat (first | refine r_seq ?_ | refine ri_seq ?_ | refine ri_region ?_ | refine ri_skip ?_ | refine ri_block ?_ | refine xi_ ?_ | refine r_nil ?_ | refine r_region ?_ | refine r_skip ?_ | refine r_block ?_ | refine r_inBlock ?_ | refine x_ ?_ | refine w_ v_p ?_ | refine w_ v_cv ?_ | refine w_ v_and ?_ | refine w_ v_or ?_ | refine w_ v_f ?_ | refine w_ v_b ?_ | refine w_ v_r ?_ | refine w_ v_i ?_ | refine w_ v_a ?_ | refine w_ v_l ?_ | refine w_ v_la ?_ | refine w_ v_ls ?_ | refine w_ v_lr ?_ | refine w_ v_ln ?_ | refine w_ v_bd ?_ | refine w_ v_ba ?_ | refine w_ v_mf ?_ | refine w_ v_sap ?_ | refine w_ v_pkf ?_ | refine w_ v_pkt ?_ | refine w_ v_nl ?_ | refine w_ v_nn ?_ | refine e_ (f_st ?_) | refine e_ (f_al fun _ => ?_) | refine e_ (f_bx fun _ => ?_))
    exact r_fin rfl .nil (.cons _ (.cons _ (List.Sublist.refl _))) ⟨L1, rfl, hJi⟩
end Go.Proofs

namespace Go.Cf
open Go.Proofs

/-- A call that needs some of what is known. -/
theorem Does.frame {P : Program} {g : Nat} {vs : List Value} {w : World} {C R Lall : Hp} {Φ Ψ : Value → Hp → Prop} (hw : (St.mk w (blks Lall) Lall).holds w) (hp : Lall.Perm (C ++ R)) (h : (St.mk w (blks C) C).holds w → Does P g vs w (blks C) Φ)
    (hΨ : ∀ v L0, Φ v L0 → ∃ L', (L0 ++ R).Perm L' ∧ Ψ v L') : Does P g vs w (blks Lall) Ψ := by
  refine Calls.mono (h (hw.give hp)) fun e w' he => ?_
  cases e with
  | returned v =>
    obtain ⟨L0, h1, h2⟩ := he
    obtain ⟨L', h3, h4⟩ := hΨ v L0 h1
    exact ⟨L', h4, ((hw.perm hp).call (fun b hb => hb) h2).perm h3⟩
  | panicked c => exact he.elim
  | outgrown => exact he.elim

theorem St.holds.self {w0 w : World} {F : List Nat} {L : Hp} (h : (St.mk w0 F L).holds w) : (St.mk w (blks L) L).holds w := h.give (R := []) (by rw [List.append_nil])

section
variable {P : Program} {n : Nat} {Q : Exit → Act → World → Prop} {k : List It} {f : Nat → Value} {σ : Bd} {w0 : World} {F : List Nat} {L : Hp}
theorem perm_s {L M : Hp} (h : Spl L M []) : L.Perm M := by
  have := h.perm
  rwa [List.append_nil] at this
theorem Pick.refl (L : Hp) : Pick L L := by
  induction L with
  | nil => exact .nil
  | cons e L ih => exact .cons .head ih
theorem Pick.skip {e : En} {L M : Hp} (h : Pick L M) : Pick (e :: L) M := by
  induction h with
  | nil => exact .nil
  | cons hr _ ih => exact .cons (.tail hr) ih
/-- What is known, in another order, a tail that is not written out behind it. -/
theorem r_ox {M : Hp} (h : Wk P n Q k f σ ⟨w0, F, M⟩) (hp : Pick L M := by repeat (first | exact Pick.nil | refine Pick.cons (by repeat (first | exact Rem.head | apply Rem.tail)) ?_ | exact Pick.refl _ | apply Pick.skip)) : Wk P n Q k f σ ⟨w0, F, L⟩ :=
  fun a w hr hs => h a w hr (hp.holds hs)
end

def sameP (k : Kz) (x : Pp) : Bool := decide (x.k.mag = k.mag) && decide (x.k.page = k.page)
def lastP (l : List Pp) (k : Kz) : Option Pp := (l.filter (sameP k)).getLast?
theorem lastP_snoc {l : List Pp} {k : Kz} {x : Pp} {j : Nat} (h : l[j]? = some x) : lastP (l.take (j + 1)) k = if sameP k x = true then some x else lastP (l.take j) k := by
  rw [take_snoc h, lastP, List.filter_append]
  by_cases hx : sameP k x = true
  · rw [if_pos hx, List.filter_cons_of_pos hx]; simp
  · rw [if_neg hx, List.filter_cons_of_neg hx]; simp [lastP]
theorem lastP_g (l : List Pp) (k : Kz) : (lastP l k).map (·.g) = lastG (l.map (·.g)) k := by
  rw [lastP, lastG, List.filter_map, List.getLast?_map]; rfl
theorem lastP_mem {l : List Pp} {k : Kz} {x : Pp} (h : lastP l k = some x) : x ∈ l := (List.mem_filter.1 (List.mem_of_getLast? h)).1
end Go.Cf
namespace Go.Proofs
open Go.Cf
set_option maxRecDepth 10000

/-- What is in the caller's hands while the pages come. -/
def FindJ (k : Kz) (l : List Pp) (b b3 b8 b9 : Nat) (o : Obj) (j : Nat) (L : Hp) : Prop :=
  L = [.obj b o, .cells b9 [.bool (lastP (l.take j) k).isSome] 4, .cells b8 (ppC ((lastP (l.take j) k).getD pp0)) 55, .cells b3 (kzC k) 45]

theorem findA_does (K : Pool) (M : Mp) (l : List Pp) (k : Kz) (w : World) (hM : MOk K M l) (hw : (St.mk w (blks (mpL M)) (mpL M)).holds w) (hK : PoolAt K w (blks (mpL M))) :
    Does Tryz.prog 25 [.pointer (some ⟨M.bm, 0, none⟩), kzV k] w (blks (mpL M)) (fun v L => ∃ pv R, v = .tuple #[pv, .bool (findM (absM M l) k).isSome] ∧ PageR ((findM (absM M l) k).getD pg0) pv R ∧ L = mpL M ++ R) := by
  refine does_ofY Tryz.func25 rfl rfl hw ?_
  generalize blks (mpL M) = FF at hw hK ⊢
  repeat (first | refine e_ (f_bx (c := kzC k) fun b3 => ?_) | refine e_ (f_al fun b4 => ?_) | refine r_seq ?_ | refine ri_seq ?_ | refine ri_region ?_ | refine ri_skip ?_ | refine ri_block ?_ | refine xi_ ?_ | refine r_nil ?_ | refine r_region ?_ | refine r_skip ?_ | refine r_block ?_ | refine r_inBlock ?_ | refine x_ ?_ | refine w_ v_p ?_ | refine w_ v_cv ?_ | refine w_ v_and ?_ | refine w_ v_or ?_ | refine w_ v_f ?_ | refine w_ v_b ?_ | refine w_ v_r ?_ | refine w_ v_i ?_ | refine w_ v_a ?_ | refine w_ v_l ?_ | refine w_ v_la ?_ | refine w_ v_ls ?_ | refine w_ v_lr ?_ | refine w_ v_ln ?_ | refine w_ v_bd ?_ | refine w_ v_ba ?_ | refine w_ v_mf ?_ | refine w_ v_sap ?_ | refine w_ v_pkf ?_ | refine w_ v_pkt ?_ | refine w_ v_nl ?_ | refine w_ v_nn ?_ | refine e_ (f_st ?_) | refine e_ (f_al fun _ => ?_) | refine e_ (f_bx fun _ => ?_))
  refine c_ (fun h => ?_) (fun h => ?_)
  · have hs : k.sub ≠ 16255 := by
      simp only [bne_iff_ne, ne_eq] at h
      omega
    have ho : findM (absM M l) k = (findP l k).map (·.g) := by rw [findM, if_pos hs, findP_g]; rfl
    rw [ho]
    have hx : ExI w FF ((findP l k).getD pp0).p ((findP l k).getD pp0).c ((findP l k).getD pp0).g.extra := by
      cases hf : findP l k with
      | none => exact hK.p3 _ _ _ hK.z
      | some x => exact hK.p3 _ _ _ (hM.pgs x (findP_mem hf).1)
    have hgd : ((findP l k).map (·.g)).getD pg0 = ((findP l k).getD pp0).g := by cases findP l k <;> rfl
    have hval : Cf.valOf M.st.l k = (findP l k).map fun x => ppV x := by rw [hM.kv]; exact findP_kv l k
    repeat refine r_seq ?_
    refine r_meet (τ := Nat) (fun _ => True) (fun b6 => [(4, .v (.pointer (some ⟨b4, 0, none⟩))), (6, .v (.pointer (some ⟨b6, 0, none⟩))), (7, .v (.bool (findP l k).isSome))])
      (fun b6 => .cells b6 (ppC ((findP l k).getD pp0)) 55 :: .cells b4 (ppC pp0) 55 :: mpL M) ?_ ?_
    · skip
      repeat refine r_seq ?_
      refine d_in ([.cells b3 (kzC k) 45, .cells M.bm (mcC M.st.bs M.f M.inf M.told) 128]) [] ?_
      first | (refine dp 0 ?_; first | refine tp (fun _ => v_p) ?_)
      first | (refine dp 1 ?_; first | refine tp (fun _ => v_p) ?_)
      first | (refine dp 2 ?_; first | refine tp (fun _ => v_f) ?_)
      first | (refine dw 3 ?_; first | refine tw (v_l (hv := mc_s rfl)) ?_ | refine tw (v_l) ?_ | refine tw (v_la) ?_ | refine tw (v_ls) ?_ | refine tw (v_lr) ?_ | refine tw ((v_ge hG)) ?_)
      first | (refine dw 4 ?_; first | refine tw (v_la (hv := sub_all (kzC_length k))) ?_ | refine tw (v_l) ?_ | refine tw (v_la) ?_ | refine tw (v_ls) ?_ | refine tw (v_lr) ?_ | refine tw ((v_ge hG)) ?_)
      refine d_e2 5 9 ?_ ?_
      · refine f_cs (spL M.st) (fun b hb => hb) (fun w2 hw2 => get_does' M.st k (findP l k) w2 hM.ok hval (hw2.give (Spl.perm (by repeat (first | exact Spl.nil | exact Rem.head | apply Rem.tail | apply Spl.cons))))) fun v L' h => ?_
        obtain ⟨rfl, rfl⟩ := h
        refine ⟨?_, ?_⟩
        · first | exact st_n | exact st_l rfl | exact st_s (by repeat (first | exact List.Sublist.refl _ | exact List.nil_sublist _ | exact List.sublist_append_right _ _ | apply List.Sublist.cons_cons | apply List.Sublist.cons))
        first | (refine dp 6 ?_; first | refine tp (fun _ => v_p) ?_)
        first | (refine dp 7 ?_; first | refine tp (fun _ => v_p) ?_)
        first | (refine dp 8 ?_; first | refine tp (fun _ => v_p) ?_)
        refine d_e 9 ?_
        refine f_al fun b6 => ?_
        refine ⟨?_, ?_⟩
        · first | exact st_n | exact st_l rfl | exact st_s (by repeat (first | exact List.Sublist.refl _ | exact List.nil_sublist _ | exact List.sublist_append_right _ _ | apply List.Sublist.cons_cons | apply List.Sublist.cons))
        refine d_e 10 ?_
        first | refine f_st (hl := pg_sAll rfl) (hc := pgC_length _ _ _) (hp := pgC_plain _ _ _) (hr := pgb (by omega)) ⟨?_, ?_⟩ | refine f_st ⟨?_, ?_⟩
        · first | exact st_n | exact st_l rfl | exact st_s (by repeat (first | exact List.Sublist.refl _ | exact List.nil_sublist _ | exact List.sublist_append_right _ _ | apply List.Sublist.cons_cons | apply List.Sublist.cons))
        first | (refine dp 11 ?_; first | refine tp (fun _ => v_p) ?_)
        refine d_z ?_
        exact r_ord (r_met b6 trivial ⟨rfl, rfl, rfl, trivial⟩ (List.Sublist.refl _))
      · refine f_al fun b6 => ?_
        refine ⟨?_, ?_⟩
        · first | exact st_n | exact st_l rfl | exact st_s (by repeat (first | exact List.Sublist.refl _ | exact List.nil_sublist _ | exact List.sublist_append_right _ _ | apply List.Sublist.cons_cons | apply List.Sublist.cons))
        refine d_e 5 ?_
        refine f_cs (spL M.st) (fun b hb => hb) (fun w2 hw2 => get_does' M.st k (findP l k) w2 hM.ok hval (hw2.give (Spl.perm (by repeat (first | exact Spl.nil | exact Rem.head | apply Rem.tail | apply Spl.cons))))) fun v L' h => ?_
        obtain ⟨rfl, rfl⟩ := h
        refine ⟨?_, ?_⟩
        · first | exact st_n | exact st_l rfl | exact st_s (by repeat (first | exact List.Sublist.refl _ | exact List.nil_sublist _ | exact List.sublist_append_right _ _ | apply List.Sublist.cons_cons | apply List.Sublist.cons))
        first | (refine dp 6 ?_; first | refine tp (fun _ => v_p) ?_)
        first | (refine dp 7 ?_; first | refine tp (fun _ => v_p) ?_)
        first | (refine dp 8 ?_; first | refine tp (fun _ => v_p) ?_)
        refine d_e 10 ?_
        first | refine f_st (hl := pg_sAll rfl) (hc := pgC_length _ _ _) (hp := pgC_plain _ _ _) (hr := pgb (by omega)) ⟨?_, ?_⟩ | refine f_st ⟨?_, ?_⟩
        · first | exact st_n | exact st_l rfl | exact st_s (by repeat (first | exact List.Sublist.refl _ | exact List.nil_sublist _ | exact List.sublist_append_right _ _ | apply List.Sublist.cons_cons | apply List.Sublist.cons))
        first | (refine dp 11 ?_; first | refine tp (fun _ => v_p) ?_)
        refine d_z ?_
        exact r_ord (r_met b6 trivial ⟨rfl, rfl, rfl, trivial⟩ (List.Sublist.refl _))
    · intro b6 _ f
      repeat (first | refine w_ (v_la (hv := pg_all rfl)) ?_ | refine r_seq ?_ | refine ri_seq ?_ | refine ri_region ?_ | refine ri_skip ?_ | refine ri_block ?_ | refine xi_ ?_ | refine r_nil ?_ | refine r_region ?_ | refine r_skip ?_ | refine r_block ?_ | refine r_inBlock ?_ | refine x_ ?_ | refine w_ v_p ?_ | refine w_ v_cv ?_ | refine w_ v_and ?_ | refine w_ v_or ?_ | refine w_ v_f ?_ | refine w_ v_b ?_ | refine w_ v_r ?_ | refine w_ v_i ?_ | refine w_ v_a ?_ | refine w_ v_l ?_ | refine w_ v_la ?_ | refine w_ v_ls ?_ | refine w_ v_lr ?_ | refine w_ v_ln ?_ | refine w_ v_bd ?_ | refine w_ v_ba ?_ | refine w_ v_mf ?_ | refine w_ v_sap ?_ | refine w_ v_pkf ?_ | refine w_ v_pkt ?_ | refine w_ v_nl ?_ | refine w_ v_nn ?_ | refine e_ (f_st ?_) | refine e_ (f_al fun _ => ?_) | refine e_ (f_bx fun _ => ?_))
      refine e_ (f_ce (fun w hw => own_does ((findP l k).getD pp0) w ⟨hx.sl.now hw, hx.nil, hx.le⟩) fun v L' h => ?_)
      obtain ⟨q, d, rfl, hL⟩ := h
      repeat (first | refine e_ (f_st (hl := pg_sAll rfl) (hc := pgC_length _ _ _) (hp := pgC_plain _ _ _) (hr := pgb (by omega)) ?_) | refine r_seq ?_ | refine ri_seq ?_ | refine ri_region ?_ | refine ri_skip ?_ | refine ri_block ?_ | refine xi_ ?_ | refine r_nil ?_ | refine r_region ?_ | refine r_skip ?_ | refine r_block ?_ | refine r_inBlock ?_ | refine x_ ?_ | refine w_ v_p ?_ | refine w_ v_cv ?_ | refine w_ v_and ?_ | refine w_ v_or ?_ | refine w_ v_f ?_ | refine w_ v_b ?_ | refine w_ v_r ?_ | refine w_ v_i ?_ | refine w_ v_a ?_ | refine w_ v_l ?_ | refine w_ v_la ?_ | refine w_ v_ls ?_ | refine w_ v_lr ?_ | refine w_ v_ln ?_ | refine w_ v_bd ?_ | refine w_ v_ba ?_ | refine w_ v_mf ?_ | refine w_ v_sap ?_ | refine w_ v_pkf ?_ | refine w_ v_pkt ?_ | refine w_ v_nl ?_ | refine w_ v_nn ?_ | refine e_ (f_st ?_) | refine e_ (f_al fun _ => ?_) | refine e_ (f_bx fun _ => ?_))
      refine r_ox (M := .cells b4 (pgC ((findP l k).getD pp0).g q d) 55 :: (mpL M ++ L')) ?_
      refine tN (vs := [.agg (pgC ((findP l k).getD pp0).g q d).toArray, .bool (findP l k).isSome]) rfl (.cella rfl (.head _) (pg_all rfl) (.tmp rfl .nil)) (.cons _ (List.Sublist.refl _)) ⟨.agg (pgC ((findP l k).getD pp0).g q d).toArray, L', ?_, ⟨q, d, ?_, ?_⟩, rfl⟩
      · rw [Option.isSome_map]; rfl
      · rw [hgd]
      · rw [hgd]; exact hL
  · have hs : ¬ k.sub ≠ 16255 := by
      simp only [bne_eq_false_iff_eq] at h
      omega
    have ho : findM (absM M l) k = (lastP l k).map (·.g) := by rw [findM, if_neg hs, lastP_g]; rfl
    rw [ho]
    repeat (first | refine w_ (v_l (hv := mc_s rfl)) ?_ | refine r_seq ?_ | refine ri_seq ?_ | refine ri_region ?_ | refine ri_skip ?_ | refine ri_block ?_ | refine xi_ ?_ | refine r_nil ?_ | refine r_region ?_ | refine r_skip ?_ | refine r_block ?_ | refine r_inBlock ?_ | refine x_ ?_ | refine w_ v_p ?_ | refine w_ v_cv ?_ | refine w_ v_and ?_ | refine w_ v_or ?_ | refine w_ v_f ?_ | refine w_ v_b ?_ | refine w_ v_r ?_ | refine w_ v_i ?_ | refine w_ v_a ?_ | refine w_ v_l ?_ | refine w_ v_la ?_ | refine w_ v_ls ?_ | refine w_ v_lr ?_ | refine w_ v_ln ?_ | refine w_ v_bd ?_ | refine w_ v_ba ?_ | refine w_ v_mf ?_ | refine w_ v_sap ?_ | refine w_ v_pkf ?_ | refine w_ v_pkt ?_ | refine w_ v_nl ?_ | refine w_ v_nn ?_ | refine e_ (f_st ?_) | refine e_ (f_al fun _ => ?_) | refine e_ (f_bx fun _ => ?_))
    rename_i b8 b9
    refine e_ (f_c (fun w hw => all_does M.st.bs w) fun v L' h => ?_)
    obtain ⟨b1, rfl, rfl⟩ := h
    repeat (first | refine r_seq ?_ | refine ri_seq ?_ | refine ri_region ?_ | refine ri_skip ?_ | refine ri_block ?_ | refine xi_ ?_ | refine r_nil ?_ | refine r_region ?_ | refine r_skip ?_ | refine r_block ?_ | refine r_inBlock ?_ | refine x_ ?_ | refine w_ v_p ?_ | refine w_ v_cv ?_ | refine w_ v_and ?_ | refine w_ v_or ?_ | refine w_ v_f ?_ | refine w_ v_b ?_ | refine w_ v_r ?_ | refine w_ v_i ?_ | refine w_ v_a ?_ | refine w_ v_l ?_ | refine w_ v_la ?_ | refine w_ v_ls ?_ | refine w_ v_lr ?_ | refine w_ v_ln ?_ | refine w_ v_bd ?_ | refine w_ v_ba ?_ | refine w_ v_mf ?_ | refine w_ v_sap ?_ | refine w_ v_pkf ?_ | refine w_ v_pkt ?_ | refine w_ v_nl ?_ | refine w_ v_nn ?_ | refine e_ (f_st ?_) | refine e_ (f_al fun _ => ?_) | refine e_ (f_bx fun _ => ?_))
    refine r_range (gf := 147) (Φ := fun L2 => L2 = spL M.st ++ [.cells b9 [.bool (lastP l k).isSome] 4, .cells b8 (ppC ((lastP l k).getD pp0)) 55, .cells b3 (kzC k) 45] ++ [.cells b4 (ppC pp0) 55, .cells M.bm (mcC M.st.bs M.f M.inf M.told) 128]) ?_ ?_
    · intro fn a D b w1 hr hw1
      generalize hO : recO fn a.tmps _ _ _ D = O at hw1 ⊢
      refine Does.frame (C := .cells b1 [.pointer (some ⟨M.st.bs, 0, none⟩)] 121 :: (spL M.st ++ [.obj b O, .cells b9 [.bool false] 4, .cells b8 (ppC pp0) 55, .cells b3 (kzC k) 45])) (R := [.obj D (.deferred (some [])), .cells b4 (ppC pp0) 55, .cells M.bm (mcC M.st.bs M.f M.inf M.told) 128]) (Φ := fun _ L => ∃ L1, L = spL M.st ++ L1 ∧ FindJ k l b b3 b8 b9 O l.length L1) hw1.self (Spl.perm (by repeat (first | exact Spl.nil | exact Rem.head | apply Rem.tail | apply Spl.cons))) (fun hw2 => iter_does M.st l b b1 (FindJ k l b b3 b8 b9 O) _ w1 hM.ok hM.kv ?_ ?_ hw2) ?_
      · exact rfl
      · rintro j x L hx rfl w2 hw2
        subst hO
        refine y_round hr rfl (by decide) (by decide) hw2 (.head _) ?_
        generalize blks _ = F2 at hw2 ⊢
        generalize hprev : lastP (l.take j) k = pr at hw2 ⊢
        have hnext := lastP_snoc (k := k) hx
        rw [hprev] at hnext
        clear hw1
        repeat (first | refine e_ (f_st (vs := kzC x.k) (l' := kzC x.k) (hl := rfl) ?_) | refine e_ (f_st (vs := pgC x.g x.p x.c) (hl := pg_sAll rfl) (hc := pgC_length _ _ _) (hp := pgC_plain _ _ _) (hr := pgb (by omega)) ?_) | refine r_seq ?_ | refine ri_seq ?_ | refine ri_region ?_ | refine ri_skip ?_ | refine ri_block ?_ | refine xi_ ?_ | refine r_nil ?_ | refine r_region ?_ | refine r_skip ?_ | refine r_block ?_ | refine r_inBlock ?_ | refine x_ ?_ | refine w_ v_p ?_ | refine w_ v_cv ?_ | refine w_ v_and ?_ | refine w_ v_or ?_ | refine w_ v_f ?_ | refine w_ v_b ?_ | refine w_ v_r ?_ | refine w_ v_i ?_ | refine w_ v_a ?_ | refine w_ v_l ?_ | refine w_ v_la ?_ | refine w_ v_ls ?_ | refine w_ v_lr ?_ | refine w_ v_ln ?_ | refine w_ v_bd ?_ | refine w_ v_ba ?_ | refine w_ v_mf ?_ | refine w_ v_sap ?_ | refine w_ v_pkf ?_ | refine w_ v_pkt ?_ | refine w_ v_nl ?_ | refine w_ v_nn ?_ | refine e_ (f_st ?_) | refine e_ (f_al fun _ => ?_) | refine e_ (f_bx fun _ => ?_))
        rename_i b10 b11
        refine r_begin ?_
        repeat (first | refine r_seq ?_ | refine ri_seq ?_ | refine ri_region ?_ | refine ri_skip ?_ | refine ri_block ?_ | refine xi_ ?_ | refine r_nil ?_ | refine r_region ?_ | refine r_skip ?_ | refine r_block ?_ | refine r_inBlock ?_ | refine x_ ?_ | refine w_ v_p ?_ | refine w_ v_cv ?_ | refine w_ v_and ?_ | refine w_ v_or ?_ | refine w_ v_f ?_ | refine w_ v_b ?_ | refine w_ v_r ?_ | refine w_ v_i ?_ | refine w_ v_a ?_ | refine w_ v_l ?_ | refine w_ v_la ?_ | refine w_ v_ls ?_ | refine w_ v_lr ?_ | refine w_ v_ln ?_ | refine w_ v_bd ?_ | refine w_ v_ba ?_ | refine w_ v_mf ?_ | refine w_ v_sap ?_ | refine w_ v_pkf ?_ | refine w_ v_pkt ?_ | refine w_ v_nl ?_ | refine w_ v_nn ?_ | refine e_ (f_st ?_) | refine e_ (f_al fun _ => ?_) | refine e_ (f_bx fun _ => ?_))
        have hsame : sameP k x = (x.k.mag == k.mag && x.k.page == k.page) := by
          rw [sameP]
          by_cases h1 : x.k.mag = k.mag <;> by_cases h2 : x.k.page = k.page <;> simp [h1, h2]
        rw [hsame] at hnext
        refine ci_ (fun h2 => ?_) (fun h2 => ?_)
        · rw [if_pos h2] at hnext
          repeat (first | refine w_ (v_la (hv := pg_all rfl)) ?_ | refine e_ (f_st (vs := pgC x.g x.p x.c) (hl := pg_sAll rfl) (hc := pgC_length _ _ _) (hp := pgC_plain _ _ _) (hr := pgb (by omega)) ?_) | refine r_seq ?_ | refine ri_seq ?_ | refine ri_region ?_ | refine ri_skip ?_ | refine ri_block ?_ | refine xi_ ?_ | refine r_nil ?_ | refine r_region ?_ | refine r_skip ?_ | refine r_block ?_ | refine r_inBlock ?_ | refine x_ ?_ | refine w_ v_p ?_ | refine w_ v_cv ?_ | refine w_ v_and ?_ | refine w_ v_or ?_ | refine w_ v_f ?_ | refine w_ v_b ?_ | refine w_ v_r ?_ | refine w_ v_i ?_ | refine w_ v_a ?_ | refine w_ v_l ?_ | refine w_ v_la ?_ | refine w_ v_ls ?_ | refine w_ v_lr ?_ | refine w_ v_ln ?_ | refine w_ v_bd ?_ | refine w_ v_ba ?_ | refine w_ v_mf ?_ | refine w_ v_sap ?_ | refine w_ v_pkf ?_ | refine w_ v_pkt ?_ | refine w_ v_nl ?_ | refine w_ v_nn ?_ | refine e_ (f_st ?_) | refine e_ (f_al fun _ => ?_) | refine e_ (f_bx fun _ => ?_))
          refine r_ended (Upd.tail (Upd.tail Upd.head)) (.cons _ (.cons _ (List.Sublist.refl _))) ⟨rfl, ?_⟩
          rw [FindJ, hnext]; rfl
        · rw [if_neg (by rw [h2]; simp)] at hnext
          repeat (first | refine r_seq ?_ | refine ri_seq ?_ | refine ri_region ?_ | refine ri_skip ?_ | refine ri_block ?_ | refine xi_ ?_ | refine r_nil ?_ | refine r_region ?_ | refine r_skip ?_ | refine r_block ?_ | refine r_inBlock ?_ | refine x_ ?_ | refine w_ v_p ?_ | refine w_ v_cv ?_ | refine w_ v_and ?_ | refine w_ v_or ?_ | refine w_ v_f ?_ | refine w_ v_b ?_ | refine w_ v_r ?_ | refine w_ v_i ?_ | refine w_ v_a ?_ | refine w_ v_l ?_ | refine w_ v_la ?_ | refine w_ v_ls ?_ | refine w_ v_lr ?_ | refine w_ v_ln ?_ | refine w_ v_bd ?_ | refine w_ v_ba ?_ | refine w_ v_mf ?_ | refine w_ v_sap ?_ | refine w_ v_pkf ?_ | refine w_ v_pkt ?_ | refine w_ v_nl ?_ | refine w_ v_nn ?_ | refine e_ (f_st ?_) | refine e_ (f_al fun _ => ?_) | refine e_ (f_bx fun _ => ?_))
          refine r_ended (Upd.tail (Upd.tail Upd.head)) (.cons _ (.cons _ (List.Sublist.refl _))) ⟨rfl, ?_⟩
          rw [FindJ, hnext]; rfl
      · rintro v L0 ⟨L1, rfl, rfl⟩
        refine ⟨_, ?_, _, rfl, rfl⟩
        rw [List.take_length]
        exact perm_s (by repeat (first | exact Spl.nil | exact Rem.head | apply Rem.tail | apply Spl.cons))
    · rintro L2 D rfl
      have hx : ExI w FF ((lastP l k).getD pp0).p ((lastP l k).getD pp0).c ((lastP l k).getD pp0).g.extra := by
        cases hf : lastP l k with
        | none => exact hK.p3 _ _ _ hK.z
        | some x => exact hK.p3 _ _ _ (hM.pgs x (lastP_mem hf))
      have hgd : ((lastP l k).map (·.g)).getD pg0 = ((lastP l k).getD pp0).g := by cases lastP l k <;> rfl
      refine r_inBlock ?_
      repeat refine r_seq ?_
      refine d_in ([.cells b9 [.bool (lastP l k).isSome] 4, .cells b8 (ppC ((lastP l k).getD pp0)) 55]) [] ?_
      first | (refine dw 0 ?_; first | refine tw (v_la (hv := pg_all rfl)) ?_ | refine tw (v_l) ?_ | refine tw (v_la) ?_ | refine tw (v_ls) ?_ | refine tw (v_lr) ?_ | refine tw ((v_ge hG)) ?_)
      first | (refine dw 2 ?_; first | refine tw (v_l) ?_ | refine tw (v_la) ?_ | refine tw (v_ls) ?_ | refine tw (v_lr) ?_ | refine tw ((v_ge hG)) ?_)
      refine d_e 1 ?_
      refine f_ce (fun w hw => own_does ((lastP l k).getD pp0) w ⟨hx.sl.now hw, hx.nil, hx.le⟩) fun v L' h => ?_
      obtain ⟨q, d, rfl, hL⟩ := h
      refine ⟨?_, ?_⟩
      · first | exact st_n | exact st_l rfl | exact st_s (by repeat (first | exact List.Sublist.refl _ | exact List.nil_sublist _ | exact List.sublist_append_right _ _ | apply List.Sublist.cons_cons | apply List.Sublist.cons))
      refine d_e 3 ?_
      first | refine f_st (hl := pg_sAll rfl) (hc := pgC_length _ _ _) (hp := pgC_plain _ _ _) (hr := pgb (by omega)) ⟨?_, ?_⟩ | refine f_st ⟨?_, ?_⟩
      · first | exact st_n | exact st_l rfl | exact st_s (by repeat (first | exact List.Sublist.refl _ | exact List.nil_sublist _ | exact List.sublist_append_right _ _ | apply List.Sublist.cons_cons | apply List.Sublist.cons))
      first | (refine dp 4 ?_; first | refine tp (fun _ => v_p) ?_)
      refine d_z ?_
      dsimp only
      refine r_ox (M := .obj D (.deferred (some [])) :: .cells b4 (pgC ((lastP l k).getD pp0).g q d) 55 :: (mpL M ++ L')) ?_
      refine tY (D := D) (vs := [.agg (pgC ((lastP l k).getD pp0).g q d).toArray, .bool (lastP l k).isSome]) rfl (.cella rfl (.head _) (pg_all rfl) (.tmp rfl .nil)) (.cons _ (List.Sublist.refl _)) ⟨.agg (pgC ((lastP l k).getD pp0).g q d).toArray, L', ?_, ⟨q, d, ?_, ?_⟩, rfl⟩
      · rw [Option.isSome_map]; rfl
      · rw [hgd]
      · rw [hgd]; exact hL
end Go.Proofs

namespace Go.Cf
open Go.Proofs
variable {P : Program} {n : Nat} {Q : Exit → Act → World → Prop} {k : List It} {f : Nat → Value} {σ : Bd} {w0 : World} {F : List Nat} {L : Hp} {s : St} {all : List Oper} {dst : Option Tmp} {ty : TypeId} {pos : String} {after : Array Edge} {guard : Option (Nat × Bool)}

theorem run_errs {E : Nat → Value} {w : World} {F : List Nat} (hG : Glob w F E) {i j : Nat} (hi : i < 6) (hj : j < 6) : (binOp .eql 28 (E i) (E j)).run Tryz.prog w = .ok (.bool (decide (i = j))) w := by
  have hif := Tryz.underlying28
  have hp : Tryz.prog.underlying 347 = some (.pointer 361) := by kernel_rfl
  have h1 : (Tryz.prog.info? 347).map (·.comparable) = some true := by kernel_rfl
  have h2 : (Tryz.prog.info? 361).map (·.size) = some 1 := by kernel_rfl
  obtain ⟨x, hx, hc⟩ := Option.map_eq_some_iff.1 h1
  obtain ⟨y, hy, hsz'⟩ := Option.map_eq_some_iff.1 h2
  have hsz : y.size ≠ 0 := by rw [hsz']; decide
  obtain ⟨a, ca, ta, ha, -, -, hma⟩ := hG.ptr i hi
  obtain ⟨b, cb, tb, hb, -, -, hmb⟩ := hG.ptr j hj
  by_cases hij : i = j
  · subst hij
    rw [ha, decide_eq_true rfl]
    exact run_eql_iface_ptr_same w a hif hp hx hc hy
  · rw [ha, hb, decide_eq_false hij]
    refine run_eql_iface_ptr_other w hif hp hx hc hy hsz (fun h => hij ?_) hma hmb
    exact hG.ne i j hi hj (by rw [ha, hb, h])

theorem run_guard_err {E : Nat → Value} {w : World} {F : List Nat} (hG : Glob w F E) {i : Nat} (hi : i < 6) (v : Value) (x y : Operand) (W : World) : (eqGuard .eql 28 x y (E i) v).run Tryz.prog W = .ok () W := by
  obtain ⟨a, ca, ta, ha, -, -, hma⟩ := hG.ptr i hi
  rw [ha]
  cases v <;> simp [eqGuard]

/-- Are they one error? -/
theorem v_er {T' : TypeId} {x y : Operand} {E : Nat → Value} {i j : Nat} {gd : Option Bool} {d : Nat} (hG : Glob s.w0 s.F E) (hi : i < 6) (hj : j < 6)
    (hx : evo f σ x = some (E i)) (hy : evo f σ y = some (E j)) (hd : dst = some d := by exact rfl) (hn : Nat.ble (d + 1) n = true := by exact rfl) (hg : gdOf f σ all guard = some gd := by exact rfl)
    (hob : gob f σ (gdc gd) (tmpsOf [x, y]) := by first | exact trivial | exact ⟨id, trivial⟩ | exact ⟨id, id, trivial⟩) : Val Tryz.prog n f σ all s ⟨dst, .binOp .eql 28 x y T', ty, pos, after, guard⟩ d gd (.bool (decide (i = j))) :=
  .of hd hn hg (fun W hW => by
    have hG' : Glob W [] E := hG.now (L := s.L) hW
    have key : ∀ ρ : Operand → Value, ρ x = E i → ρ y = E j → (execOp ρ ⟨dst, .binOp .eql 28 x y T', ty, pos, after, guard⟩).run Tryz.prog W = .ok (.value (.bool (decide (i = j)))) W := fun ρ hρ hρ2 => by
      have h1 := run_errs hG' hi hj
      have h2 := run_guard_err hG' hi (E j) x y W
      simp [execOp, hρ, hρ2, h1, h2]
    exact key _ (ev_evo hx (.head _)) (ev_evo hy (.tail _ (.head _)))) hob

theorem run_ta (v : Value) (xT : TypeId) (w : World) : (Instr.typeAssert (.iface 347 v) xT 151 true).run Tryz.prog w = .ok (.tuple #[.pointer none, .bool false]) w := by
  have hp := Tryz.underlying151
  have hz : ∀ w, (zeroValue 151).run Tryz.prog w = .ok (.pointer none) w := fun w => by kernel_rfl
  simp [Instr.typeAssert, run_underlying hp, hz]

/-- An error of the program's own is no spoilt one. -/
theorem v_ta {x : Operand} {E : Nat → Value} {i : Nat} {gd : Option Bool} {d : Nat} (hG : Glob s.w0 s.F E) (hi : i < 6)
    (hx : evo f σ x = some (E i)) (hd : dst = some d := by exact rfl) (hn : Nat.ble (d + 1) n = true := by exact rfl) (hg : gdOf f σ all guard = some gd := by exact rfl)
    (hob : gob f σ (gdc gd) (tmpsOf [x]) := by first | exact trivial | exact ⟨id, trivial⟩) : Val Tryz.prog n f σ all s ⟨dst, .typeAssert x 28 151 true, ty, pos, after, guard⟩ d gd (.tuple #[.pointer none, .bool false]) :=
  .of hd hn hg (fun W hW => by
    obtain ⟨a, ca, ta, ha, -⟩ := hG.ptr i hi
    have key : ∀ ρ : Operand → Value, ρ x = E i → (execOp ρ ⟨dst, .typeAssert x 28 151 true, ty, pos, after, guard⟩).run Tryz.prog W = .ok (.value (.tuple #[.pointer none, .bool false])) W := fun ρ hρ => by
      have h1 := run_ta (.pointer (some a)) 28 W
      simp [execOp, hρ, ha, h1]
    exact key _ (ev_evo hx (.head _))) hob
end Go.Cf

namespace Go.Cf
open Go.Proofs
/-- A fault: its code, whether it is a spoilt thing's, where. -/
structure Fa where
  code : Int
  sp : Bool
  at_ : Int
  deriving DecidableEq
abbrev faC (x : Fa) : List Value := [.int .i64 x.code, .bool x.sp, .int .i64 x.at_]
abbrev faV (x : Fa) : Value := .agg (faC x).toArray
def faultM : Option Nat → Fa
  | none => ⟨0, false, 0⟩
  | some i => ⟨101 + i, false, 0⟩
theorem faC_length (x : Fa) : (faC x).length = 3 := rfl
end Go.Cf
namespace Go.Proofs
open Go.Cf
set_option maxRecDepth 10000

theorem noneF_does (w : World) : Does Tryz.prog 73 [] w [] (fun v L => v = faV ⟨0, false, 0⟩ ∧ L = []) := by
  refine does_of Tryz.func73 rfl rfl ?_
  repeat (first | refine e_ (f_al fun b => ?_) | refine e_ (f_st (vs := faC ⟨0, false, 0⟩) (l' := faC ⟨0, false, 0⟩) (hl := rfl) ?_) | refine r_seq ?_ | refine ri_seq ?_ | refine ri_region ?_ | refine ri_skip ?_ | refine ri_block ?_ | refine xi_ ?_ | refine r_nil ?_ | refine r_region ?_ | refine r_skip ?_ | refine r_block ?_ | refine r_inBlock ?_ | refine x_ ?_ | refine w_ v_p ?_ | refine w_ v_cv ?_ | refine w_ v_and ?_ | refine w_ v_or ?_ | refine w_ v_f ?_ | refine w_ v_b ?_ | refine w_ v_r ?_ | refine w_ v_i ?_ | refine w_ v_a ?_ | refine w_ v_l ?_ | refine w_ v_la ?_ | refine w_ v_ls ?_ | refine w_ v_lr ?_ | refine w_ v_ln ?_ | refine w_ v_bd ?_ | refine w_ v_ba ?_ | refine w_ v_mf ?_ | refine w_ v_sap ?_ | refine w_ v_pkf ?_ | refine w_ v_pkt ?_ | refine w_ v_nl ?_ | refine w_ v_nn ?_ | refine e_ (f_st ?_) | refine e_ (f_al fun _ => ?_) | refine e_ (f_bx fun _ => ?_))
  exact t2 (L' := []) (.cons _ (List.Sublist.refl _)) ⟨rfl, rfl⟩ (.cella rfl (.head _) rfl .nil)

theorem bare_does (c : Int) (w : World) : Does Tryz.prog 74 [.int .i64 c] w [] (fun v L => v = faV ⟨c, false, 0⟩ ∧ L = []) := by
  refine does_of Tryz.func74 rfl rfl ?_
  repeat (first | refine e_ (f_al fun b => ?_) | refine e_ (f_st (vs := faC ⟨c, false, 0⟩) (l' := faC ⟨c, false, 0⟩) (hl := rfl) ?_) | refine r_seq ?_ | refine ri_seq ?_ | refine ri_region ?_ | refine ri_skip ?_ | refine ri_block ?_ | refine xi_ ?_ | refine r_nil ?_ | refine r_region ?_ | refine r_skip ?_ | refine r_block ?_ | refine r_inBlock ?_ | refine x_ ?_ | refine w_ v_p ?_ | refine w_ v_cv ?_ | refine w_ v_and ?_ | refine w_ v_or ?_ | refine w_ v_f ?_ | refine w_ v_b ?_ | refine w_ v_r ?_ | refine w_ v_i ?_ | refine w_ v_a ?_ | refine w_ v_l ?_ | refine w_ v_la ?_ | refine w_ v_ls ?_ | refine w_ v_lr ?_ | refine w_ v_ln ?_ | refine w_ v_bd ?_ | refine w_ v_ba ?_ | refine w_ v_mf ?_ | refine w_ v_sap ?_ | refine w_ v_pkf ?_ | refine w_ v_pkt ?_ | refine w_ v_nl ?_ | refine w_ v_nn ?_ | refine e_ (f_st ?_) | refine e_ (f_al fun _ => ?_) | refine e_ (f_bx fun _ => ?_))
  exact t2 (L' := []) (.cons _ (List.Sublist.refl _)) ⟨rfl, rfl⟩ (.cella rfl (.head _) rfl .nil)

theorem sents_does (E : Nat → Value) (w : World) (hG : Glob w [] E) : Does Tryz.prog 143 [] w [] (fun v L => ∃ b, v = .slice (some ⟨b, 0, none⟩) 6 6 ∧ L = [.row (some ⟨b, 0, none⟩) 6 6 [E 0, E 1, E 2, E 3, E 4, E 5] 28 1]) := by
  refine does_of Tryz.func143 rfl rfl ?_
  repeat (first | refine w_ (v_ge hG) ?_ | refine r_seq ?_ | refine ri_seq ?_ | refine ri_region ?_ | refine ri_skip ?_ | refine ri_block ?_ | refine xi_ ?_ | refine r_nil ?_ | refine r_region ?_ | refine r_skip ?_ | refine r_block ?_ | refine r_inBlock ?_ | refine x_ ?_ | refine w_ v_p ?_ | refine w_ v_cv ?_ | refine w_ v_and ?_ | refine w_ v_or ?_ | refine w_ v_f ?_ | refine w_ v_b ?_ | refine w_ v_r ?_ | refine w_ v_i ?_ | refine w_ v_a ?_ | refine w_ v_l ?_ | refine w_ v_la ?_ | refine w_ v_ls ?_ | refine w_ v_lr ?_ | refine w_ v_ln ?_ | refine w_ v_bd ?_ | refine w_ v_ba ?_ | refine w_ v_mf ?_ | refine w_ v_sap ?_ | refine w_ v_pkf ?_ | refine w_ v_pkt ?_ | refine w_ v_nl ?_ | refine w_ v_nn ?_ | refine e_ (f_st ?_) | refine e_ (f_al fun _ => ?_) | refine e_ (f_bx fun _ => ?_))
  have hfl : fillS 1 (zeros [Value.nilIface] (6 * 1)) [(0, E 0), (1, E 1), (2, E 2), (3, E 3), (4, E 4), (5, E 5)] = some [E 0, E 1, E 2, E 3, E 4, E 5] := by
    obtain ⟨a0, _, _, e0, -⟩ := hG.ptr 0 (by omega)
    obtain ⟨a1, _, _, e1, -⟩ := hG.ptr 1 (by omega)
    obtain ⟨a2, _, _, e2, -⟩ := hG.ptr 2 (by omega)
    obtain ⟨a3, _, _, e3, -⟩ := hG.ptr 3 (by omega)
    obtain ⟨a4, _, _, e4, -⟩ := hG.ptr 4 (by omega)
    obtain ⟨a5, _, _, e5, -⟩ := hG.ptr 5 (by omega)
    rw [e0, e1, e2, e3, e4, e5]
    rfl
  refine e_ (f_bs (l := [E 0, E 1, E 2, E 3, E 4, E 5]) (hl := hfl) fun b => ?_)
  refine r_cr 6 1 ?_
  repeat (first | refine r_seq ?_ | refine ri_seq ?_ | refine ri_region ?_ | refine ri_skip ?_ | refine ri_block ?_ | refine xi_ ?_ | refine r_nil ?_ | refine r_region ?_ | refine r_skip ?_ | refine r_block ?_ | refine r_inBlock ?_ | refine x_ ?_ | refine w_ v_p ?_ | refine w_ v_cv ?_ | refine w_ v_and ?_ | refine w_ v_or ?_ | refine w_ v_f ?_ | refine w_ v_b ?_ | refine w_ v_r ?_ | refine w_ v_i ?_ | refine w_ v_a ?_ | refine w_ v_l ?_ | refine w_ v_la ?_ | refine w_ v_ls ?_ | refine w_ v_lr ?_ | refine w_ v_ln ?_ | refine w_ v_bd ?_ | refine w_ v_ba ?_ | refine w_ v_mf ?_ | refine w_ v_sap ?_ | refine w_ v_pkf ?_ | refine w_ v_pkt ?_ | refine w_ v_nl ?_ | refine w_ v_nn ?_ | refine e_ (f_st ?_) | refine e_ (f_al fun _ => ?_) | refine e_ (f_bx fun _ => ?_))
  exact t2 (List.Sublist.refl _) ⟨b, rfl, rfl⟩

theorem alike_does (E : Nat → Value) (e : Option Nat) (j : Nat) (w : World) (hG : Glob w [] E) (he : ∀ i, e = some i → i < 6) (hj : j < 6) : Does Tryz.prog 144 [errV E e, E j] w [] (fun v L => v = .bool (decide (e = some j)) ∧ L = []) := by
  refine does_of Tryz.func144 rfl rfl ?_
  have hne : nilOf 0 (E j) = some false := hG.some j
  cases e with
  | none =>
    repeat (first | refine w_ (v_nl (hv := hne)) ?_ | refine r_seq ?_ | refine ri_seq ?_ | refine ri_region ?_ | refine ri_skip ?_ | refine ri_block ?_ | refine xi_ ?_ | refine r_nil ?_ | refine r_region ?_ | refine r_skip ?_ | refine r_block ?_ | refine r_inBlock ?_ | refine x_ ?_ | refine w_ v_p ?_ | refine w_ v_cv ?_ | refine w_ v_and ?_ | refine w_ v_or ?_ | refine w_ v_f ?_ | refine w_ v_b ?_ | refine w_ v_r ?_ | refine w_ v_i ?_ | refine w_ v_a ?_ | refine w_ v_l ?_ | refine w_ v_la ?_ | refine w_ v_ls ?_ | refine w_ v_lr ?_ | refine w_ v_ln ?_ | refine w_ v_bd ?_ | refine w_ v_ba ?_ | refine w_ v_mf ?_ | refine w_ v_sap ?_ | refine w_ v_pkf ?_ | refine w_ v_pkt ?_ | refine w_ v_nl ?_ | refine w_ v_nn ?_ | refine e_ (f_st ?_) | refine e_ (f_al fun _ => ?_) | refine e_ (f_bx fun _ => ?_))
    refine c_ (t := true) (fun _ => ?_) (fun h => by cases h)
    repeat (first | refine w_ (v_nl (hv := hne)) ?_ | refine r_seq ?_ | refine ri_seq ?_ | refine ri_region ?_ | refine ri_skip ?_ | refine ri_block ?_ | refine xi_ ?_ | refine r_nil ?_ | refine r_region ?_ | refine r_skip ?_ | refine r_block ?_ | refine r_inBlock ?_ | refine x_ ?_ | refine w_ v_p ?_ | refine w_ v_cv ?_ | refine w_ v_and ?_ | refine w_ v_or ?_ | refine w_ v_f ?_ | refine w_ v_b ?_ | refine w_ v_r ?_ | refine w_ v_i ?_ | refine w_ v_a ?_ | refine w_ v_l ?_ | refine w_ v_la ?_ | refine w_ v_ls ?_ | refine w_ v_lr ?_ | refine w_ v_ln ?_ | refine w_ v_bd ?_ | refine w_ v_ba ?_ | refine w_ v_mf ?_ | refine w_ v_sap ?_ | refine w_ v_pkf ?_ | refine w_ v_pkt ?_ | refine w_ v_nl ?_ | refine w_ v_nn ?_ | refine e_ (f_st ?_) | refine e_ (f_al fun _ => ?_) | refine e_ (f_bx fun _ => ?_))
    exact t2 (List.nil_sublist _) ⟨rfl, rfl⟩
  | some i =>
    have hne2 : nilOf 0 (E i) = some false := hG.some i
    have hi := he i rfl
    repeat (first | refine w_ (v_nl (hv := hne2)) ?_ | refine w_ (v_nl (hv := hne)) ?_ | refine w_ (v_er hG hi hj rfl rfl) ?_ | refine r_seq ?_ | refine ri_seq ?_ | refine ri_region ?_ | refine ri_skip ?_ | refine ri_block ?_ | refine xi_ ?_ | refine r_nil ?_ | refine r_region ?_ | refine r_skip ?_ | refine r_block ?_ | refine r_inBlock ?_ | refine x_ ?_ | refine w_ v_p ?_ | refine w_ v_cv ?_ | refine w_ v_and ?_ | refine w_ v_or ?_ | refine w_ v_f ?_ | refine w_ v_b ?_ | refine w_ v_r ?_ | refine w_ v_i ?_ | refine w_ v_a ?_ | refine w_ v_l ?_ | refine w_ v_la ?_ | refine w_ v_ls ?_ | refine w_ v_lr ?_ | refine w_ v_ln ?_ | refine w_ v_bd ?_ | refine w_ v_ba ?_ | refine w_ v_mf ?_ | refine w_ v_sap ?_ | refine w_ v_pkf ?_ | refine w_ v_pkt ?_ | refine w_ v_nl ?_ | refine w_ v_nn ?_ | refine e_ (f_st ?_) | refine e_ (f_al fun _ => ?_) | refine e_ (f_bx fun _ => ?_))
    refine c_ (t := false) (fun h => by cases h) (fun _ => ?_)
    repeat (first | refine w_ (v_er hG hi hj rfl rfl) ?_ | refine r_seq ?_ | refine ri_seq ?_ | refine ri_region ?_ | refine ri_skip ?_ | refine ri_block ?_ | refine xi_ ?_ | refine r_nil ?_ | refine r_region ?_ | refine r_skip ?_ | refine r_block ?_ | refine r_inBlock ?_ | refine x_ ?_ | refine w_ v_p ?_ | refine w_ v_cv ?_ | refine w_ v_and ?_ | refine w_ v_or ?_ | refine w_ v_f ?_ | refine w_ v_b ?_ | refine w_ v_r ?_ | refine w_ v_i ?_ | refine w_ v_a ?_ | refine w_ v_l ?_ | refine w_ v_la ?_ | refine w_ v_ls ?_ | refine w_ v_lr ?_ | refine w_ v_ln ?_ | refine w_ v_bd ?_ | refine w_ v_ba ?_ | refine w_ v_mf ?_ | refine w_ v_sap ?_ | refine w_ v_pkf ?_ | refine w_ v_pkt ?_ | refine w_ v_nl ?_ | refine w_ v_nn ?_ | refine e_ (f_st ?_) | refine e_ (f_al fun _ => ?_) | refine e_ (f_bx fun _ => ?_))
    refine t2 (List.nil_sublist _) ⟨?_, rfl⟩
    show Value.bool _ = _
    congr 1
    by_cases h : i = j <;> simp [h]

theorem sent_does (E : Nat → Value) (i : Nat) (w : World) (hG : Glob w [] E) (hi : i < 6) : Does Tryz.prog 75 [E i] w [] (fun v L => v = .int .i64 (101 + i) ∧ L = []) := by
  refine does_of Tryz.func75 rfl rfl ?_
  repeat (first | refine r_seq ?_ | refine ri_seq ?_ | refine ri_region ?_ | refine ri_skip ?_ | refine ri_block ?_ | refine xi_ ?_ | refine r_nil ?_ | refine r_region ?_ | refine r_skip ?_ | refine r_block ?_ | refine r_inBlock ?_ | refine x_ ?_ | refine w_ v_p ?_ | refine w_ v_cv ?_ | refine w_ v_and ?_ | refine w_ v_or ?_ | refine w_ v_f ?_ | refine w_ v_b ?_ | refine w_ v_r ?_ | refine w_ v_i ?_ | refine w_ v_a ?_ | refine w_ v_l ?_ | refine w_ v_la ?_ | refine w_ v_ls ?_ | refine w_ v_lr ?_ | refine w_ v_ln ?_ | refine w_ v_bd ?_ | refine w_ v_ba ?_ | refine w_ v_mf ?_ | refine w_ v_sap ?_ | refine w_ v_pkf ?_ | refine w_ v_pkt ?_ | refine w_ v_nl ?_ | refine w_ v_nn ?_ | refine e_ (f_st ?_) | refine e_ (f_al fun _ => ?_) | refine e_ (f_bx fun _ => ?_))
  refine e_ (f_c (fun w hw => sents_does E w (hG.now hw)) fun v L' h => ?_)
  obtain ⟨b, rfl, rfl⟩ := h
  repeat (first | refine r_seq ?_ | refine ri_seq ?_ | refine ri_region ?_ | refine ri_skip ?_ | refine ri_block ?_ | refine xi_ ?_ | refine r_nil ?_ | refine r_region ?_ | refine r_skip ?_ | refine r_block ?_ | refine r_inBlock ?_ | refine x_ ?_ | refine w_ v_p ?_ | refine w_ v_cv ?_ | refine w_ v_and ?_ | refine w_ v_or ?_ | refine w_ v_f ?_ | refine w_ v_b ?_ | refine w_ v_r ?_ | refine w_ v_i ?_ | refine w_ v_a ?_ | refine w_ v_l ?_ | refine w_ v_la ?_ | refine w_ v_ls ?_ | refine w_ v_lr ?_ | refine w_ v_ln ?_ | refine w_ v_bd ?_ | refine w_ v_ba ?_ | refine w_ v_mf ?_ | refine w_ v_sap ?_ | refine w_ v_pkf ?_ | refine w_ v_pkt ?_ | refine w_ v_nl ?_ | refine w_ v_nn ?_ | refine e_ (f_st ?_) | refine e_ (f_al fun _ => ?_) | refine e_ (f_bx fun _ => ?_))
  refine r_loop (τ := Nat) (fun j => j ≤ i) (fun j => i - j) (fun j => [(0, .v (E i)), (3, .v (.slice (some ⟨b, 0, none⟩) 6 6)), (4, .v (.int .i64 j))])
    (fun _ => [.row (some ⟨b, 0, none⟩) 6 6 [E 0, E 1, E 2, E 3, E 4, E 5] 28 1]) 0 (by omega) ⟨rfl, rfl, rfl, trivial⟩ (List.Sublist.refl _) ?_
  rintro j hj f
  repeat (first | refine r_seq ?_ | refine ri_seq ?_ | refine ri_region ?_ | refine ri_skip ?_ | refine ri_block ?_ | refine xi_ ?_ | refine r_nil ?_ | refine r_region ?_ | refine r_skip ?_ | refine r_block ?_ | refine r_inBlock ?_ | refine x_ ?_ | refine w_ v_p ?_ | refine w_ v_cv ?_ | refine w_ v_and ?_ | refine w_ v_or ?_ | refine w_ v_f ?_ | refine w_ v_b ?_ | refine w_ v_r ?_ | refine w_ v_i ?_ | refine w_ v_a ?_ | refine w_ v_l ?_ | refine w_ v_la ?_ | refine w_ v_ls ?_ | refine w_ v_lr ?_ | refine w_ v_ln ?_ | refine w_ v_bd ?_ | refine w_ v_ba ?_ | refine w_ v_mf ?_ | refine w_ v_sap ?_ | refine w_ v_pkf ?_ | refine w_ v_pkt ?_ | refine w_ v_nl ?_ | refine w_ v_nn ?_ | refine e_ (f_st ?_) | refine e_ (f_al fun _ => ?_) | refine e_ (f_bx fun _ => ?_))
  refine c_ (fun h => ?_) (fun h => ?_)
  · have hld : ([E 0, E 1, E 2, E 3, E 4, E 5] : List Value)[((j : Nat) : Int).toNat * 1]? = some (E j) := by
      have : j < 6 := by omega
      match j, this with
      | 0, _ => rfl
      | 1, _ => rfl
      | 2, _ => rfl
      | 3, _ => rfl
      | 4, _ => rfl
      | 5, _ => rfl
    repeat (first | refine w_ (v_lr (hv := hld)) ?_ | refine r_seq ?_ | refine ri_seq ?_ | refine ri_region ?_ | refine ri_skip ?_ | refine ri_block ?_ | refine xi_ ?_ | refine r_nil ?_ | refine r_region ?_ | refine r_skip ?_ | refine r_block ?_ | refine r_inBlock ?_ | refine x_ ?_ | refine w_ v_p ?_ | refine w_ v_cv ?_ | refine w_ v_and ?_ | refine w_ v_or ?_ | refine w_ v_f ?_ | refine w_ v_b ?_ | refine w_ v_r ?_ | refine w_ v_i ?_ | refine w_ v_a ?_ | refine w_ v_l ?_ | refine w_ v_la ?_ | refine w_ v_ls ?_ | refine w_ v_lr ?_ | refine w_ v_ln ?_ | refine w_ v_bd ?_ | refine w_ v_ba ?_ | refine w_ v_mf ?_ | refine w_ v_sap ?_ | refine w_ v_pkf ?_ | refine w_ v_pkt ?_ | refine w_ v_nl ?_ | refine w_ v_nn ?_ | refine e_ (f_st ?_) | refine e_ (f_al fun _ => ?_) | refine e_ (f_bx fun _ => ?_))
    refine e_ (f_c (fun w hw => alike_does E (some i) j w (hG.now hw) (fun x hx => by cases hx; exact hi) (by omega)) fun v L' h => ?_)
    obtain ⟨rfl, rfl⟩ := h
    repeat (first | refine r_seq ?_ | refine ri_seq ?_ | refine ri_region ?_ | refine ri_skip ?_ | refine ri_block ?_ | refine xi_ ?_ | refine r_nil ?_ | refine r_region ?_ | refine r_skip ?_ | refine r_block ?_ | refine r_inBlock ?_ | refine x_ ?_ | refine w_ v_p ?_ | refine w_ v_cv ?_ | refine w_ v_and ?_ | refine w_ v_or ?_ | refine w_ v_f ?_ | refine w_ v_b ?_ | refine w_ v_r ?_ | refine w_ v_i ?_ | refine w_ v_a ?_ | refine w_ v_l ?_ | refine w_ v_la ?_ | refine w_ v_ls ?_ | refine w_ v_lr ?_ | refine w_ v_ln ?_ | refine w_ v_bd ?_ | refine w_ v_ba ?_ | refine w_ v_mf ?_ | refine w_ v_sap ?_ | refine w_ v_pkf ?_ | refine w_ v_pkt ?_ | refine w_ v_nl ?_ | refine w_ v_nn ?_ | refine e_ (f_st ?_) | refine e_ (f_al fun _ => ?_) | refine e_ (f_bx fun _ => ?_))
    refine c_ (fun h1 => ?_) (fun h1 => ?_)
    · have hij : i = j := by simpa using h1
      subst hij
      repeat (first | refine r_seq ?_ | refine ri_seq ?_ | refine ri_region ?_ | refine ri_skip ?_ | refine ri_block ?_ | refine xi_ ?_ | refine r_nil ?_ | refine r_region ?_ | refine r_skip ?_ | refine r_block ?_ | refine r_inBlock ?_ | refine x_ ?_ | refine w_ v_p ?_ | refine w_ v_cv ?_ | refine w_ v_and ?_ | refine w_ v_or ?_ | refine w_ v_f ?_ | refine w_ v_b ?_ | refine w_ v_r ?_ | refine w_ v_i ?_ | refine w_ v_a ?_ | refine w_ v_l ?_ | refine w_ v_la ?_ | refine w_ v_ls ?_ | refine w_ v_lr ?_ | refine w_ v_ln ?_ | refine w_ v_bd ?_ | refine w_ v_ba ?_ | refine w_ v_mf ?_ | refine w_ v_sap ?_ | refine w_ v_pkf ?_ | refine w_ v_pkt ?_ | refine w_ v_nl ?_ | refine w_ v_nn ?_ | refine e_ (f_st ?_) | refine e_ (f_al fun _ => ?_) | refine e_ (f_bx fun _ => ?_))
      exact t2 (List.nil_sublist _) ⟨rfl, rfl⟩
    · have hij : ¬ i = j := by simpa using h1
      repeat (first | refine r_seq ?_ | refine ri_seq ?_ | refine ri_region ?_ | refine ri_skip ?_ | refine ri_block ?_ | refine xi_ ?_ | refine r_nil ?_ | refine r_region ?_ | refine r_skip ?_ | refine r_block ?_ | refine r_inBlock ?_ | refine x_ ?_ | refine w_ v_p ?_ | refine w_ v_cv ?_ | refine w_ v_and ?_ | refine w_ v_or ?_ | refine w_ v_f ?_ | refine w_ v_b ?_ | refine w_ v_r ?_ | refine w_ v_i ?_ | refine w_ v_a ?_ | refine w_ v_l ?_ | refine w_ v_la ?_ | refine w_ v_ls ?_ | refine w_ v_lr ?_ | refine w_ v_ln ?_ | refine w_ v_bd ?_ | refine w_ v_ba ?_ | refine w_ v_mf ?_ | refine w_ v_sap ?_ | refine w_ v_pkf ?_ | refine w_ v_pkt ?_ | refine w_ v_nl ?_ | refine w_ v_nn ?_ | refine e_ (f_st ?_) | refine e_ (f_al fun _ => ?_) | refine e_ (f_bx fun _ => ?_))
      exact r_again (j + 1) (by omega) (by omega) ⟨rfl, rfl, rfl, trivial⟩ (List.Sublist.refl _)
  · exfalso
    simp only [decide_eq_false_iff_not] at h
    omega

theorem fault_does (E : Nat → Value) (e : Option Nat) (w : World) (hG : Glob w [] E) (he : ∀ i, e = some i → i < 6) : Does Tryz.prog 22 [errV E e] w [] (fun v L => v = faV (faultM e) ∧ L = []) := by
  refine does_of Tryz.func22 rfl rfl ?_
  cases e with
  | none =>
    repeat (first | refine e_ (f_al fun b2 => ?_) | refine r_seq ?_ | refine ri_seq ?_ | refine ri_region ?_ | refine ri_skip ?_ | refine ri_block ?_ | refine xi_ ?_ | refine r_nil ?_ | refine r_region ?_ | refine r_skip ?_ | refine r_block ?_ | refine r_inBlock ?_ | refine x_ ?_ | refine w_ v_p ?_ | refine w_ v_cv ?_ | refine w_ v_and ?_ | refine w_ v_or ?_ | refine w_ v_f ?_ | refine w_ v_b ?_ | refine w_ v_r ?_ | refine w_ v_i ?_ | refine w_ v_a ?_ | refine w_ v_l ?_ | refine w_ v_la ?_ | refine w_ v_ls ?_ | refine w_ v_lr ?_ | refine w_ v_ln ?_ | refine w_ v_bd ?_ | refine w_ v_ba ?_ | refine w_ v_mf ?_ | refine w_ v_sap ?_ | refine w_ v_pkf ?_ | refine w_ v_pkt ?_ | refine w_ v_nl ?_ | refine w_ v_nn ?_ | refine e_ (f_st ?_) | refine e_ (f_al fun _ => ?_) | refine e_ (f_bx fun _ => ?_))
    refine c_ (t := true) (fun _ => ?_) (fun h => by cases h)
    repeat (first | refine r_seq ?_ | refine ri_seq ?_ | refine ri_region ?_ | refine ri_skip ?_ | refine ri_block ?_ | refine xi_ ?_ | refine r_nil ?_ | refine r_region ?_ | refine r_skip ?_ | refine r_block ?_ | refine r_inBlock ?_ | refine x_ ?_ | refine w_ v_p ?_ | refine w_ v_cv ?_ | refine w_ v_and ?_ | refine w_ v_or ?_ | refine w_ v_f ?_ | refine w_ v_b ?_ | refine w_ v_r ?_ | refine w_ v_i ?_ | refine w_ v_a ?_ | refine w_ v_l ?_ | refine w_ v_la ?_ | refine w_ v_ls ?_ | refine w_ v_lr ?_ | refine w_ v_ln ?_ | refine w_ v_bd ?_ | refine w_ v_ba ?_ | refine w_ v_mf ?_ | refine w_ v_sap ?_ | refine w_ v_pkf ?_ | refine w_ v_pkt ?_ | refine w_ v_nl ?_ | refine w_ v_nn ?_ | refine e_ (f_st ?_) | refine e_ (f_al fun _ => ?_) | refine e_ (f_bx fun _ => ?_))
    refine e_ (f_c (fun w hw => noneF_does w) fun v L' h => ?_)
    obtain ⟨rfl, rfl⟩ := h
    repeat (first | refine e_ (f_st (vs := faC ⟨0, false, 0⟩) (l' := faC ⟨0, false, 0⟩) (hl := rfl) ?_) | refine r_seq ?_ | refine ri_seq ?_ | refine ri_region ?_ | refine ri_skip ?_ | refine ri_block ?_ | refine xi_ ?_ | refine r_nil ?_ | refine r_region ?_ | refine r_skip ?_ | refine r_block ?_ | refine r_inBlock ?_ | refine x_ ?_ | refine w_ v_p ?_ | refine w_ v_cv ?_ | refine w_ v_and ?_ | refine w_ v_or ?_ | refine w_ v_f ?_ | refine w_ v_b ?_ | refine w_ v_r ?_ | refine w_ v_i ?_ | refine w_ v_a ?_ | refine w_ v_l ?_ | refine w_ v_la ?_ | refine w_ v_ls ?_ | refine w_ v_lr ?_ | refine w_ v_ln ?_ | refine w_ v_bd ?_ | refine w_ v_ba ?_ | refine w_ v_mf ?_ | refine w_ v_sap ?_ | refine w_ v_pkf ?_ | refine w_ v_pkt ?_ | refine w_ v_nl ?_ | refine w_ v_nn ?_ | refine e_ (f_st ?_) | refine e_ (f_al fun _ => ?_) | refine e_ (f_bx fun _ => ?_))
    exact t2 (L' := []) (.cons _ (List.Sublist.refl _)) ⟨rfl, rfl⟩ (.cella rfl (.head _) rfl .nil)
  | some i =>
    have hi := he i rfl
    have hne : nilOf 0 (E i) = some false := hG.some i
    repeat (first | refine e_ (f_al fun b2 => ?_) | refine w_ (v_nl (hv := hne)) ?_ | refine r_seq ?_ | refine ri_seq ?_ | refine ri_region ?_ | refine ri_skip ?_ | refine ri_block ?_ | refine xi_ ?_ | refine r_nil ?_ | refine r_region ?_ | refine r_skip ?_ | refine r_block ?_ | refine r_inBlock ?_ | refine x_ ?_ | refine w_ v_p ?_ | refine w_ v_cv ?_ | refine w_ v_and ?_ | refine w_ v_or ?_ | refine w_ v_f ?_ | refine w_ v_b ?_ | refine w_ v_r ?_ | refine w_ v_i ?_ | refine w_ v_a ?_ | refine w_ v_l ?_ | refine w_ v_la ?_ | refine w_ v_ls ?_ | refine w_ v_lr ?_ | refine w_ v_ln ?_ | refine w_ v_bd ?_ | refine w_ v_ba ?_ | refine w_ v_mf ?_ | refine w_ v_sap ?_ | refine w_ v_pkf ?_ | refine w_ v_pkt ?_ | refine w_ v_nl ?_ | refine w_ v_nn ?_ | refine e_ (f_st ?_) | refine e_ (f_al fun _ => ?_) | refine e_ (f_bx fun _ => ?_))
    refine c_ (t := false) (fun h => by cases h) (fun _ => ?_)
    repeat (first | refine w_ (v_ta hG hi rfl) ?_ | refine r_seq ?_ | refine ri_seq ?_ | refine ri_region ?_ | refine ri_skip ?_ | refine ri_block ?_ | refine xi_ ?_ | refine r_nil ?_ | refine r_region ?_ | refine r_skip ?_ | refine r_block ?_ | refine r_inBlock ?_ | refine x_ ?_ | refine w_ v_p ?_ | refine w_ v_cv ?_ | refine w_ v_and ?_ | refine w_ v_or ?_ | refine w_ v_f ?_ | refine w_ v_b ?_ | refine w_ v_r ?_ | refine w_ v_i ?_ | refine w_ v_a ?_ | refine w_ v_l ?_ | refine w_ v_la ?_ | refine w_ v_ls ?_ | refine w_ v_lr ?_ | refine w_ v_ln ?_ | refine w_ v_bd ?_ | refine w_ v_ba ?_ | refine w_ v_mf ?_ | refine w_ v_sap ?_ | refine w_ v_pkf ?_ | refine w_ v_pkt ?_ | refine w_ v_nl ?_ | refine w_ v_nn ?_ | refine e_ (f_st ?_) | refine e_ (f_al fun _ => ?_) | refine e_ (f_bx fun _ => ?_))
    refine c_ (t := true) (fun _ => ?_) (fun h => by cases h)
    repeat (first | refine r_seq ?_ | refine ri_seq ?_ | refine ri_region ?_ | refine ri_skip ?_ | refine ri_block ?_ | refine xi_ ?_ | refine r_nil ?_ | refine r_region ?_ | refine r_skip ?_ | refine r_block ?_ | refine r_inBlock ?_ | refine x_ ?_ | refine w_ v_p ?_ | refine w_ v_cv ?_ | refine w_ v_and ?_ | refine w_ v_or ?_ | refine w_ v_f ?_ | refine w_ v_b ?_ | refine w_ v_r ?_ | refine w_ v_i ?_ | refine w_ v_a ?_ | refine w_ v_l ?_ | refine w_ v_la ?_ | refine w_ v_ls ?_ | refine w_ v_lr ?_ | refine w_ v_ln ?_ | refine w_ v_bd ?_ | refine w_ v_ba ?_ | refine w_ v_mf ?_ | refine w_ v_sap ?_ | refine w_ v_pkf ?_ | refine w_ v_pkt ?_ | refine w_ v_nl ?_ | refine w_ v_nn ?_ | refine e_ (f_st ?_) | refine e_ (f_al fun _ => ?_) | refine e_ (f_bx fun _ => ?_))
    refine e_ (f_c (fun w hw => sent_does E i w (hG.now hw) hi) fun v L' h => ?_)
    obtain ⟨rfl, rfl⟩ := h
    repeat (first | refine r_seq ?_ | refine ri_seq ?_ | refine ri_region ?_ | refine ri_skip ?_ | refine ri_block ?_ | refine xi_ ?_ | refine r_nil ?_ | refine r_region ?_ | refine r_skip ?_ | refine r_block ?_ | refine r_inBlock ?_ | refine x_ ?_ | refine w_ v_p ?_ | refine w_ v_cv ?_ | refine w_ v_and ?_ | refine w_ v_or ?_ | refine w_ v_f ?_ | refine w_ v_b ?_ | refine w_ v_r ?_ | refine w_ v_i ?_ | refine w_ v_a ?_ | refine w_ v_l ?_ | refine w_ v_la ?_ | refine w_ v_ls ?_ | refine w_ v_lr ?_ | refine w_ v_ln ?_ | refine w_ v_bd ?_ | refine w_ v_ba ?_ | refine w_ v_mf ?_ | refine w_ v_sap ?_ | refine w_ v_pkf ?_ | refine w_ v_pkt ?_ | refine w_ v_nl ?_ | refine w_ v_nn ?_ | refine e_ (f_st ?_) | refine e_ (f_al fun _ => ?_) | refine e_ (f_bx fun _ => ?_))
    refine e_ (f_c (fun w hw => bare_does (101 + i) w) fun v L' h => ?_)
    obtain ⟨rfl, rfl⟩ := h
    repeat (first | refine e_ (f_st (vs := faC ⟨101 + i, false, 0⟩) (l' := faC ⟨101 + i, false, 0⟩) (hl := rfl) ?_) | refine r_seq ?_ | refine ri_seq ?_ | refine ri_region ?_ | refine ri_skip ?_ | refine ri_block ?_ | refine xi_ ?_ | refine r_nil ?_ | refine r_region ?_ | refine r_skip ?_ | refine r_block ?_ | refine r_inBlock ?_ | refine x_ ?_ | refine w_ v_p ?_ | refine w_ v_cv ?_ | refine w_ v_and ?_ | refine w_ v_or ?_ | refine w_ v_f ?_ | refine w_ v_b ?_ | refine w_ v_r ?_ | refine w_ v_i ?_ | refine w_ v_a ?_ | refine w_ v_l ?_ | refine w_ v_la ?_ | refine w_ v_ls ?_ | refine w_ v_lr ?_ | refine w_ v_ln ?_ | refine w_ v_bd ?_ | refine w_ v_ba ?_ | refine w_ v_mf ?_ | refine w_ v_sap ?_ | refine w_ v_pkf ?_ | refine w_ v_pkt ?_ | refine w_ v_nl ?_ | refine w_ v_nn ?_ | refine e_ (f_st ?_) | refine e_ (f_al fun _ => ?_) | refine e_ (f_bx fun _ => ?_))
    exact t2 (L' := []) (.cons _ (List.Sublist.refl _)) ⟨rfl, rfl⟩ (.cella rfl (.head _) rfl .nil)

theorem sameF_does (x y : Fa) (w : World) : Does Tryz.prog 72 [faV x, faV y] w [] (fun v L => v = .bool (decide (x = y)) ∧ L = []) := by
  refine does_of Tryz.func72 rfl rfl ?_
  repeat (first | refine w_ (v_bq (.inl ⟨rfl, rfl⟩)) ?_ | refine r_seq ?_ | refine ri_seq ?_ | refine ri_region ?_ | refine ri_skip ?_ | refine ri_block ?_ | refine xi_ ?_ | refine r_nil ?_ | refine r_region ?_ | refine r_skip ?_ | refine r_block ?_ | refine r_inBlock ?_ | refine x_ ?_ | refine w_ v_p ?_ | refine w_ v_cv ?_ | refine w_ v_and ?_ | refine w_ v_or ?_ | refine w_ v_f ?_ | refine w_ v_b ?_ | refine w_ v_r ?_ | refine w_ v_i ?_ | refine w_ v_a ?_ | refine w_ v_l ?_ | refine w_ v_la ?_ | refine w_ v_ls ?_ | refine w_ v_lr ?_ | refine w_ v_ln ?_ | refine w_ v_bd ?_ | refine w_ v_ba ?_ | refine w_ v_mf ?_ | refine w_ v_sap ?_ | refine w_ v_pkf ?_ | refine w_ v_pkt ?_ | refine w_ v_nl ?_ | refine w_ v_nn ?_ | refine e_ (f_st ?_) | refine e_ (f_al fun _ => ?_) | refine e_ (f_bx fun _ => ?_))
  refine t2 (List.nil_sublist _) ⟨?_, rfl⟩
  show Value.bool _ = _
  congr 1
  obtain ⟨a, b, c⟩ := x
  obtain ⟨a', b', c'⟩ := y
  simp only [Fa.mk.injEq]
  by_cases h1 : a = a' <;> by_cases h2 : b = b' <;> by_cases h3 : c = c' <;> simp [h1, h2, h3]

theorem sameE_does (E : Nat → Value) (e : Option Nat) (y : Fa) (w : World) (hG : Glob w [] E) (he : ∀ i, e = some i → i < 6) : Does Tryz.prog 21 [errV E e, faV y] w [] (fun v L => v = .bool (decide (faultM e = y)) ∧ L = []) := by
  refine does_of Tryz.func21 rfl rfl ?_
  repeat (first | refine e_ (f_bx (c := faC y) fun b3 => ?_) | refine r_seq ?_ | refine ri_seq ?_ | refine ri_region ?_ | refine ri_skip ?_ | refine ri_block ?_ | refine xi_ ?_ | refine r_nil ?_ | refine r_region ?_ | refine r_skip ?_ | refine r_block ?_ | refine r_inBlock ?_ | refine x_ ?_ | refine w_ v_p ?_ | refine w_ v_cv ?_ | refine w_ v_and ?_ | refine w_ v_or ?_ | refine w_ v_f ?_ | refine w_ v_b ?_ | refine w_ v_r ?_ | refine w_ v_i ?_ | refine w_ v_a ?_ | refine w_ v_l ?_ | refine w_ v_la ?_ | refine w_ v_ls ?_ | refine w_ v_lr ?_ | refine w_ v_ln ?_ | refine w_ v_bd ?_ | refine w_ v_ba ?_ | refine w_ v_mf ?_ | refine w_ v_sap ?_ | refine w_ v_pkf ?_ | refine w_ v_pkt ?_ | refine w_ v_nl ?_ | refine w_ v_nn ?_ | refine e_ (f_st ?_) | refine e_ (f_al fun _ => ?_) | refine e_ (f_bx fun _ => ?_))
  repeat refine r_seq ?_
  refine d_in ([.cells b3 (faC y) 39]) [] ?_
  first | (refine dp 0 ?_; first | refine tp (fun _ => v_p) ?_)
  first | (refine dw 2 ?_; first | refine tw (v_la (hv := sub_all (faC_length y))) ?_ | refine tw (v_l) ?_ | refine tw (v_la) ?_ | refine tw (v_ls) ?_ | refine tw (v_lr) ?_ | refine tw ((v_ge hG)) ?_)
  refine d_e 1 ?_
  refine f_ce (fun w hw => fault_does E e w (hG.now hw) he) fun v L' h => ?_
  obtain ⟨rfl, rfl⟩ := h
  refine ⟨?_, ?_⟩
  · first | exact st_n | exact st_l rfl | exact st_s (by repeat (first | exact List.Sublist.refl _ | exact List.nil_sublist _ | exact List.sublist_append_right _ _ | apply List.Sublist.cons_cons | apply List.Sublist.cons))
  refine d_e 3 ?_
  refine f_ce (fun w hw => sameF_does (faultM e) y w) fun v L' h => ?_
  obtain ⟨rfl, rfl⟩ := h
  refine ⟨?_, ?_⟩
  · first | exact st_n | exact st_l rfl | exact st_s (by repeat (first | exact List.Sublist.refl _ | exact List.nil_sublist _ | exact List.sublist_append_right _ _ | apply List.Sublist.cons_cons | apply List.Sublist.cons))
  first | (refine dp 4 ?_; first | refine tp (fun _ => v_p) ?_)
  refine d_z ?_
  exact t2 (vs := [.bool (decide (faultM e = y))]) (List.nil_sublist _) ⟨rfl, rfl⟩

theorem isE_does (E : Nat → Value) (e : Option Nat) (c : Int) (w : World) (hG : Glob w [] E) (he : ∀ i, e = some i → i < 6) : Does Tryz.prog 30 [errV E e, .int .i64 c] w [] (fun v L => v = .bool (decide (faultM e = ⟨c, false, 0⟩)) ∧ L = []) := by
  refine does_of Tryz.func30 rfl rfl ?_
  repeat (first | refine r_seq ?_ | refine ri_seq ?_ | refine ri_region ?_ | refine ri_skip ?_ | refine ri_block ?_ | refine xi_ ?_ | refine r_nil ?_ | refine r_region ?_ | refine r_skip ?_ | refine r_block ?_ | refine r_inBlock ?_ | refine x_ ?_ | refine w_ v_p ?_ | refine w_ v_cv ?_ | refine w_ v_and ?_ | refine w_ v_or ?_ | refine w_ v_f ?_ | refine w_ v_b ?_ | refine w_ v_r ?_ | refine w_ v_i ?_ | refine w_ v_a ?_ | refine w_ v_l ?_ | refine w_ v_la ?_ | refine w_ v_ls ?_ | refine w_ v_lr ?_ | refine w_ v_ln ?_ | refine w_ v_bd ?_ | refine w_ v_ba ?_ | refine w_ v_mf ?_ | refine w_ v_sap ?_ | refine w_ v_pkf ?_ | refine w_ v_pkt ?_ | refine w_ v_nl ?_ | refine w_ v_nn ?_ | refine e_ (f_st ?_) | refine e_ (f_al fun _ => ?_) | refine e_ (f_bx fun _ => ?_))
  refine e_ (f_c (fun w hw => bare_does c w) fun v L' h => ?_)
  obtain ⟨rfl, rfl⟩ := h
  repeat (first | refine r_seq ?_ | refine ri_seq ?_ | refine ri_region ?_ | refine ri_skip ?_ | refine ri_block ?_ | refine xi_ ?_ | refine r_nil ?_ | refine r_region ?_ | refine r_skip ?_ | refine r_block ?_ | refine r_inBlock ?_ | refine x_ ?_ | refine w_ v_p ?_ | refine w_ v_cv ?_ | refine w_ v_and ?_ | refine w_ v_or ?_ | refine w_ v_f ?_ | refine w_ v_b ?_ | refine w_ v_r ?_ | refine w_ v_i ?_ | refine w_ v_a ?_ | refine w_ v_l ?_ | refine w_ v_la ?_ | refine w_ v_ls ?_ | refine w_ v_lr ?_ | refine w_ v_ln ?_ | refine w_ v_bd ?_ | refine w_ v_ba ?_ | refine w_ v_mf ?_ | refine w_ v_sap ?_ | refine w_ v_pkf ?_ | refine w_ v_pkt ?_ | refine w_ v_nl ?_ | refine w_ v_nn ?_ | refine e_ (f_st ?_) | refine e_ (f_al fun _ => ?_) | refine e_ (f_bx fun _ => ?_))
  refine e_ (f_c (fun w hw => sameE_does E e ⟨c, false, 0⟩ w (hG.now hw) he) fun v L' h => ?_)
  obtain ⟨rfl, rfl⟩ := h
  repeat (first | refine r_seq ?_ | refine ri_seq ?_ | refine ri_region ?_ | refine ri_skip ?_ | refine ri_block ?_ | refine xi_ ?_ | refine r_nil ?_ | refine r_region ?_ | refine r_skip ?_ | refine r_block ?_ | refine r_inBlock ?_ | refine x_ ?_ | refine w_ v_p ?_ | refine w_ v_cv ?_ | refine w_ v_and ?_ | refine w_ v_or ?_ | refine w_ v_f ?_ | refine w_ v_b ?_ | refine w_ v_r ?_ | refine w_ v_i ?_ | refine w_ v_a ?_ | refine w_ v_l ?_ | refine w_ v_la ?_ | refine w_ v_ls ?_ | refine w_ v_lr ?_ | refine w_ v_ln ?_ | refine w_ v_bd ?_ | refine w_ v_ba ?_ | refine w_ v_mf ?_ | refine w_ v_sap ?_ | refine w_ v_pkf ?_ | refine w_ v_pkt ?_ | refine w_ v_nl ?_ | refine w_ v_nn ?_ | refine e_ (f_st ?_) | refine e_ (f_al fun _ => ?_) | refine e_ (f_bx fun _ => ?_))
  exact t2 (List.nil_sublist _) ⟨rfl, rfl⟩
end Go.Proofs

