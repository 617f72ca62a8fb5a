/-
  What the listed variables hold when the call begins; a start that meets it.
-/
import Derived.Test.YtdjgkbphbffleaaGreatDoorA01
import Derived.Test.YtdjgkbphbffleaaGreatDoorA18
import Derived.Test.YtdjgkbphbffleaaGreatDoorRows
import Derived.ChangeSame
import Derived.ChangeVars
import Derived.JoinedOf
import Derived.RowKit
import Derived.RowKitTokens
import Derived.LaidLaws
import Derived.LaidHandle
import Derived.OpenShut
import Derived.Stop.Joined
namespace Go.Proofs.YtdjgkbphbffleaaGreatDoor
open Go.ChangeShapes Go.WideShapes Go.RowKit
set_option maxRecDepth 100000

theorem own : ownKnob Tryz.prog.godebug = none := by kernel_rfl
theorem gl0 : Tryz.prog.globalNamed "ceefax/api.ErrRange" = some 0 := by kernel_rfl
theorem gt0 : (Tryz.prog.globals[0]?).map (·.type) = some 28 := by kernel_rfl
theorem gl1 : Tryz.prog.globalNamed "ceefax/api.ErrLength" = some 1 := by kernel_rfl
theorem gt1 : (Tryz.prog.globals[1]?).map (·.type) = some 28 := by kernel_rfl
theorem gl2 : Tryz.prog.globalNamed "ceefax/api.ErrBits" = some 2 := by kernel_rfl
theorem gt2 : (Tryz.prog.globals[2]?).map (·.type) = some 28 := by kernel_rfl
theorem gl3 : Tryz.prog.globalNamed "ceefax/api.ErrKind" = some 3 := by kernel_rfl
theorem gt3 : (Tryz.prog.globals[3]?).map (·.type) = some 28 := by kernel_rfl
theorem gl4 : Tryz.prog.globalNamed "ceefax/api.ErrNone" = some 4 := by kernel_rfl
theorem gt4 : (Tryz.prog.globals[4]?).map (·.type) = some 28 := by kernel_rfl
theorem gl5 : Tryz.prog.globalNamed "ceefax/api.ErrMode" = some 5 := by kernel_rfl
theorem gt5 : (Tryz.prog.globals[5]?).map (·.type) = some 28 := by kernel_rfl
theorem cells361 : Tryz.prog.cellsOf 361 = 1 := by kernel_rfl
theorem cells9 : Tryz.prog.cellsOf 9 = 1 := by kernel_rfl
theorem star : "*" ++ "errors.errorString" = "*errors.errorString" := by decide
theorem row347 (u : TypeId) (h : Tryz.prog.typeName? 3 u = some "*errors.errorString") : u = 347 :=
  typeName_ptr_named (nm := "errors.errorString") (by rw [star]; kernel_rfl) (by kernel_rfl) (by decide) u (by rw [star]; exact h)

/-- The six that a law of the machine lists. -/
def laid6 : List (String × DataW Unit) := Rows.acquireDefaultRow.laid

theorem glob6 {W : World} (h : laidMetH Tryz.prog laid6 W) : ∃ E, Cf.Glob W [] E := by
  have h' : laidMet Tryz.prog laid6 W := h
  obtain ⟨ps, ⟨g0', t0', cs0, f0, p0, q0, hg0', ht0', hv0, hd0, ⟨g1', t1', cs1, f1, p1, q1, hg1', ht1', hv1, hd1, ⟨g2', t2', cs2, f2, p2, q2, hg2', ht2', hv2, hd2, ⟨g3', t3', cs3, f3, p3, q3, hg3', ht3', hv3, hd3, ⟨g4', t4', cs4, f4, p4, q4, hg4', ht4', hv4, hd4, ⟨g5', t5', cs5, f5, p5, q5, hg5', ht5', hv5, hd5, hnil, e5⟩, e4⟩, e3⟩, e2⟩, e1⟩, e0⟩, hnd, hrows⟩ := h'
  subst hnil
  obtain rfl := Option.some.inj (gl0.symm.trans hg0')
  obtain rfl := Option.some.inj (gt0.symm.trans ht0')
  obtain rfl := Option.some.inj (gl1.symm.trans hg1')
  obtain rfl := Option.some.inj (gt1.symm.trans ht1')
  obtain rfl := Option.some.inj (gl2.symm.trans hg2')
  obtain rfl := Option.some.inj (gt2.symm.trans ht2')
  obtain rfl := Option.some.inj (gl3.symm.trans hg3')
  obtain rfl := Option.some.inj (gt3.symm.trans ht3')
  obtain rfl := Option.some.inj (gl4.symm.trans hg4')
  obtain rfl := Option.some.inj (gt4.symm.trans ht4')
  obtain rfl := Option.some.inj (gl5.symm.trans hg5')
  obtain rfl := Option.some.inj (gt5.symm.trans ht5')
  subst e5
  subst e4
  subst e3
  subst e2
  subst e1
  subst e0
  obtain ⟨l0⟩ := cs0
  have ok0 : ∀ u v, l0 = [.iface u v] → Value.okWide Tryz.prog W .any 0 u v := fun u v e => by
    subst e
    exact (hrows 0 0 (by simp [MemPlace.row])).2 u v (by simpa using World.var?_cell gl0 hv0 0)
  obtain ⟨a0, s0, rfl, hc0, -, -, rfl⟩ := errorString_of_trod Tryz.underlying28 row347 Tryz.underlying347 Tryz.underlying361 rfl rfl Tryz.underlying9 cells361 cells9 hd0 ok0
  obtain ⟨l1⟩ := cs1
  have ok1 : ∀ u v, l1 = [.iface u v] → Value.okWide Tryz.prog W .any 0 u v := fun u v e => by
    subst e
    exact (hrows 1 0 (by simp [MemPlace.row])).2 u v (by simpa using World.var?_cell gl1 hv1 0)
  obtain ⟨a1, s1, rfl, hc1, -, -, rfl⟩ := errorString_of_trod Tryz.underlying28 row347 Tryz.underlying347 Tryz.underlying361 rfl rfl Tryz.underlying9 cells361 cells9 hd1 ok1
  obtain ⟨l2⟩ := cs2
  have ok2 : ∀ u v, l2 = [.iface u v] → Value.okWide Tryz.prog W .any 0 u v := fun u v e => by
    subst e
    exact (hrows 2 0 (by simp [MemPlace.row])).2 u v (by simpa using World.var?_cell gl2 hv2 0)
  obtain ⟨a2, s2, rfl, hc2, -, -, rfl⟩ := errorString_of_trod Tryz.underlying28 row347 Tryz.underlying347 Tryz.underlying361 rfl rfl Tryz.underlying9 cells361 cells9 hd2 ok2
  obtain ⟨l3⟩ := cs3
  have ok3 : ∀ u v, l3 = [.iface u v] → Value.okWide Tryz.prog W .any 0 u v := fun u v e => by
    subst e
    exact (hrows 3 0 (by simp [MemPlace.row])).2 u v (by simpa using World.var?_cell gl3 hv3 0)
  obtain ⟨a3, s3, rfl, hc3, -, -, rfl⟩ := errorString_of_trod Tryz.underlying28 row347 Tryz.underlying347 Tryz.underlying361 rfl rfl Tryz.underlying9 cells361 cells9 hd3 ok3
  obtain ⟨l4⟩ := cs4
  have ok4 : ∀ u v, l4 = [.iface u v] → Value.okWide Tryz.prog W .any 0 u v := fun u v e => by
    subst e
    exact (hrows 4 0 (by simp [MemPlace.row])).2 u v (by simpa using World.var?_cell gl4 hv4 0)
  obtain ⟨a4, s4, rfl, hc4, -, -, rfl⟩ := errorString_of_trod Tryz.underlying28 row347 Tryz.underlying347 Tryz.underlying361 rfl rfl Tryz.underlying9 cells361 cells9 hd4 ok4
  obtain ⟨l5⟩ := cs5
  have ok5 : ∀ u v, l5 = [.iface u v] → Value.okWide Tryz.prog W .any 0 u v := fun u v e => by
    subst e
    exact (hrows 5 0 (by simp [MemPlace.row])).2 u v (by simpa using World.var?_cell gl5 hv5 0)
  obtain ⟨a5, s5, rfl, hc5, -, -, rfl⟩ := errorString_of_trod Tryz.underlying28 row347 Tryz.underlying347 Tryz.underlying361 rfl rfl Tryz.underlying9 cells361 cells9 hd5 ok5
  obtain ⟨c0, t0, hb0⟩ := (hrows a0.block a0.off (by simp [MemPlace.row])).1
  have hw0 : W.cell? ⟨0, 0, none⟩ = some (.iface 347 (.pointer (some a0))) := by simpa using World.var?_cell gl0 hv0 0
  have hz0 : 0 < W.heap.size := by
    obtain ⟨_, _, h⟩ := (hrows 0 0 (by simp [MemPlace.row])).1
    exact (Array.getElem?_eq_some_iff.1 h).1
  obtain ⟨c1, t1, hb1⟩ := (hrows a1.block a1.off (by simp [MemPlace.row])).1
  have hw1 : W.cell? ⟨1, 0, none⟩ = some (.iface 347 (.pointer (some a1))) := by simpa using World.var?_cell gl1 hv1 0
  have hz1 : 1 < W.heap.size := by
    obtain ⟨_, _, h⟩ := (hrows 1 0 (by simp [MemPlace.row])).1
    exact (Array.getElem?_eq_some_iff.1 h).1
  obtain ⟨c2, t2, hb2⟩ := (hrows a2.block a2.off (by simp [MemPlace.row])).1
  have hw2 : W.cell? ⟨2, 0, none⟩ = some (.iface 347 (.pointer (some a2))) := by simpa using World.var?_cell gl2 hv2 0
  have hz2 : 2 < W.heap.size := by
    obtain ⟨_, _, h⟩ := (hrows 2 0 (by simp [MemPlace.row])).1
    exact (Array.getElem?_eq_some_iff.1 h).1
  obtain ⟨c3, t3, hb3⟩ := (hrows a3.block a3.off (by simp [MemPlace.row])).1
  have hw3 : W.cell? ⟨3, 0, none⟩ = some (.iface 347 (.pointer (some a3))) := by simpa using World.var?_cell gl3 hv3 0
  have hz3 : 3 < W.heap.size := by
    obtain ⟨_, _, h⟩ := (hrows 3 0 (by simp [MemPlace.row])).1
    exact (Array.getElem?_eq_some_iff.1 h).1
  obtain ⟨c4, t4, hb4⟩ := (hrows a4.block a4.off (by simp [MemPlace.row])).1
  have hw4 : W.cell? ⟨4, 0, none⟩ = some (.iface 347 (.pointer (some a4))) := by simpa using World.var?_cell gl4 hv4 0
  have hz4 : 4 < W.heap.size := by
    obtain ⟨_, _, h⟩ := (hrows 4 0 (by simp [MemPlace.row])).1
    exact (Array.getElem?_eq_some_iff.1 h).1
  obtain ⟨c5, t5, hb5⟩ := (hrows a5.block a5.off (by simp [MemPlace.row])).1
  have hw5 : W.cell? ⟨5, 0, none⟩ = some (.iface 347 (.pointer (some a5))) := by simpa using World.var?_cell gl5 hv5 0
  have hz5 : 5 < W.heap.size := by
    obtain ⟨_, _, h⟩ := (hrows 5 0 (by simp [MemPlace.row])).1
    exact (Array.getElem?_eq_some_iff.1 h).1
  let A : Nat → Addr := fun i => match i with | 0 => a0 | 1 => a1 | 2 => a2 | 3 => a3 | 4 => a4 | _ => a5
  have n01 : a0 ≠ a1 := by
    rintro rfl
    simp [MemPlace.row] at hnd
  have n02 : a0 ≠ a2 := by
    rintro rfl
    simp [MemPlace.row] at hnd
  have n03 : a0 ≠ a3 := by
    rintro rfl
    simp [MemPlace.row] at hnd
  have n04 : a0 ≠ a4 := by
    rintro rfl
    simp [MemPlace.row] at hnd
  have n05 : a0 ≠ a5 := by
    rintro rfl
    simp [MemPlace.row] at hnd
  have n12 : a1 ≠ a2 := by
    rintro rfl
    simp [MemPlace.row] at hnd
  have n13 : a1 ≠ a3 := by
    rintro rfl
    simp [MemPlace.row] at hnd
  have n14 : a1 ≠ a4 := by
    rintro rfl
    simp [MemPlace.row] at hnd
  have n15 : a1 ≠ a5 := by
    rintro rfl
    simp [MemPlace.row] at hnd
  have n23 : a2 ≠ a3 := by
    rintro rfl
    simp [MemPlace.row] at hnd
  have n24 : a2 ≠ a4 := by
    rintro rfl
    simp [MemPlace.row] at hnd
  have n25 : a2 ≠ a5 := by
    rintro rfl
    simp [MemPlace.row] at hnd
  have n34 : a3 ≠ a4 := by
    rintro rfl
    simp [MemPlace.row] at hnd
  have n35 : a3 ≠ a5 := by
    rintro rfl
    simp [MemPlace.row] at hnd
  have n45 : a4 ≠ a5 := by
    rintro rfl
    simp [MemPlace.row] at hnd
  refine ⟨fun i => .iface 347 (.pointer (some (A i))), ?_, fun _ => rfl, ?_, ?_⟩
  · intro i hi
    match i, hi with
    | 0, _ => exact ⟨hz0, by simp, hw0⟩
    | 1, _ => exact ⟨hz1, by simp, hw1⟩
    | 2, _ => exact ⟨hz2, by simp, hw2⟩
    | 3, _ => exact ⟨hz3, by simp, hw3⟩
    | 4, _ => exact ⟨hz4, by simp, hw4⟩
    | 5, _ => exact ⟨hz5, by simp, hw5⟩
  · intro i hi
    match i, hi with
    | 0, _ => exact ⟨a0, c0, t0, rfl, (Array.getElem?_eq_some_iff.1 hb0).1, by simp, hb0⟩
    | 1, _ => exact ⟨a1, c1, t1, rfl, (Array.getElem?_eq_some_iff.1 hb1).1, by simp, hb1⟩
    | 2, _ => exact ⟨a2, c2, t2, rfl, (Array.getElem?_eq_some_iff.1 hb2).1, by simp, hb2⟩
    | 3, _ => exact ⟨a3, c3, t3, rfl, (Array.getElem?_eq_some_iff.1 hb3).1, by simp, hb3⟩
    | 4, _ => exact ⟨a4, c4, t4, rfl, (Array.getElem?_eq_some_iff.1 hb4).1, by simp, hb4⟩
    | 5, _ => exact ⟨a5, c5, t5, rfl, (Array.getElem?_eq_some_iff.1 hb5).1, by simp, hb5⟩
  · intro i j hi hj he
    have he' : A i = A j := by
      simp only [Value.iface.injEq, Value.pointer.injEq, Option.some.injEq, true_and] at he
      exact he
    match i, hi, j, hj, he' with
    | 0, _, 0, _, _ => exact rfl
    | 0, _, 1, _, he => exact absurd he n01
    | 0, _, 2, _, he => exact absurd he n02
    | 0, _, 3, _, he => exact absurd he n03
    | 0, _, 4, _, he => exact absurd he n04
    | 0, _, 5, _, he => exact absurd he n05
    | 1, _, 0, _, he => exact absurd he.symm n01
    | 1, _, 1, _, _ => exact rfl
    | 1, _, 2, _, he => exact absurd he n12
    | 1, _, 3, _, he => exact absurd he n13
    | 1, _, 4, _, he => exact absurd he n14
    | 1, _, 5, _, he => exact absurd he n15
    | 2, _, 0, _, he => exact absurd he.symm n02
    | 2, _, 1, _, he => exact absurd he.symm n12
    | 2, _, 2, _, _ => exact rfl
    | 2, _, 3, _, he => exact absurd he n23
    | 2, _, 4, _, he => exact absurd he n24
    | 2, _, 5, _, he => exact absurd he n25
    | 3, _, 0, _, he => exact absurd he.symm n03
    | 3, _, 1, _, he => exact absurd he.symm n13
    | 3, _, 2, _, he => exact absurd he.symm n23
    | 3, _, 3, _, _ => exact rfl
    | 3, _, 4, _, he => exact absurd he n34
    | 3, _, 5, _, he => exact absurd he n35
    | 4, _, 0, _, he => exact absurd he.symm n04
    | 4, _, 1, _, he => exact absurd he.symm n14
    | 4, _, 2, _, he => exact absurd he.symm n24
    | 4, _, 3, _, he => exact absurd he.symm n34
    | 4, _, 4, _, _ => exact rfl
    | 4, _, 5, _, he => exact absurd he n45
    | 5, _, 0, _, he => exact absurd he.symm n05
    | 5, _, 1, _, he => exact absurd he.symm n15
    | 5, _, 2, _, he => exact absurd he.symm n25
    | 5, _, 3, _, he => exact absurd he.symm n35
    | 5, _, 4, _, he => exact absurd he.symm n45
    | 5, _, 5, _, _ => exact rfl

/-! ### A start that meets it -/
noncomputable def low : Nat := (World.holding Tryz.prog default ⟨#[], #[], []⟩).heap.size
def errO (t : List UInt8) : Obj := .cells #[.string ⟨t.toArray⟩] 361
def errL (w : World) (g b : Nat) : World := { w with heap := w.heap.modify g fun
  | .cells _ t frozen => .cells #[.iface 347 (.pointer (some ⟨b, 0, none⟩))] t frozen
  | o => o }
noncomputable def laidWorld (os : Os) : World :=
  errL (errL (errL (errL (errL (errL (World.holding Tryz.prog os ⟨#[errO [97, 32, 110, 117, 109, 98, 101, 114, 32, 111, 117, 116, 32, 111, 102, 32, 105, 116, 115, 32, 114, 97, 110, 103, 101], errO [110, 111, 116, 32, 97, 115, 32, 108, 111, 110, 103, 32, 97, 115, 32, 105, 116, 32, 104, 97, 115, 32, 116, 111, 32, 98, 101], errO [98, 105, 116, 115, 32, 116, 104, 97, 116, 32, 99, 97, 110, 39, 116, 32, 98, 101, 32, 109, 101, 110, 100, 101, 100], errO [111, 102, 32, 97, 110, 111, 116, 104, 101, 114, 32, 107, 105, 110, 100], errO [116, 104, 101, 114, 101, 32, 105, 115, 32, 110, 111, 110, 101], errO [110, 111, 116, 32, 105, 110, 32, 116, 104, 105, 115, 32, 109, 111, 100, 101]], #[], []⟩) 0 low) 1 (low + 1)) 2 (low + 2)) 3 (low + 3)) 4 (low + 4)) 5 (low + 5)
theorem laidWorld_met (os : Os) (args : Array Value) : laidMetH Tryz.prog laid6 ((laidWorld os).forCall (fun _ _ => 0) ⟨#[], args, []⟩).memory :=
  show laidMet Tryz.prog laid6 _ from laidMet_of_run (ps := [.cell 0 0, .cell low 0, .cell 1 0, .cell (low + 1) 0, .cell 2 0, .cell (low + 2) 0, .cell 3 0, .cell (low + 3) 0, .cell 4 0, .cell (low + 4) 0, .cell 5 0, .cell (low + 5) 0]) 8 (by kernel_rfl) (by kernel_rfl) (by kernel_rfl)
end Go.Proofs.YtdjgkbphbffleaaGreatDoor

