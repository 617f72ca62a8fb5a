/-
  The step from the walk of AcquireDefault to its row.
-/
import Derived.Test.YtdjgkbphbffleaaGreatDoorA19
import Derived.Test.YtdjgkbphbffleaaGreatDoorA18
import Derived.Test.YtdjgkbphbffleaaGreatDoorCards
import Derived.Test.YtdjgkbphbffleaaGreatDoorTie
namespace Go.Proofs.YtdjgkbphbffleaaGreatDoor
open Go.ChangeShapes Go.WideShapes Go.RowKit

/-- What a walk leaves of the memory that was there. -/
theorem kept_of {W W' : World} {L : Cf.Hp} (h : (Cf.St.mk W [] L).holds W') : W.keptBut W' (fun _ => False) :=
  World.keptBut_none_iff.2 ⟨h.os, h.output, fun i hi => h.old i hi (by simp)⟩

namespace acquireDefault
set_option maxRecDepth 100000 in
theorem lifted (os : Os) (started : os.Started) (H : Type) (enc : TypeId × Value → H) :
    ReturnsInHanded {} Tryz.checked os 5 .any (fun w args => (Rows.acquireDefaultSpec.pre enc Tryz.prog Tryz.f5 [] false w args ∧ laidMetH Tryz.prog laid6 w) ∧ sizedMet enc Tryz.prog Tryz.f5 (OpenSpec.ofChange Rows.acquireDefaultSpec) false w args)
      (Rows.acquireDefaultSpec.post enc Tryz.prog Tryz.f5 false true false false) := by
  refine returnsInHanded_of_change_and (C := Tryz.checked) (X := fun w _ => laidMetH Tryz.prog laid6 w) (fun _ _ _ hh h => h.of_heap hh) own started (by kernel_rfl) Tryz.func5
    (ChangeSpec.witness_at (enc := enc) (C := Tryz.checked) (os := os) (X := fun w _ => laidMetH Tryz.prog laid6 w) false (laidWorld os) #[.int .i64 0, .int .i64 0, .bool false, .bool false] 8 rfl (by kernel_rfl) (by kernel_rfl) (by kernel_rfl) (by kernel_rfl) (by kernel_rfl) (laidWorld_met os _)) ?_
  intro W base args ds gs before hval0 hW _ _ hL _
  have hval : ∀ (j : Nat) t v, Tryz.f5.params[j]? = some t → args[j]? = some v → Value.okWide Tryz.prog W .any base t v := hval0
  have hW' := hW
  obtain ⟨p, q, hA0, hV0, rfl, hfz, hnd⟩ := hW
  have hA : DataW.TrodAll enc Tryz.prog W 0 (fun _ => true) true Tryz.f5.params.toList args.toList ds p := hA0
  have hV : DataW.TrodVars enc Tryz.prog W (fun _ => true) [] gs q := hV0
  rw [Tryz.params5] at hA hval
  obtain ⟨v0, vs0, d0, ds0, p0, q0, hargs, rfl, rfl, h0, r0⟩ := trodAll_cons hA
  obtain ⟨v1, vs1, d1, ds1, p1, q1, rfl, rfl, rfl, h1, r1⟩ := trodAll_cons r0
  obtain ⟨v2, vs2, d2, ds2, p2, q2, rfl, rfl, rfl, h2, r2⟩ := trodAll_cons r1
  obtain ⟨v3, vs3, d3, ds3, p3, q3, rfl, rfl, rfl, h3, r3⟩ := trodAll_cons r2
  obtain ⟨rfl, rfl, rfl⟩ := trodAll_nil r3
  obtain rfl : args = #[v0, v1, v2, v3] := by cases args; simp_all
  obtain ⟨rfl, rfl⟩ : gs = [] ∧ q = [] := by
    cases gs with
    | nil => exact ⟨rfl, hV⟩
    | cons g r => exact absurd hV (by intro h; cases h)
  obtain ⟨a0, rfl, rfl, rfl, w0⟩ := open_int Tryz.underlying3 (hval 0 3 v0 rfl rfl) h0
  obtain ⟨a1, rfl, rfl, rfl, w1⟩ := open_int Tryz.underlying3 (hval 1 3 v1 rfl rfl) h1
  obtain ⟨a2, rfl, rfl, rfl⟩ := open_bool Tryz.underlying4 (hval 2 4 v2 rfl rfl) h2
  obtain ⟨a3, rfl, rfl, rfl⟩ := open_bool Tryz.underlying4 (hval 3 4 v3 rfl rfl) h3
  obtain ⟨E, hG⟩ := glob6 hL
  refine Calls.mono (default_walk E a0 a1 a2 a3 W hG) fun e W' he => ?_
  cases e with
  | returned v =>
    obtain ⟨L, ⟨rfl, rfl⟩, hs⟩ := he
    refine ⟨_, rfl, _, _, _, [], [], [], hW', ?_, ?_, ?_, World.keptBut_mono (fun _ h => h.elim) (kept_of hs), fun h => by cases h⟩
    · exact trodAll_cons_mk (shut_bool Tryz.underlying4 _) trodAll_mk0
    · exact trodAll_cons_mk (shut_int Tryz.underlying3 w0) (trodAll_cons_mk (shut_int Tryz.underlying3 w1) (trodAll_cons_mk (shut_bool Tryz.underlying4 _) (trodAll_cons_mk (shut_bool Tryz.underlying4 _) trodAll_mk0)))
    · exact rfl
  | panicked c => exact he.elim
  | outgrown => exact he.elim

end acquireDefault
end Go.Proofs.YtdjgkbphbffleaaGreatDoor

