/- PackApart: its walk. -/
import Derived.Test.YtcfbdfgondmkoaaPack2
import Derived.Test.YtcfbdfgondmkoaaEqA
namespace Go.Proofs.Ytcfbdfgondmkoaa
open Go Go.RowKit

set_option maxRecDepth 100000
theorem packApart_ (t i m t2 i2 m2 : Int) (w : World) : Gives Proofs.Try.prog 6 #[.agg #[.int .i64 t, .int .i64 i, .int .i64 m], .agg #[.int .i64 t2, .int .i64 i2, .int .i64 m2]] w (eqv (.bool true)) := by
  by_cases h : may t i m
  · have hv : ofV t i m = .tuple #[.int .i64 (word t i m), .int .i64 0] := by unfold ofV; rw [if_pos h]; rfl
    by_cases h2 : may t2 i2 m2
    · have hv2 : ofV t2 i2 m2 = .tuple #[.int .i64 (word t2 i2 m2), .int .i64 0] := by unfold ofV; rw [if_pos h2]; rfl
      have he : ∀ w, (binOp .eql 41 (.agg #[.int .i64 t, .int .i64 i, .int .i64 m]) (.agg #[.int .i64 t2, .int .i64 i2, .int .i64 m2])).run Proofs.Try.prog w = .ok (.bool (decide ([t, i, m] = [t2, i2, m2]))) w :=
        fun w => run_eql_ints w Proofs.Try.underlying3 [t, i, m] [t2, i2, m2] rfl Proofs.Try.underlying41 (by kernel_rfl)
      have hq : (word t i m == word t2 i2 m2) = decide ([t, i, m] = [t2, i2, m2]) := by
        rw [Bool.eq_iff_iff]
        unfold may at h h2
        unfold word
        simp
        omega
      have hl : t < t2 → word t i m < word t2 i2 m2 := by
        unfold may at h h2
        unfold word
        omega
      generalize decide ([t, i, m] = [t2, i2, m2]) = D at *
      generalize word t i m = A at *
      generalize word t2 i2 m2 = B at *
      clear h h2
      by_cases ht : t < t2
      · have hl' := hl ht
        clear hl
        go_enter Proofs.Try.func6, Proofs.Try.ntmps6
        go_wp2_with fail
        refine (shown1_ _).calls.mono ?_
        rintro e w0 ⟨_, rfl, hb0, rfl⟩
        obtain ⟨q0, f0⟩ := bcell hb0
        have z0 : w.heap.size + 1 < w0.heap.size := by have := hb0.size; simp at this; omega
        have z0' : w.heap.size < w0.heap.size := by omega
        go_wp2_with fail
        refine (of_ _ _ _ _).calls.mono ?_
        rintro e w1 ⟨_, rfl, hb1, rfl⟩
        rw [hv]
        obtain ⟨q1, f1⟩ := bcell hb1
        have z1 : w.heap.size + 1 < w1.heap.size := by have := hb1.size; omega
        have z1' : w.heap.size < w1.heap.size := by omega
        go_wp2_with fail
        refine (of_ _ _ _ _).calls.mono ?_
        rintro e w2 ⟨_, rfl, hb2, rfl⟩
        rw [hv2]
        obtain ⟨q2, f2⟩ := bcell hb2
        go_wp2
        go_ret
        exact ⟨_, rfl, by repeat (first | assumption | exact Ext.refl _ | refine Ext.trans ?_ (Ext.alloc _ _) | refine Ext.trans ?_ (by assumption)), rfl⟩

      · clear hl
        go_enter Proofs.Try.func6, Proofs.Try.ntmps6
        go_wp2_with fail
        refine (shown1_ _).calls.mono ?_
        rintro e w0 ⟨_, rfl, hb0, rfl⟩
        obtain ⟨q0, f0⟩ := bcell hb0
        have z0 : w.heap.size + 1 < w0.heap.size := by have := hb0.size; simp at this; omega
        have z0' : w.heap.size < w0.heap.size := by omega
        go_wp2_with fail
        refine (of_ _ _ _ _).calls.mono ?_
        rintro e w1 ⟨_, rfl, hb1, rfl⟩
        rw [hv]
        obtain ⟨q1, f1⟩ := bcell hb1
        have z1 : w.heap.size + 1 < w1.heap.size := by have := hb1.size; omega
        have z1' : w.heap.size < w1.heap.size := by omega
        go_wp2_with fail
        refine (of_ _ _ _ _).calls.mono ?_
        rintro e w2 ⟨_, rfl, hb2, rfl⟩
        rw [hv2]
        obtain ⟨q2, f2⟩ := bcell hb2
        go_wp2
        go_ret
        exact ⟨_, rfl, by repeat (first | assumption | exact Ext.refl _ | refine Ext.trans ?_ (Ext.alloc _ _) | refine Ext.trans ?_ (by assumption)), rfl⟩

    · have hv2 : ofV t2 i2 m2 = .tuple #[.int .i64 0, .int .i64 1] := by unfold ofV; rw [if_neg h2]; rfl
      clear h h2
      go_enter Proofs.Try.func6, Proofs.Try.ntmps6
      go_wp2_with fail
      refine (shown1_ _).calls.mono ?_
      rintro e w0 ⟨_, rfl, hb0, rfl⟩
      obtain ⟨q0, f0⟩ := bcell hb0
      have z0 : w.heap.size + 1 < w0.heap.size := by have := hb0.size; simp at this; omega
      have z0' : w.heap.size < w0.heap.size := by omega
      go_wp2_with fail
      refine (of_ _ _ _ _).calls.mono ?_
      rintro e w1 ⟨_, rfl, hb1, rfl⟩
      rw [hv]
      obtain ⟨q1, f1⟩ := bcell hb1
      have z1 : w.heap.size + 1 < w1.heap.size := by have := hb1.size; omega
      have z1' : w.heap.size < w1.heap.size := by omega
      go_wp2_with fail
      refine (of_ _ _ _ _).calls.mono ?_
      rintro e w2 ⟨_, rfl, hb2, rfl⟩
      rw [hv2]
      obtain ⟨q2, f2⟩ := bcell hb2
      go_wp2
      go_ret
      exact ⟨_, rfl, by repeat (first | assumption | exact Ext.refl _ | refine Ext.trans ?_ (Ext.alloc _ _) | refine Ext.trans ?_ (by assumption)), rfl⟩

  · have hv : ofV t i m = .tuple #[.int .i64 0, .int .i64 1] := by unfold ofV; rw [if_neg h]; rfl
    by_cases h2 : may t2 i2 m2
    · have hv2 : ofV t2 i2 m2 = .tuple #[.int .i64 (word t2 i2 m2), .int .i64 0] := by unfold ofV; rw [if_pos h2]; rfl
      clear h h2
      go_enter Proofs.Try.func6, Proofs.Try.ntmps6
      go_wp2_with fail
      refine (shown1_ _).calls.mono ?_
      rintro e w0 ⟨_, rfl, hb0, rfl⟩
      obtain ⟨q0, f0⟩ := bcell hb0
      have z0 : w.heap.size + 1 < w0.heap.size := by have := hb0.size; simp at this; omega
      have z0' : w.heap.size < w0.heap.size := by omega
      go_wp2_with fail
      refine (of_ _ _ _ _).calls.mono ?_
      rintro e w1 ⟨_, rfl, hb1, rfl⟩
      rw [hv]
      obtain ⟨q1, f1⟩ := bcell hb1
      have z1 : w.heap.size + 1 < w1.heap.size := by have := hb1.size; omega
      have z1' : w.heap.size < w1.heap.size := by omega
      go_wp2_with fail
      refine (of_ _ _ _ _).calls.mono ?_
      rintro e w2 ⟨_, rfl, hb2, rfl⟩
      rw [hv2]
      obtain ⟨q2, f2⟩ := bcell hb2
      go_wp2
      go_ret
      exact ⟨_, rfl, by repeat (first | assumption | exact Ext.refl _ | refine Ext.trans ?_ (Ext.alloc _ _) | refine Ext.trans ?_ (by assumption)), rfl⟩

    · have hv2 : ofV t2 i2 m2 = .tuple #[.int .i64 0, .int .i64 1] := by unfold ofV; rw [if_neg h2]; rfl
      clear h h2
      go_enter Proofs.Try.func6, Proofs.Try.ntmps6
      go_wp2_with fail
      refine (shown1_ _).calls.mono ?_
      rintro e w0 ⟨_, rfl, hb0, rfl⟩
      obtain ⟨q0, f0⟩ := bcell hb0
      have z0 : w.heap.size + 1 < w0.heap.size := by have := hb0.size; simp at this; omega
      have z0' : w.heap.size < w0.heap.size := by omega
      go_wp2_with fail
      refine (of_ _ _ _ _).calls.mono ?_
      rintro e w1 ⟨_, rfl, hb1, rfl⟩
      rw [hv]
      obtain ⟨q1, f1⟩ := bcell hb1
      have z1 : w.heap.size + 1 < w1.heap.size := by have := hb1.size; omega
      have z1' : w.heap.size < w1.heap.size := by omega
      go_wp2_with fail
      refine (of_ _ _ _ _).calls.mono ?_
      rintro e w2 ⟨_, rfl, hb2, rfl⟩
      rw [hv2]
      obtain ⟨q2, f2⟩ := bcell hb2
      go_wp2
      go_ret
      exact ⟨_, rfl, by repeat (first | assumption | exact Ext.refl _ | refine Ext.trans ?_ (Ext.alloc _ _) | refine Ext.trans ?_ (by assumption)), rfl⟩


end Go.Proofs.Ytcfbdfgondmkoaa
