/- Layer pack: what wide, from, cut, joined come to. -/
import Derived.Test.YtcfbdfgondmkoaaOps2
import Derived.Test.YtcfbdfgondmkoaaProg
import Derived.LoopN
import Derived.Test.YtcfbdfgondmkoaaNum
namespace Go.Proofs.Ytcfbdfgondmkoaa
open Go Go.RowKit

/-- The call of function f with these arguments hands back c, and makes memory at most. -/
def Hands (f : FuncId) (args : Array Value) (c : Value) : Prop := ∀ w, Gives Proofs.Try.prog f args w (eqv c)

theorem cell_ext {w w1 : World} {a : Addr} {v : Value} (hc : w.cell? a = some v) (h : Ext w w1) : w1.cell? a = some v := (h.cell (World.block_lt_of_cell? w a hc)).trans hc

theorem wide_ : Hands 156 #[] (.agg #[.int .i64 1, .int .i64 20, .int .i64 40]) := by
  intro w
  go_enter Proofs.Try.func156, Proofs.Try.ntmps156
  go_wp2
  exact bodyPost_ret (v := .agg #[.int .i64 1, .int .i64 20, .int .i64 40]) (by simp [results, Proofs.Try.results156, go_sem]) rfl ⟨_, rfl, Ext.alloc _ _, rfl⟩

theorem from0_ : Hands 117 #[.int .i64 0] (.int .i64 0) := by
  intro w
  go_enter Proofs.Try.func117, Proofs.Try.ntmps117
  go_wp2_with (go_at_call 156; refine (wide_ _).calls.mono ?_; rintro e w' ⟨_, rfl, hb, rfl⟩)
  refine wp_loop_rounds 1 ?_; rw [rounds_succ]; go_wp2
  go_ret
  exact ⟨_, rfl, Ext.trans hb (Ext.alloc _ _), rfl⟩
theorem from1_ : Hands 117 #[.int .i64 1] (.int .i64 1) := by
  intro w
  go_enter Proofs.Try.func117, Proofs.Try.ntmps117
  go_wp2_with (go_at_call 156; refine (wide_ _).calls.mono ?_; rintro e w' ⟨_, rfl, hb, rfl⟩)
  refine wp_loop_rounds 2 ?_; rw [rounds_succ]; go_wp2; rw [rounds_succ]; go_wp2
  go_ret
  exact ⟨_, rfl, Ext.trans hb (Ext.alloc _ _), rfl⟩
theorem from2_ : Hands 117 #[.int .i64 2] (.int .i64 21) := by
  intro w
  go_enter Proofs.Try.func117, Proofs.Try.ntmps117
  go_wp2_with (go_at_call 156; refine (wide_ _).calls.mono ?_; rintro e w' ⟨_, rfl, hb, rfl⟩)
  refine wp_loop_rounds 3 ?_; rw [rounds_succ]; go_wp2; rw [rounds_succ]; go_wp2; rw [rounds_succ]; go_wp2
  go_ret
  exact ⟨_, rfl, Ext.trans hb (Ext.alloc _ _), rfl⟩
theorem from3_ : Hands 117 #[.int .i64 3] (.int .i64 61) := by
  intro w
  go_enter Proofs.Try.func117, Proofs.Try.ntmps117
  go_wp2_with (go_at_call 156; refine (wide_ _).calls.mono ?_; rintro e w' ⟨_, rfl, hb, rfl⟩)
  refine wp_loop_rounds 4 ?_; rw [rounds_succ]; go_wp2; rw [rounds_succ]; go_wp2; rw [rounds_succ]; go_wp2; rw [rounds_succ]; go_wp2
  go_ret
  exact ⟨_, rfl, Ext.trans hb (Ext.alloc _ _), rfl⟩

set_option maxRecDepth 100000 in
set_option maxRecDepth 100000 in
set_option maxRecDepth 100000 in
theorem cut0_ (x : Int) : Hands 118 #[.int .i64 x, .int .i64 0] (.int .i64 (bits .and .i64 (x / 2 ^ 0) 1)) := by
  intro w
  go_enter Proofs.Try.func118, Proofs.Try.ntmps118
  go_wp2_with fail
  apply region_lit (T := []) (L := []) (X := []) (G := [eqv _, eqv _, eqv _, eqv _, eqv _, eqv _, eqv _, eqv _, eqv _, eqv _, eqv _])
  case hm => kernel_rfl
  case hop =>
    refine ⟨?_, ?_, ?_, ?_, ?_, ?_, ?_, ?_, ?_, ?_, ?_, trivial⟩
    · intro a w hs hf hd
      have t0 := hf.off 0 (by kernel_rfl) rfl
      exact plain_ rfl (yes_eqv (o_move rfl t0) rfl)
    · intro a w hs hf hd
      have t1 := hf.off 1 (by kernel_rfl) rfl
      exact plain_ rfl (yes_eqv (o_move rfl t1) rfl)
    · intro a w hs hf hd
      have t6 : a.eval (.tmp 6) = _ := hd.at 1 6 (by kernel_rfl)
      exact plain_ rfl (yes_gives (from0_ _) rfl rfl Proofs.Try.func117 (by kernel_rfl) (by kernel_rfl) (by simp only [List.map_toArray, List.map_cons, List.map_nil, t6]) rfl)
    · intro a w hs hf hd
      have t5 : a.eval (.tmp 5) = _ := hd.at 0 5 (by kernel_rfl)
      have t7 : a.eval (.tmp 7) = _ := hd.at 2 7 (by kernel_rfl)
      exact plain_ rfl (yes_eqv (o_shr rfl t5 t7 (by decide) (by decide) rfl) rfl)
    · intro a w hs hf hd
      exact plain_ rfl (yes_gives (wide_ _) rfl rfl Proofs.Try.func156 (by kernel_rfl) (by kernel_rfl) (by simp) rfl)
    · intro a w hs hf hd
      have t1 := hf.off 1 (by kernel_rfl) rfl
      exact plain_ rfl (yes_eqv (o_move rfl t1) rfl)
    · intro a w hs hf hd
      have t9 : a.eval (.tmp 9) = _ := hd.at 4 9 (by kernel_rfl)
      have t10 : a.eval (.tmp 10) = _ := hd.at 5 10 (by kernel_rfl)
      exact plain_ rfl (yes_eqv (o_index1 rfl Proofs.Try.underlying41 (by kernel_rfl) Proofs.Try.underlying3 rfl t9 t10 (by decide) (by decide) rfl) rfl)
    · intro a w hs hf hd
      have t11 : a.eval (.tmp 11) = _ := hd.at 6 11 (by kernel_rfl)
      exact plain_ rfl (yes_eqv (o_shl rfl rfl t11 (by decide) (by decide) rfl) rfl)
    · intro a w hs hf hd
      have t12 : a.eval (.tmp 12) = _ := hd.at 7 12 (by kernel_rfl)
      exact plain_ rfl (yes_eqv (o_sub rfl t12 rfl rfl) rfl)
    · intro a w hs hf hd
      have t8 : a.eval (.tmp 8) = _ := hd.at 3 8 (by kernel_rfl)
      have t13 : a.eval (.tmp 13) = _ := hd.at 8 13 (by kernel_rfl)
      exact plain_ rfl (yes_eqv (o_and rfl t8 t13 rfl) rfl)
    · intro a w hs hf hd
      have t14 : a.eval (.tmp 14) = _ := hd.at 9 14 (by kernel_rfl)
      exact plain_ rfl (yes_eqv (o_assign rfl t14) rfl)
  case hG => exact ⟨stable_eqv _, stable_eqv _, stable_eqv _, stable_eqv _, stable_eqv _, stable_eqv _, stable_eqv _, stable_eqv _, stable_eqv _, stable_eqv _, stable_eqv _, trivial⟩
  case hc => kernel_rfl
  case hfin =>
    intro w1 hs
    rintro _ rfl _ rfl _ rfl _ rfl _ rfl _ rfl _ rfl _ rfl _ rfl _ rfl _ rfl
    rintro _ rfl
    simp only [Act.put, List.setIfInBounds_toArray, List.set_cons_zero, List.set_cons_succ]
    go_wp2
    go_ret
    exact ⟨_, rfl, hs.to_ext, rfl⟩

set_option maxRecDepth 100000 in
theorem cut1_ (x : Int) : Hands 118 #[.int .i64 x, .int .i64 1] (.int .i64 (bits .and .i64 (x / 2 ^ 1) 1048575)) := by
  intro w
  go_enter Proofs.Try.func118, Proofs.Try.ntmps118
  go_wp2_with fail
  apply region_lit (T := []) (L := []) (X := []) (G := [eqv _, eqv _, eqv _, eqv _, eqv _, eqv _, eqv _, eqv _, eqv _, eqv _, eqv _])
  case hm => kernel_rfl
  case hop =>
    refine ⟨?_, ?_, ?_, ?_, ?_, ?_, ?_, ?_, ?_, ?_, ?_, trivial⟩
    · intro a w hs hf hd
      have t0 := hf.off 0 (by kernel_rfl) rfl
      exact plain_ rfl (yes_eqv (o_move rfl t0) rfl)
    · intro a w hs hf hd
      have t1 := hf.off 1 (by kernel_rfl) rfl
      exact plain_ rfl (yes_eqv (o_move rfl t1) rfl)
    · intro a w hs hf hd
      have t6 : a.eval (.tmp 6) = _ := hd.at 1 6 (by kernel_rfl)
      exact plain_ rfl (yes_gives (from1_ _) rfl rfl Proofs.Try.func117 (by kernel_rfl) (by kernel_rfl) (by simp only [List.map_toArray, List.map_cons, List.map_nil, t6]) rfl)
    · intro a w hs hf hd
      have t5 : a.eval (.tmp 5) = _ := hd.at 0 5 (by kernel_rfl)
      have t7 : a.eval (.tmp 7) = _ := hd.at 2 7 (by kernel_rfl)
      exact plain_ rfl (yes_eqv (o_shr rfl t5 t7 (by decide) (by decide) rfl) rfl)
    · intro a w hs hf hd
      exact plain_ rfl (yes_gives (wide_ _) rfl rfl Proofs.Try.func156 (by kernel_rfl) (by kernel_rfl) (by simp) rfl)
    · intro a w hs hf hd
      have t1 := hf.off 1 (by kernel_rfl) rfl
      exact plain_ rfl (yes_eqv (o_move rfl t1) rfl)
    · intro a w hs hf hd
      have t9 : a.eval (.tmp 9) = _ := hd.at 4 9 (by kernel_rfl)
      have t10 : a.eval (.tmp 10) = _ := hd.at 5 10 (by kernel_rfl)
      exact plain_ rfl (yes_eqv (o_index1 rfl Proofs.Try.underlying41 (by kernel_rfl) Proofs.Try.underlying3 rfl t9 t10 (by decide) (by decide) rfl) rfl)
    · intro a w hs hf hd
      have t11 : a.eval (.tmp 11) = _ := hd.at 6 11 (by kernel_rfl)
      exact plain_ rfl (yes_eqv (o_shl rfl rfl t11 (by decide) (by decide) rfl) rfl)
    · intro a w hs hf hd
      have t12 : a.eval (.tmp 12) = _ := hd.at 7 12 (by kernel_rfl)
      exact plain_ rfl (yes_eqv (o_sub rfl t12 rfl rfl) rfl)
    · intro a w hs hf hd
      have t8 : a.eval (.tmp 8) = _ := hd.at 3 8 (by kernel_rfl)
      have t13 : a.eval (.tmp 13) = _ := hd.at 8 13 (by kernel_rfl)
      exact plain_ rfl (yes_eqv (o_and rfl t8 t13 rfl) rfl)
    · intro a w hs hf hd
      have t14 : a.eval (.tmp 14) = _ := hd.at 9 14 (by kernel_rfl)
      exact plain_ rfl (yes_eqv (o_assign rfl t14) rfl)
  case hG => exact ⟨stable_eqv _, stable_eqv _, stable_eqv _, stable_eqv _, stable_eqv _, stable_eqv _, stable_eqv _, stable_eqv _, stable_eqv _, stable_eqv _, stable_eqv _, trivial⟩
  case hc => kernel_rfl
  case hfin =>
    intro w1 hs
    rintro _ rfl _ rfl _ rfl _ rfl _ rfl _ rfl _ rfl _ rfl _ rfl _ rfl _ rfl
    rintro _ rfl
    simp only [Act.put, List.setIfInBounds_toArray, List.set_cons_zero, List.set_cons_succ]
    go_wp2
    go_ret
    exact ⟨_, rfl, hs.to_ext, rfl⟩

set_option maxRecDepth 100000 in
theorem cut2_ (x : Int) : Hands 118 #[.int .i64 x, .int .i64 2] (.int .i64 (bits .and .i64 (x / 2 ^ 21) 1099511627775)) := by
  intro w
  go_enter Proofs.Try.func118, Proofs.Try.ntmps118
  go_wp2_with fail
  apply region_lit (T := []) (L := []) (X := []) (G := [eqv _, eqv _, eqv _, eqv _, eqv _, eqv _, eqv _, eqv _, eqv _, eqv _, eqv _])
  case hm => kernel_rfl
  case hop =>
    refine ⟨?_, ?_, ?_, ?_, ?_, ?_, ?_, ?_, ?_, ?_, ?_, trivial⟩
    · intro a w hs hf hd
      have t0 := hf.off 0 (by kernel_rfl) rfl
      exact plain_ rfl (yes_eqv (o_move rfl t0) rfl)
    · intro a w hs hf hd
      have t1 := hf.off 1 (by kernel_rfl) rfl
      exact plain_ rfl (yes_eqv (o_move rfl t1) rfl)
    · intro a w hs hf hd
      have t6 : a.eval (.tmp 6) = _ := hd.at 1 6 (by kernel_rfl)
      exact plain_ rfl (yes_gives (from2_ _) rfl rfl Proofs.Try.func117 (by kernel_rfl) (by kernel_rfl) (by simp only [List.map_toArray, List.map_cons, List.map_nil, t6]) rfl)
    · intro a w hs hf hd
      have t5 : a.eval (.tmp 5) = _ := hd.at 0 5 (by kernel_rfl)
      have t7 : a.eval (.tmp 7) = _ := hd.at 2 7 (by kernel_rfl)
      exact plain_ rfl (yes_eqv (o_shr rfl t5 t7 (by decide) (by decide) rfl) rfl)
    · intro a w hs hf hd
      exact plain_ rfl (yes_gives (wide_ _) rfl rfl Proofs.Try.func156 (by kernel_rfl) (by kernel_rfl) (by simp) rfl)
    · intro a w hs hf hd
      have t1 := hf.off 1 (by kernel_rfl) rfl
      exact plain_ rfl (yes_eqv (o_move rfl t1) rfl)
    · intro a w hs hf hd
      have t9 : a.eval (.tmp 9) = _ := hd.at 4 9 (by kernel_rfl)
      have t10 : a.eval (.tmp 10) = _ := hd.at 5 10 (by kernel_rfl)
      exact plain_ rfl (yes_eqv (o_index1 rfl Proofs.Try.underlying41 (by kernel_rfl) Proofs.Try.underlying3 rfl t9 t10 (by decide) (by decide) rfl) rfl)
    · intro a w hs hf hd
      have t11 : a.eval (.tmp 11) = _ := hd.at 6 11 (by kernel_rfl)
      exact plain_ rfl (yes_eqv (o_shl rfl rfl t11 (by decide) (by decide) rfl) rfl)
    · intro a w hs hf hd
      have t12 : a.eval (.tmp 12) = _ := hd.at 7 12 (by kernel_rfl)
      exact plain_ rfl (yes_eqv (o_sub rfl t12 rfl rfl) rfl)
    · intro a w hs hf hd
      have t8 : a.eval (.tmp 8) = _ := hd.at 3 8 (by kernel_rfl)
      have t13 : a.eval (.tmp 13) = _ := hd.at 8 13 (by kernel_rfl)
      exact plain_ rfl (yes_eqv (o_and rfl t8 t13 rfl) rfl)
    · intro a w hs hf hd
      have t14 : a.eval (.tmp 14) = _ := hd.at 9 14 (by kernel_rfl)
      exact plain_ rfl (yes_eqv (o_assign rfl t14) rfl)
  case hG => exact ⟨stable_eqv _, stable_eqv _, stable_eqv _, stable_eqv _, stable_eqv _, stable_eqv _, stable_eqv _, stable_eqv _, stable_eqv _, stable_eqv _, stable_eqv _, trivial⟩
  case hc => kernel_rfl
  case hfin =>
    intro w1 hs
    rintro _ rfl _ rfl _ rfl _ rfl _ rfl _ rfl _ rfl _ rfl _ rfl _ rfl _ rfl
    rintro _ rfl
    simp only [Act.put, List.setIfInBounds_toArray, List.set_cons_zero, List.set_cons_succ]
    go_wp2
    go_ret
    exact ⟨_, rfl, hs.to_ext, rfl⟩


set_option maxRecDepth 100000 in
theorem joined_ (m i t : Int) (b off c : Nat) (w : World) (h0 : w.cell? ⟨b, off, none⟩ = some (.int .i64 m)) (h1 : w.cell? ⟨b, off + 1, none⟩ = some (.int .i64 i)) (h2 : w.cell? ⟨b, off + 2, none⟩ = some (.int .i64 t)) :
    Gives Proofs.Try.prog 116 #[.slice (some ⟨b, off, none⟩) 3 c] w (eqv (.int .i64 (word t i m))) := by
  go_enter Proofs.Try.func116, Proofs.Try.ntmps116
  go_wp2
  refine wp_loop_rounds 4 ?_; rw [rounds_succ]; go_wp2
  apply region_lit (T := []) (L := []) (X := []) (G := [eqv _, eqv _, eqv _, eqv _, eqv _, eqv _, eqv _, eqv _, eqv _, eqv _, eqv _, eqv _, eqv _])
  case hm => kernel_rfl
  case hop =>
    refine ⟨?_, ?_, ?_, ?_, ?_, ?_, ?_, ?_, ?_, ?_, ?_, ?_, ?_, trivial⟩
    · intro a w hs hf hd
      have t3 := hf.off 3 (by kernel_rfl) rfl
      exact plain_ rfl (yes_eqv (o_move rfl t3) rfl)
    · intro a w hs hf hd
      have t5 := hf.off 5 (by kernel_rfl) rfl
      exact plain_ rfl (yes_eqv (o_move rfl t5) rfl)
    · intro a w hs hf hd
      exact plain_ rfl (yes_gives (wide_ _) rfl rfl Proofs.Try.func156 (by kernel_rfl) (by kernel_rfl) (by simp) rfl)
    · intro a w hs hf hd
      have t4 := hf.off 4 (by kernel_rfl) rfl
      exact plain_ rfl (yes_eqv (o_move rfl t4) rfl)
    · intro a w hs hf hd
      have t15 : a.eval (.tmp 15) = _ := hd.at 2 15 (by kernel_rfl)
      have t16 : a.eval (.tmp 16) = _ := hd.at 3 16 (by kernel_rfl)
      exact plain_ rfl (yes_eqv (o_index1 rfl Proofs.Try.underlying41 (by kernel_rfl) Proofs.Try.underlying3 rfl t15 t16 (by decide) (by decide) rfl) rfl)
    · intro a w hs hf hd
      have t17 : a.eval (.tmp 17) = _ := hd.at 4 17 (by kernel_rfl)
      exact plain_ rfl (yes_eqv (o_shl rfl rfl t17 (by decide) (by decide) rfl) rfl)
    · intro a w hs hf hd
      have t18 : a.eval (.tmp 18) = _ := hd.at 5 18 (by kernel_rfl)
      exact plain_ rfl (yes_eqv (o_sub rfl t18 rfl rfl) rfl)
    · intro a w hs hf hd
      have t14 : a.eval (.tmp 14) = _ := hd.at 1 14 (by kernel_rfl)
      have t19 : a.eval (.tmp 19) = _ := hd.at 6 19 (by kernel_rfl)
      exact plain_ rfl (yes_eqv (o_and rfl t14 t19 rfl) rfl)
    · intro a w hs hf hd
      have t4 := hf.off 4 (by kernel_rfl) rfl
      exact plain_ rfl (yes_eqv (o_move rfl t4) rfl)
    · intro a w hs hf hd
      have t21 : a.eval (.tmp 21) = _ := hd.at 8 21 (by kernel_rfl)
      exact plain_ rfl (yes_gives (from0_ _) rfl rfl Proofs.Try.func117 (by kernel_rfl) (by kernel_rfl) (by simp only [List.map_toArray, List.map_cons, List.map_nil, t21]) rfl)
    · intro a w hs hf hd
      have t20 : a.eval (.tmp 20) = _ := hd.at 7 20 (by kernel_rfl)
      have t22 : a.eval (.tmp 22) = _ := hd.at 9 22 (by kernel_rfl)
      exact plain_ rfl (yes_eqv (o_shl rfl t20 t22 (by decide) (by decide) rfl) rfl)
    · intro a w hs hf hd
      have t13 : a.eval (.tmp 13) = _ := hd.at 0 13 (by kernel_rfl)
      have t23 : a.eval (.tmp 23) = _ := hd.at 10 23 (by kernel_rfl)
      exact plain_ rfl (yes_eqv (o_or rfl t13 t23 rfl) rfl)
    · intro a w hs hf hd
      have t24 : a.eval (.tmp 24) = _ := hd.at 11 24 (by kernel_rfl)
      exact plain_ rfl (yes_eqv (o_assign rfl t24) rfl)
  case hG => exact ⟨stable_eqv _, stable_eqv _, stable_eqv _, stable_eqv _, stable_eqv _, stable_eqv _, stable_eqv _, stable_eqv _, stable_eqv _, stable_eqv _, stable_eqv _, stable_eqv _, stable_eqv _, trivial⟩
  case hc => kernel_rfl
  case hfin =>
    intro w1 hs0
    rintro _ rfl _ rfl _ rfl _ rfl _ rfl _ rfl _ rfl _ rfl _ rfl _ rfl _ rfl _ rfl _ rfl
    rintro _ rfl
    simp only [Act.put, List.setIfInBounds_toArray, List.set_cons_zero, List.set_cons_succ]
    have hx0 := hs0.to_ext
    have h1' := cell_ext h1 hx0
    have h2' := cell_ext h2 hx0
    go_wp2; rw [rounds_succ]; go_wp2
    apply region_lit (T := []) (L := []) (X := []) (G := [eqv _, eqv _, eqv _, eqv _, eqv _, eqv _, eqv _, eqv _, eqv _, eqv _, eqv _, eqv _, eqv _])
    case hm => kernel_rfl
    case hop =>
      refine ⟨?_, ?_, ?_, ?_, ?_, ?_, ?_, ?_, ?_, ?_, ?_, ?_, ?_, trivial⟩
      · intro a w hs hf hd
        have t3 := hf.off 3 (by kernel_rfl) rfl
        exact plain_ rfl (yes_eqv (o_move rfl t3) rfl)
      · intro a w hs hf hd
        have t5 := hf.off 5 (by kernel_rfl) rfl
        exact plain_ rfl (yes_eqv (o_move rfl t5) rfl)
      · intro a w hs hf hd
        exact plain_ rfl (yes_gives (wide_ _) rfl rfl Proofs.Try.func156 (by kernel_rfl) (by kernel_rfl) (by simp) rfl)
      · intro a w hs hf hd
        have t4 := hf.off 4 (by kernel_rfl) rfl
        exact plain_ rfl (yes_eqv (o_move rfl t4) rfl)
      · intro a w hs hf hd
        have t15 : a.eval (.tmp 15) = _ := hd.at 2 15 (by kernel_rfl)
        have t16 : a.eval (.tmp 16) = _ := hd.at 3 16 (by kernel_rfl)
        exact plain_ rfl (yes_eqv (o_index1 rfl Proofs.Try.underlying41 (by kernel_rfl) Proofs.Try.underlying3 rfl t15 t16 (by decide) (by decide) rfl) rfl)
      · intro a w hs hf hd
        have t17 : a.eval (.tmp 17) = _ := hd.at 4 17 (by kernel_rfl)
        exact plain_ rfl (yes_eqv (o_shl rfl rfl t17 (by decide) (by decide) rfl) rfl)
      · intro a w hs hf hd
        have t18 : a.eval (.tmp 18) = _ := hd.at 5 18 (by kernel_rfl)
        exact plain_ rfl (yes_eqv (o_sub rfl t18 rfl rfl) rfl)
      · intro a w hs hf hd
        have t14 : a.eval (.tmp 14) = _ := hd.at 1 14 (by kernel_rfl)
        have t19 : a.eval (.tmp 19) = _ := hd.at 6 19 (by kernel_rfl)
        exact plain_ rfl (yes_eqv (o_and rfl t14 t19 rfl) rfl)
      · intro a w hs hf hd
        have t4 := hf.off 4 (by kernel_rfl) rfl
        exact plain_ rfl (yes_eqv (o_move rfl t4) rfl)
      · intro a w hs hf hd
        have t21 : a.eval (.tmp 21) = _ := hd.at 8 21 (by kernel_rfl)
        exact plain_ rfl (yes_gives (from1_ _) rfl rfl Proofs.Try.func117 (by kernel_rfl) (by kernel_rfl) (by simp only [List.map_toArray, List.map_cons, List.map_nil, t21]) rfl)
      · intro a w hs hf hd
        have t20 : a.eval (.tmp 20) = _ := hd.at 7 20 (by kernel_rfl)
        have t22 : a.eval (.tmp 22) = _ := hd.at 9 22 (by kernel_rfl)
        exact plain_ rfl (yes_eqv (o_shl rfl t20 t22 (by decide) (by decide) rfl) rfl)
      · intro a w hs hf hd
        have t13 : a.eval (.tmp 13) = _ := hd.at 0 13 (by kernel_rfl)
        have t23 : a.eval (.tmp 23) = _ := hd.at 10 23 (by kernel_rfl)
        exact plain_ rfl (yes_eqv (o_or rfl t13 t23 rfl) rfl)
      · intro a w hs hf hd
        have t24 : a.eval (.tmp 24) = _ := hd.at 11 24 (by kernel_rfl)
        exact plain_ rfl (yes_eqv (o_assign rfl t24) rfl)
    case hG => exact ⟨stable_eqv _, stable_eqv _, stable_eqv _, stable_eqv _, stable_eqv _, stable_eqv _, stable_eqv _, stable_eqv _, stable_eqv _, stable_eqv _, stable_eqv _, stable_eqv _, stable_eqv _, trivial⟩
    case hc => kernel_rfl
    case hfin =>
      intro w2 hs1
      rintro _ rfl _ rfl _ rfl _ rfl _ rfl _ rfl _ rfl _ rfl _ rfl _ rfl _ rfl _ rfl _ rfl
      rintro _ rfl
      simp only [Act.put, List.setIfInBounds_toArray, List.set_cons_zero, List.set_cons_succ]
      have hx1 := hs1.to_ext
      have h2'' := cell_ext h2' hx1
      go_wp2; rw [rounds_succ]; go_wp2
      apply region_lit (T := []) (L := []) (X := []) (G := [eqv _, eqv _, eqv _, eqv _, eqv _, eqv _, eqv _, eqv _, eqv _, eqv _, eqv _, eqv _, eqv _])
      case hm => kernel_rfl
      case hop =>
        refine ⟨?_, ?_, ?_, ?_, ?_, ?_, ?_, ?_, ?_, ?_, ?_, ?_, ?_, trivial⟩
        · intro a w hs hf hd
          have t3 := hf.off 3 (by kernel_rfl) rfl
          exact plain_ rfl (yes_eqv (o_move rfl t3) rfl)
        · intro a w hs hf hd
          have t5 := hf.off 5 (by kernel_rfl) rfl
          exact plain_ rfl (yes_eqv (o_move rfl t5) rfl)
        · intro a w hs hf hd
          exact plain_ rfl (yes_gives (wide_ _) rfl rfl Proofs.Try.func156 (by kernel_rfl) (by kernel_rfl) (by simp) rfl)
        · intro a w hs hf hd
          have t4 := hf.off 4 (by kernel_rfl) rfl
          exact plain_ rfl (yes_eqv (o_move rfl t4) rfl)
        · intro a w hs hf hd
          have t15 : a.eval (.tmp 15) = _ := hd.at 2 15 (by kernel_rfl)
          have t16 : a.eval (.tmp 16) = _ := hd.at 3 16 (by kernel_rfl)
          exact plain_ rfl (yes_eqv (o_index1 rfl Proofs.Try.underlying41 (by kernel_rfl) Proofs.Try.underlying3 rfl t15 t16 (by decide) (by decide) rfl) rfl)
        · intro a w hs hf hd
          have t17 : a.eval (.tmp 17) = _ := hd.at 4 17 (by kernel_rfl)
          exact plain_ rfl (yes_eqv (o_shl rfl rfl t17 (by decide) (by decide) rfl) rfl)
        · intro a w hs hf hd
          have t18 : a.eval (.tmp 18) = _ := hd.at 5 18 (by kernel_rfl)
          exact plain_ rfl (yes_eqv (o_sub rfl t18 rfl rfl) rfl)
        · intro a w hs hf hd
          have t14 : a.eval (.tmp 14) = _ := hd.at 1 14 (by kernel_rfl)
          have t19 : a.eval (.tmp 19) = _ := hd.at 6 19 (by kernel_rfl)
          exact plain_ rfl (yes_eqv (o_and rfl t14 t19 rfl) rfl)
        · intro a w hs hf hd
          have t4 := hf.off 4 (by kernel_rfl) rfl
          exact plain_ rfl (yes_eqv (o_move rfl t4) rfl)
        · intro a w hs hf hd
          have t21 : a.eval (.tmp 21) = _ := hd.at 8 21 (by kernel_rfl)
          exact plain_ rfl (yes_gives (from2_ _) rfl rfl Proofs.Try.func117 (by kernel_rfl) (by kernel_rfl) (by simp only [List.map_toArray, List.map_cons, List.map_nil, t21]) rfl)
        · intro a w hs hf hd
          have t20 : a.eval (.tmp 20) = _ := hd.at 7 20 (by kernel_rfl)
          have t22 : a.eval (.tmp 22) = _ := hd.at 9 22 (by kernel_rfl)
          exact plain_ rfl (yes_eqv (o_shl rfl t20 t22 (by decide) (by decide) rfl) rfl)
        · intro a w hs hf hd
          have t13 : a.eval (.tmp 13) = _ := hd.at 0 13 (by kernel_rfl)
          have t23 : a.eval (.tmp 23) = _ := hd.at 10 23 (by kernel_rfl)
          exact plain_ rfl (yes_eqv (o_or rfl t13 t23 rfl) rfl)
        · intro a w hs hf hd
          have t24 : a.eval (.tmp 24) = _ := hd.at 11 24 (by kernel_rfl)
          exact plain_ rfl (yes_eqv (o_assign rfl t24) rfl)
      case hG => exact ⟨stable_eqv _, stable_eqv _, stable_eqv _, stable_eqv _, stable_eqv _, stable_eqv _, stable_eqv _, stable_eqv _, stable_eqv _, stable_eqv _, stable_eqv _, stable_eqv _, stable_eqv _, trivial⟩
      case hc => kernel_rfl
      case hfin =>
        intro w3 hs2
        rintro _ rfl _ rfl _ rfl _ rfl _ rfl _ rfl _ rfl _ rfl _ rfl _ rfl _ rfl _ rfl _ rfl
        rintro _ rfl
        simp only [Act.put, List.setIfInBounds_toArray, List.set_cons_zero, List.set_cons_succ]
        have hx2 := hs2.to_ext
        go_wp2; rw [rounds_succ]; go_wp2
        go_ret
        exact ⟨_, rfl, (hx0.trans hx1).trans hx2, congrArg (Value.int .i64) (join_eq m i t)⟩

end Go.Proofs.Ytcfbdfgondmkoaa
