/- Texts of this work, put together: NmC. -/
import Derived.Test.YtcfbdfgondmkoaaM10
/- Which nodes are named, by the document; rows of flags compared. -/
namespace Go.Proofs.Ytcfbdfgondmkoaa
open Go Go.RowKit
set_option linter.unusedSimpArgs false
set_option linter.unusedVariables false
set_option linter.unnecessarySimpa false

theorem take_next (W : List Int) {j : Nat} (h : 8 + j < W.length) : (W.drop 8).take (j + 1) = (W.drop 8).take j ++ [gi W (8 + j)] := by
  rw [List.take_succ_eq_append_getElem (by simp; omega)]
  simp [gi, h]
set_option maxRecDepth 100000 in
set_option maxHeartbeats 4000000 in
theorem refNamed_ (v : Value) (s : SysD) (w : World) (h : IsSys no w v s) (hG : s.M.G.length ≤ 100000) (hlen : 8 + 3 * s.C.length ≤ s.M.W.length) (hc8 : s.C.length ≤ 9) :
    Gives Proofs.Try.prog 100 #[v] w (fun r w' => ∃ b, r = .slice (some ⟨b, 0, none⟩) s.M.G.length s.M.G.length ∧ Box w' b (flA s.M.G.length ((s.M.W.drop 8).take (3 * s.C.length))) 4) := by
  obtain ⟨aw, cw, ag, cg, ac, cc, al, cl, rfl, hw, hg, hc, hl⟩ := h.opened
  obtain ⟨bw, ow, rfl, hbw, _, hx⟩ := hw.row (by omega)
  have HX := Lib.hid hx
  clear hx
  go_enter Proofs.Try.func100, Proofs.Try.ntmps100
  go_wp2
  go_loopw [4] (fun iv wr => ∃ j : Nat, iv = .int .i64 (j : Int) ∧ j ≤ 3 * s.C.length ∧ Box wr (w.heap.size + 1) (flA s.M.G.length ((s.M.W.drop 8).take j)) 4 ∧ Box wr w.heap.size #[.slice (some ⟨bw, ow, none⟩) s.M.W.length cw, .slice ag s.M.G.length cg, .bool s.M.bad, .slice ac s.C.length cc, .slice al s.L.length cl] 83 ∧ Ext w wr) (fun iv _ => 3 * s.C.length - (intOf iv).toNat)
  case atStart => exact ⟨0, rfl, by omega, Box.newAt _ _ _ (by simp), (Box.newAt _ _ _ rfl).alloc _, exq⟩
  case round =>
    obtain ⟨j, rfl, hj, hB1, hB0, hX⟩ := hrel
    obtain ⟨w9, rfl⟩ : ∃ w9 : World, w9 = wr := ⟨_, rfl⟩
    obtain ⟨c0, c1, c2, c3, c4, d0, d1, d2, d3, d4⟩ := cells5 hB0
    have z0 : w.heap.size < w9.heap.size := hB0.lt
    have z1 : w.heap.size + 1 < w9.heap.size := hB1.lt
    by_cases hlt : j < 3 * s.C.length
    · have q1 : (j : Int) < 3 * (s.C.length : Int) := by omega
      obtain ⟨P, hP⟩ : ∃ P : Nat, P = 8 + j := ⟨_, rfl⟩
      have eP : 8 + (j : Int) = (P : Int) := by omega
      have q2 : (P : Int) < (s.M.W.length : Int) := by omega
      have e9 := cell_ext (HX.out P (by omega)) hX
      have hT := Lib.hid (take_next s.M.W (j := j) (by omega))
      obtain ⟨z, hz⟩ : ∃ z, gi s.M.W P = z := ⟨_, rfl⟩
      rw [hz] at e9
      rw [hP] at hz
      rw [hz] at hT
      clear hz hP
      by_cases hz0 : 0 < z
      · by_cases hzg : z < (s.M.G.length : Int)
        · obtain ⟨Q, rfl⟩ : ∃ Q : Nat, z = (Q : Int) := ⟨z.toNat, by omega⟩
          have hQ0 : 0 < Q := by omega
          have hQg : Q < s.M.G.length := by omega
          obtain ⟨q, hq⟩ := flA_get ((s.M.W.drop 8).take j) hQg
          have hc1 : w9.cell? ⟨w.heap.size + 1, Q, none⟩ = some (.bool q) := hB1.cell (by rw [nth_eq]; simpa using hq)
          have hf1 : w9.frozen? ⟨w.heap.size + 1, Q, none⟩ = false := hB1.frozen
          go_wp2
          go_roundw
          case rel => exact ⟨j + 1, by simp, by omega, by rw [hT.out, flA_on hQ0 hQg]; exact hB1.setCell _, hB0.setOther (by omega) _, exq⟩
          case measure => simp [intOf]; omega
        · go_wp2
          go_roundw
          case rel => exact ⟨j + 1, by simp, by omega, by rw [hT.out, flA_off (by omega)]; exact hB1, hB0, exq⟩
          case measure => simp [intOf]; omega
      · go_wp2
        go_roundw
        case rel => exact ⟨j + 1, by simp, by omega, by rw [hT.out, flA_off (by omega)]; exact hB1, hB0, exq⟩
        case measure => simp [intOf]; omega
    · have hje : j = 3 * s.C.length := by omega
      have q1 : ¬ (j : Int) < 3 * (s.C.length : Int) := by omega
      go_wp2
      go_ret
      exact ⟨_, rfl, exq, _, rfl, by rw [← hje]; exact hB1⟩
set_option maxRecDepth 100000 in
set_option maxHeartbeats 4000000 in
theorem flags_ (g b1 b2 : Nat) (vals : List Int) (w : World) (hg : g ≤ 100000) (h1 : Box w b1 (flA g vals) 4) (h2 : Box w b2 (flA g vals) 4) :
    Gives Proofs.Try.prog 98 #[.slice (some ⟨b1, 0, none⟩) g g, .slice (some ⟨b2, 0, none⟩) g g] w (eqv (.bool true)) := by
  go_enter Proofs.Try.func98, Proofs.Try.ntmps98
  go_wp2
  go_loopw [5] (fun iv wr => ∃ j : Nat, iv = .int .i64 (j : Int) ∧ j ≤ g ∧ Ext w wr) (fun iv _ => g - (intOf iv).toNat)
  case atStart => exact ⟨0, rfl, by omega, exq⟩
  case round =>
    obtain ⟨j, rfl, hj, hX⟩ := hrel
    obtain ⟨w9, rfl⟩ : ∃ w9 : World, w9 = wr := ⟨_, rfl⟩
    by_cases hlt : j < g
    · have q1 : (j : Int) < (g : Int) := by omega
      obtain ⟨q, hq⟩ := flA_get vals hlt
      have e1 : w9.cell? ⟨b1, j, none⟩ = some (.bool q) := (h1.ext hX).cell (by rw [nth_eq]; simpa using hq)
      have e2 : w9.cell? ⟨b2, j, none⟩ = some (.bool q) := (h2.ext hX).cell (by rw [nth_eq]; simpa using hq)
      have q2 : (q != q) = false := by cases q <;> rfl
      go_wp2
      go_quiet (fail)
      go_wp2
      go_roundw
      case rel => exact ⟨j + 1, by simp, by omega, exq⟩
      case measure => simp [intOf]; omega
    · obtain rfl : j = g := by omega
      have q1 : ¬ (j : Int) < (j : Int) := by omega
      go_wp2
      go_ret
      exact ⟨_, rfl, exq, rfl⟩
end Go.Proofs.Ytcfbdfgondmkoaa
