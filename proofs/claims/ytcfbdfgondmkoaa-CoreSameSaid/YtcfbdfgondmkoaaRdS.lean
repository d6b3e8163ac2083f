/- Systems among a law's arguments. -/
import Derived.Test.YtcfbdfgondmkoaaCoA
import Derived.Test.YtcfbdfgondmkoaaRdM
namespace Go.Proofs.Ytcfbdfgondmkoaa
open Go Go.RowKit Go.WideShapes
set_option linter.unusedSimpArgs false
set_option linter.unusedVariables false
set_option linter.unnecessarySimpa false

theorem add_at (b off n : Nat) : (⟨b, off, none⟩ : Addr).add n = ⟨b, off + n, none⟩ := by unfold Addr.add; split <;> simp_all
section
variable {H : Type} {enc : TypeId × Value → H} {w : World} {cs : List Value}
theorem Rd.sl {α : Type} {sz : Nat} {R : World → α → List Value → Prop} {t e : TypeId} (ht : Proofs.Try.prog.underlying t = some (.slice e)) (hz : Proofs.Try.prog.cellsOf e = sz) (hsz : 0 < sz) (hE : ∀ cs, Rd enc Proofs.Try.prog w e cs → cs.length = sz ∧ ∃ x : α, R w x cs)
    (h : Rd enc Proofs.Try.prog w t cs) : ∃ v l, cs = [v] ∧ IsSl sz R no w v l := by
  rcases Rd.slice h ht with rfl | ⟨a, len, cap, rfl, hl, hm, hx⟩
  · exact ⟨_, [], rfl, none, 0, rfl, by simp, by omega, fun _ => rfl, fun i x hi => by simp at hi⟩
  · rw [hz] at hx
    have hc : ∀ i, i < cap → ∃ (x : α) (r : List Value), r.length = sz ∧ R w x r ∧ ∀ j c, r[j]? = some c → w.cell? ((a.add (i * sz)).add j) = some c := fun i hi => by
      obtain ⟨r, h1, h2⟩ := hx i hi
      obtain ⟨hrl, x, hR⟩ := hE r h2
      obtain ⟨_, _, h3⟩ := World.cells?_some h1
      refine ⟨x, r, hrl, hR, fun j c hj => ?_⟩
      have hjl : j < sz := by
        rw [← hrl]
        rcases Nat.lt_or_ge j r.length with h | h
        · exact h
        · rw [List.getElem?_eq_none h] at hj; cases hj
      have := h3 j hjl
      rw [this]; exact hj
    have hch := Classical.choice (show Nonempty (∀ i : Nat, i < cap → { p : α × List Value // p.2.length = sz ∧ R w p.1 p.2 ∧ ∀ j c, p.2[j]? = some c → w.cell? ((a.add (i * sz)).add j) = some c }) from
      ⟨fun i hi => ⟨⟨Classical.choose (hc i hi), Classical.choose (Classical.choose_spec (hc i hi))⟩, Classical.choose_spec (Classical.choose_spec (hc i hi))⟩⟩)
    by_cases h0 : cap = 0
    · subst h0
      obtain rfl : len = 0 := by omega
      exact ⟨_, [], rfl, some a, 0, rfl, by simp, by omega, fun e => by simp at e, fun i x hi => by simp at hi⟩
    · obtain ⟨x0, r0, hr0, _, hcell0⟩ := hc 0 (by omega)
      have hspot : a.spot = none := by
        have h1 := hcell0 0 (r0[0]'(by omega)) (List.getElem?_eq_getElem _)
        have := World.cell?_spot h1
        simpa [Addr.add] using this
      obtain ⟨b, off, spot⟩ := a
      simp at hspot
      subst hspot
      let f : Nat → α := fun i => if hi : i < cap then (hch i hi).1.1 else x0
      refine ⟨_, (List.range len).map f, rfl, some ⟨b, off, none⟩, cap, by simp, by simpa using hl, by simpa [maxLen] using hm, fun e => by simp at e, fun i x hi => ?_⟩
      have hil : i < len := by
        rcases Nat.lt_or_ge i len with h | h
        · exact h
        · rw [List.getElem?_eq_none (by simpa using h)] at hi; cases hi
      have hic : i < cap := by omega
      rw [List.getElem?_map, List.getElem?_range hil] at hi
      have hfx : f i = x := by simpa using hi
      have hfi : f i = (hch i hic).1.1 := by simp only [f, dif_pos hic]
      have hs := (hch i hic).2
      have hadd : ∀ j, ((⟨b, off, none⟩ : Addr).add (i * sz)).add j = ⟨b, off + i * sz + j, none⟩ := fun j => by rw [add_at, add_at]
      refine ⟨b, off, (hch i hic).1.2, rfl, ?_, id, hs.1, fun j c hj => by rw [← hadd j]; exact hs.2.2 j c hj, by rw [← hfx, hfi]; exact hs.2.1⟩
      have h1 := hs.2.2 0 ((hch i hic).1.2[0]'(by rw [hs.1]; omega)) (List.getElem?_eq_getElem _)
      rw [hadd] at h1
      exact World.block_lt_of_cell? w _ h1
theorem Rd.i64 {n : TypeId} (hn : Proofs.Try.prog.underlying n = some (.int .i64)) {x : Value} (h : Rd enc Proofs.Try.prog w n [x]) : ∃ z, x = .int .i64 z := by
  obtain ⟨z, e, _⟩ := Rd.int (k := .i64) h hn
  exact ⟨z, by simpa using e⟩
theorem Rd.i64s {t : TypeId} {n : Nat} (ht : Proofs.Try.prog.underlying t = some (.array n 3)) (h : Rd enc Proofs.Try.prog w t cs) (i : Nat) (hi : i < n) : ∃ z, (cs.drop (i * 1)).take 1 = [.int .i64 z] := by
  obtain ⟨z, e, _⟩ := Rd.int (k := .i64) (Rd.elem h ht i hi (m := 1) (by kernel_rfl)) Proofs.Try.underlying3
  exact ⟨z, e⟩
theorem Rd.ev (h : Rd enc Proofs.Try.prog w 108 cs) : cs.length = 5 ∧ ∃ e, RE w e cs := by
  have hl := (Rd.struct h Proofs.Try.underlying108).1
  rw [show Proofs.Try.prog.cellsOf 108 = 5 by kernel_rfl] at hl
  obtain ⟨v0, v1, v2, v3, v4, rfl⟩ : ∃ v0 v1 v2 v3 v4, cs = [v0, v1, v2, v3, v4] := by
    match cs, hl with
    | [a, b, c, d, e], _ => exact ⟨a, b, c, d, e, rfl⟩
  obtain ⟨z0, rfl⟩ := Rd.i64 Proofs.Try.underlying3 (x := v0) (by have q := Rd.field h Proofs.Try.underlying108 0 (n := 1) rfl (by kernel_rfl); exact q)
  obtain ⟨z1, rfl⟩ := Rd.i64 Proofs.Try.underlying3 (x := v1) (by have q := Rd.field h Proofs.Try.underlying108 1 (n := 1) rfl (by kernel_rfl); exact q)
  obtain ⟨z2, rfl⟩ := Rd.i64 Proofs.Try.underlying3 (x := v2) (by have q := Rd.field h Proofs.Try.underlying108 2 (n := 1) rfl (by kernel_rfl); exact q)
  obtain ⟨z3, rfl⟩ := Rd.i64 Proofs.Try.underlying3 (x := v3) (by have q := Rd.field h Proofs.Try.underlying108 3 (n := 1) rfl (by kernel_rfl); exact q)
  obtain ⟨z4, rfl⟩ := Rd.i64 Proofs.Try.underlying3 (x := v4) (by have q := Rd.field h Proofs.Try.underlying108 4 (n := 1) rfl (by kernel_rfl); exact q)
  exact ⟨rfl, ⟨z0, z1, z2, z3, z4⟩, rfl⟩
theorem Rd.frame (h : Rd enc Proofs.Try.prog w 95 cs) : cs.length = 11 ∧ ∃ f, RF no w f cs := by
  have hl := (Rd.struct h Proofs.Try.underlying95).1
  rw [show Proofs.Try.prog.cellsOf 95 = 11 by kernel_rfl] at hl
  obtain ⟨v0, v1, v2, v3, v4, v5, v6, v7, v8, v9, v10, rfl⟩ : ∃ v0 v1 v2 v3 v4 v5 v6 v7 v8 v9 v10, cs = [v0, v1, v2, v3, v4, v5, v6, v7, v8, v9, v10] := by
    match cs, hl with
    | [a, b, c, d, e, f, g, h, i, j, k], _ => exact ⟨a, b, c, d, e, f, g, h, i, j, k, rfl⟩
  obtain ⟨z0, rfl⟩ := Rd.i64 Proofs.Try.underlying3 (x := v0) (by have q := Rd.field h Proofs.Try.underlying95 0 (n := 1) rfl (by kernel_rfl); exact q)
  obtain ⟨z1, rfl⟩ := Rd.i64 Proofs.Try.underlying3 (x := v1) (by have q := Rd.field h Proofs.Try.underlying95 1 (n := 1) rfl (by kernel_rfl); exact q)
  have hR : Rd enc Proofs.Try.prog w 93 [v2, v3, v4, v5, v6, v7, v8, v9] := by have q := Rd.field h Proofs.Try.underlying95 2 (n := 8) rfl (by kernel_rfl); exact q
  obtain ⟨z2, q0⟩ := Rd.i64s Proofs.Try.underlying93 hR 0 (by decide)
  obtain rfl : v2 = .int .i64 z2 := by simpa using q0
  obtain ⟨z3, q1⟩ := Rd.i64s Proofs.Try.underlying93 hR 1 (by decide)
  obtain rfl : v3 = .int .i64 z3 := by simpa using q1
  obtain ⟨z4, q2⟩ := Rd.i64s Proofs.Try.underlying93 hR 2 (by decide)
  obtain rfl : v4 = .int .i64 z4 := by simpa using q2
  obtain ⟨z5, q3⟩ := Rd.i64s Proofs.Try.underlying93 hR 3 (by decide)
  obtain rfl : v5 = .int .i64 z5 := by simpa using q3
  obtain ⟨z6, q4⟩ := Rd.i64s Proofs.Try.underlying93 hR 4 (by decide)
  obtain rfl : v6 = .int .i64 z6 := by simpa using q4
  obtain ⟨z7, q5⟩ := Rd.i64s Proofs.Try.underlying93 hR 5 (by decide)
  obtain rfl : v7 = .int .i64 z7 := by simpa using q5
  obtain ⟨z8, q6⟩ := Rd.i64s Proofs.Try.underlying93 hR 6 (by decide)
  obtain rfl : v8 = .int .i64 z8 := by simpa using q6
  obtain ⟨z9, q7⟩ := Rd.i64s Proofs.Try.underlying93 hR 7 (by decide)
  obtain rfl : v9 = .int .i64 z9 := by simpa using q7
  obtain ⟨u, l, e, hu⟩ := Rd.ints (cs := [v10]) (by have q := Rd.field h Proofs.Try.underlying95 3 (n := 1) rfl (by kernel_rfl); exact q)
  obtain rfl : v10 = u := by simpa using e
  exact ⟨rfl, ⟨z0, z1, [z2, z3, z4, z5, z6, z7, z8, z9], l⟩, rfl, _, rfl, hu⟩
theorem Rd.core (h : Rd enc Proofs.Try.prog w 116 cs) : cs.length = 7 ∧ ∃ c, RC no w c cs := by
  have hl := (Rd.struct h Proofs.Try.underlying116).1
  rw [show Proofs.Try.prog.cellsOf 116 = 7 by kernel_rfl] at hl
  obtain ⟨v0, v1, v2, v3, v4, v5, v6, rfl⟩ : ∃ v0 v1 v2 v3 v4 v5 v6, cs = [v0, v1, v2, v3, v4, v5, v6] := by
    match cs, hl with
    | [a, b, c, d, e, f, g], _ => exact ⟨a, b, c, d, e, f, g, rfl⟩
  obtain ⟨u0, l0, e0, h0⟩ := Rd.sl (R := RF no) (sz := 11) Proofs.Try.underlying114 (by kernel_rfl) (by decide) (fun _ h => Rd.frame h) (cs := [v0]) (by have q := Rd.field h Proofs.Try.underlying116 0 (n := 1) rfl (by kernel_rfl); exact q)
  obtain rfl : v0 = u0 := by simpa using e0
  obtain ⟨z1, rfl⟩ := Rd.i64 Proofs.Try.underlying3 (x := v1) (by have q := Rd.field h Proofs.Try.underlying116 1 (n := 1) rfl (by kernel_rfl); exact q)
  obtain ⟨z2, rfl⟩ := Rd.i64 Proofs.Try.underlying25 (x := v2) (by have q := Rd.field h Proofs.Try.underlying116 2 (n := 1) rfl (by kernel_rfl); exact q)
  have hX : Rd enc Proofs.Try.prog w 41 [v3, v4, v5] := by have q := Rd.field h Proofs.Try.underlying116 3 (n := 3) rfl (by kernel_rfl); exact q
  obtain ⟨z3, q0⟩ := Rd.i64s Proofs.Try.underlying41 hX 0 (by decide)
  obtain rfl : v3 = .int .i64 z3 := by simpa using q0
  obtain ⟨z4, q1⟩ := Rd.i64s Proofs.Try.underlying41 hX 1 (by decide)
  obtain rfl : v4 = .int .i64 z4 := by simpa using q1
  obtain ⟨z5, q2⟩ := Rd.i64s Proofs.Try.underlying41 hX 2 (by decide)
  obtain rfl : v5 = .int .i64 z5 := by simpa using q2
  obtain ⟨u, l, e, hu⟩ := Rd.ints (cs := [v6]) (by have q := Rd.field h Proofs.Try.underlying116 4 (n := 1) rfl (by kernel_rfl); exact q)
  obtain rfl : v6 = u := by simpa using e
  exact ⟨rfl, ⟨l0, z1, z2, [z3, z4, z5], l⟩, rfl, _, _, rfl, h0, hu⟩
theorem Rd.sys (h : Rd enc Proofs.Try.prog w 83 cs) : ∃ v0 v1 v2 v3 v4 s, cs = [v0, v1, v2, v3, v4] ∧ IsSys no w (.agg #[v0, v1, v2, v3, v4]) s := by
  have hl := (Rd.struct h Proofs.Try.underlying83).1
  rw [show Proofs.Try.prog.cellsOf 83 = 5 by kernel_rfl] at hl
  obtain ⟨v0, v1, v2, v3, v4, rfl⟩ : ∃ v0 v1 v2 v3 v4, cs = [v0, v1, v2, v3, v4] := by
    match cs, hl with
    | [a, b, c, d, e], _ => exact ⟨a, b, c, d, e, rfl⟩
  obtain ⟨y0, y1, y2, m, e, hm⟩ := Rd.mem (cs := [v0, v1, v2]) (by have q := Rd.field h Proofs.Try.underlying83 0 (n := 3) rfl (by kernel_rfl); exact q)
  obtain ⟨rfl, rfl, rfl⟩ : v0 = y0 ∧ v1 = y1 ∧ v2 = y2 := by simpa using e
  obtain ⟨u3, l3, e3, h3⟩ := Rd.sl (R := RC no) (sz := 7) Proofs.Try.underlying80 (by kernel_rfl) (by decide) (fun _ h => Rd.core h) (cs := [v3]) (by have q := Rd.field h Proofs.Try.underlying83 1 (n := 1) rfl (by kernel_rfl); exact q)
  obtain rfl : v3 = u3 := by simpa using e3
  obtain ⟨u4, l4, e4, h4⟩ := Rd.sl (R := RE) (sz := 5) Proofs.Try.underlying81 (by kernel_rfl) (by decide) (fun _ h => Rd.ev h) (cs := [v4]) (by have q := Rd.field h Proofs.Try.underlying83 2 (n := 1) rfl (by kernel_rfl); exact q)
  obtain rfl : v4 = u4 := by simpa using e4
  exact ⟨_, _, _, _, _, ⟨m, l3, l4⟩, rfl, _, _, _, _, _, rfl, hm, h3, h4⟩
end
end Go.Proofs.Ytcfbdfgondmkoaa
