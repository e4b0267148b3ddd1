/- lives: the example of the section. -/
import Derived.Test.YtjdhcdbjfbhogaaG14
import Derived.Test.YtjdhcdbjfbhogaaG13
import Derived.Test.YtjdhcdbjfbhogaaW8
namespace Go.Proofs.Ytjdhcdbjfbhogaa
open Go.RowKit Go.Maps

def q0 : Qn := ⟨0, 0, 0, 1, 0⟩
def ev0 : Ev := ⟨7, 0, 0, ⟨0, 0, 0, 0, 0⟩⟩
theorem q0_ok : q0.ok := by intro n hn; simp [Qn.ints, q0] at hn; unfold InI64; omega
theorem ev0_ok : ev0.ok := by intro n hn; simp [Ev.ints, ev0] at hn; unfold InI64; omega
theorem normT : normA [⟨q0, 2⟩, ⟨q0, 0⟩] = [] := by decide
theorem normU : normA [⟨q0, 2⟩, ⟨q0, 0⟩, ⟨q0, 3⟩] = [⟨q0, 3⟩] := by decide
theorem normU' : normA [⟨q0, 3⟩] = [⟨q0, 3⟩] := by decide
theorem decU : decP (encP [ev0] [⟨q0, 3⟩]) = (([ev0], [⟨q0, 3⟩]), 0) := dec_enc (fun e he => by simp at he; subst he; exact ev0_ok) (fun a ha => by
  simp at ha
  subst ha
  exact ⟨q0_ok, show InI64 3 by unfold InI64; omega⟩) (by simp) (fun a ha => by simp at ha; subst ha; decide) (by simp) (by simp)
theorem encP_byte {evs : List Ev} {r : List Ans} : ∀ c ∈ encP evs r, IsByte c := by
  intro c hc
  unfold encP at hc
  simp only [List.mem_append, List.mem_flatMap] at hc
  have hi : ∀ (l : List Int), c ∈ l.flatMap encI → IsByte c := fun l h => by
    obtain ⟨n, _, h⟩ := List.mem_flatMap.1 h
    exact encU_byte _ c h
  rcases hc with h | ⟨e, _, h⟩ | h | ⟨e, _, h⟩
  · exact encU_byte _ c h
  · exact hi _ h
  · exact encU_byte _ c h
  · exact hi _ h

theorem run_field26 (a b : Value) (w : World) : (Instr.field 26 (.agg #[a, b]) 1).run Try.prog w = .ok b w := by
  simp [Instr.field, part, go_sem, asAgg]
theorem ansok3 : ∀ a ∈ ([⟨q0, 3⟩] : List Ans), a.ok := by
  intro a ha
  simp at ha
  subst ha
  exact ⟨q0_ok, show InI64 3 by unfold InI64; omega⟩
theorem encP_length {evs : List Ev} {r : List Ans} (he : ∀ e ∈ evs, e.ok) (hr : ∀ a ∈ r, a.ok) (h1 : evs.length ≤ 1000000) (h2 : r.length ≤ 1000000) : (encP evs r).length ≤ 20 + evs.length * 80 + r.length * 60 := by
  have a1 : (encU evs.length).length ≤ 10 := encU_length _ 9 (by omega)
  have a2 : (encU r.length).length ≤ 10 := encU_length _ 9 (by omega)
  have a3 := encEvs_length evs he
  have a4 := encAs_length r hr
  unfold encP
  rw [List.length_append, List.length_append, List.length_append]
  omega
theorem encP_len : (encP [ev0] [⟨q0, 3⟩]).length ≤ 1000000 := by
  have := encP_length (evs := [ev0]) (fun e he => by simp at he; subst he; exact ev0_ok) ansok3 (by simp) (by simp)
  simp at this
  omega
theorem ansok : ∀ a ∈ ([⟨q0, 2⟩, ⟨q0, 0⟩] ++ [⟨q0, 3⟩] : List Ans), a.ok := by
  intro a ha
  simp at ha
  rcases ha with rfl | rfl | rfl
  · exact ⟨q0_ok, show InI64 2 by unfold InI64; omega⟩
  · exact ⟨q0_ok, show InI64 0 by unfold InI64; omega⟩
  · exact ⟨q0_ok, show InI64 3 by unfold InI64; omega⟩

set_option maxHeartbeats 4000000 in
set_option maxRecDepth 100000 in
theorem livesF (w : World) : Calls Try.prog 17 #[] w fun e w' => e = .returned (.bool true) ∧ Below w.heap.size w w' := by
  go_enter Try.func17, Try.ntmps17
  go_upto_region 3 with fail
  obtain ⟨W1, e1⟩ : ∃ W, W = w.alloc (.cells #[I 0, I 0, I 0, I 1, I 0] 66) := ⟨_, rfl⟩
  rw [← e1]
  obtain ⟨W2, e2⟩ : ∃ W, W = W1.alloc (.cells #[I 7, I 0, I 0, I 0, I 0, I 0, I 0, I 0] 56) := ⟨_, rfl⟩
  rw [← e2]
  obtain ⟨W3, e3⟩ : ∃ W, W = W2.alloc (.cells #[I 0, I 0, I 0, I 1, I 0, I 2, I 0, I 0, I 0, I 1, I 0, I 0] 75) := ⟨_, rfl⟩
  rw [← e3]
  obtain ⟨W4, e4⟩ : ∃ W, W = W3.alloc (.cells #[.slice (some ⟨w.heap.size + 1, 0, none⟩) 1 1, .slice (some ⟨w.heap.size + 1 + 1, 0, none⟩) 2 2] 26) := ⟨_, rfl⟩
  rw [← e4]
  have z1 : W1.heap.size = w.heap.size + 1 := by rw [e1]; exact World.size_alloc _ _
  have z2 : W2.heap.size = w.heap.size + 2 := by rw [e2, World.size_alloc, z1]
  have z3 : W3.heap.size = w.heap.size + 3 := by rw [e3, World.size_alloc, z2]
  have z4 : W4.heap.size = w.heap.size + 4 := by rw [e4, World.size_alloc, z3]
  have B1 : Below w.heap.size w W1 := by rw [e1]; exact (Below.refl _ _).alloc (Nat.le_refl _) _
  have B2 : Below W1.heap.size W1 W2 := by rw [e2]; exact (Below.refl _ _).alloc (Nat.le_refl _) _
  have B3 : Below W2.heap.size W2 W3 := by rw [e3]; exact (Below.refl _ _).alloc (Nat.le_refl _) _
  have B4 : Below W3.heap.size W3 W4 := by rw [e4]; exact (Below.refl _ _).alloc (Nat.le_refl _) _
  have hq1 : Blk W1 w.heap.size #[I 0, I 0, I 0, I 1, I 0] := by rw [e1]; exact Blk.new _ _ _
  have hv2 : Blk W2 (w.heap.size + 1) #[I 7, I 0, I 0, I 0, I 0, I 0, I 0, I 0] := by rw [e2, ← z1]; exact Blk.new _ _ _
  have ha3 : Blk W3 (w.heap.size + 1 + 1) #[I 0, I 0, I 0, I 1, I 0, I 2, I 0, I 0, I 0, I 1, I 0, I 0] := by rw [e3, show w.heap.size + 1 + 1 = W2.heap.size by omega]; exact Blk.new _ _ _
  have ht4 : Blk W4 (w.heap.size + 1 + 1 + 1) #[.slice (some ⟨w.heap.size + 1, 0, none⟩) 1 1, .slice (some ⟨w.heap.size + 1 + 1, 0, none⟩) 2 2] := by rw [e4, show w.heap.size + 1 + 1 + 1 = W3.heap.size by omega]; exact Blk.new _ _ _
  have hq4 := ((hq1.kept B2 (by omega)).kept B3 (by omega)).kept B4 (by omega)
  have hv4 := (hv2.kept B3 (by omega)).kept B4 (by omega)
  have ha4 := ha3.kept B4 (by omega)
  have B14 : Below w.heap.size w W4 := ((B1.trans (B2.mono (by omega))).trans (B3.mono (by omega))).trans (B4.mono (by omega))
  have hE : EvSl W4 (.slice (some ⟨w.heap.size + 1, 0, none⟩) 1 1) [ev0] := Flat.of_cells (by simp [iv, Ev.ints]) (by omega) (fun j v hv => by rw [Nat.zero_add, hv4.cell]; simpa [iv, Ev.ints, ev0] using hv)
  have hA : AnsSl W4 (.slice (some ⟨w.heap.size + 1 + 1, 0, none⟩) 2 2) [⟨q0, 2⟩, ⟨q0, 0⟩] := Flat.of_cells (by simp [iv, Ans.ints]) (by omega) (fun j v hv => by rw [Nat.zero_add, ha4.cell]; simpa [iv, Ans.ints, q0] using hv)
  clear e1 e2 e3 e4 hq1 hv2 ha3 hv4 ha4 B1 B2 B3 B4 z1 z2 z3
  have hw := withF [ev0] [⟨q0, 2⟩, ⟨q0, 0⟩] _ _ q0 3 W4 hE hA ansok (by simp) (by simp)
  rw [show normA ([⟨q0, 2⟩, ⟨q0, 0⟩] ++ [⟨q0, 3⟩]) = [⟨q0, 3⟩] from normU] at hw
  have HW : Hid (Calls Try.prog 38 #[.agg #[.slice (some ⟨w.heap.size + 1, 0, none⟩) 1 1, .slice (some ⟨w.heap.size + 1 + 1, 0, none⟩) 2 2], .agg #[I 0, I 0, I 0, I 1, I 0], I 3] W4 fun e w' => ∃ ue ua, e = .returned (.agg #[ue, ua]) ∧ w'.ownsRow W4.heap.size 56 8 ue 1 ([ev0].flatMap ec) ∧ w'.ownsRow W4.heap.size 75 6 ua 1 ([(⟨q0, 3⟩ : Ans)].flatMap ac) ∧ Below W4.heap.size W4 w') := Lib.hid hw
  have tc := ht4.cell
  have qc := hq4.cell
  clear hw
  go_upto_region 4 with (go_at_call 38; refine HW.out.mono ?_; rintro e W5 ⟨ue, ua, rfl, hue, hua, B5⟩; obtain ⟨ke, ce, rfl, _⟩ := (Flat.of_owns hue).open; obtain ⟨ka, ca, rfl, _⟩ := (Flat.of_owns hua).open)
  have B6 : Below W5.heap.size W5 (W5.alloc (.cells #[.slice ke 1 ce, .slice ka 1 ca] 26)) := (Below.refl _ _).alloc (Nat.le_refl _) _
  have hu6 : Blk (W5.alloc (.cells #[.slice ke 1 ce, .slice ka 1 ca] 26)) W5.heap.size #[.slice ke 1 ce, .slice ka 1 ca] := Blk.new _ _ _
  have z6 : (W5.alloc (.cells #[.slice ke 1 ce, .slice ka 1 ca] 26)).heap.size = W5.heap.size + 1 := World.size_alloc _ _
  generalize W5.alloc (.cells #[.slice ke 1 ce, .slice ka 1 ca] 26) = W6 at B6 hu6 z6 ⊢
  have z5 := B5.size
  have B46 : Below W4.heap.size W4 W6 := B5.trans (B6.mono z5)
  have hUE : EvSl W6 (.slice ke 1 ce) [ev0] := Flat.kept (Flat.of_owns hue) B6 (Nat.le_refl _)
  have hUA : AnsSl W6 (.slice ka 1 ca) [⟨q0, 3⟩] := Flat.kept (Flat.of_owns hua) B6 (Nat.le_refl _)
  have hn := encodeF [ev0] [⟨q0, 3⟩] _ _ W6 hUE hUA ansok3 (fun e he => by simp at he; subst he; exact ev0_ok) (by simp) (by simp)
  rw [normU'] at hn
  have HN := Lib.hid hn
  have uc := hu6.cell
  clear hn HW hue hua
  go_upto_region 5 with (first | (go_at_call 15; refine HN.out.mono ?_; rintro e W7 ⟨ub, rfl, hub, B7⟩; have hd := decodeF (encP [ev0] [⟨q0, 3⟩]) ub W7 (Flat.of_owns hub) encP_byte encP_len; rw [decU] at hd; have HD := Lib.hid hd) | (go_at_call 20; refine HD.out.mono ?_; rintro e W8 ⟨ve, va, rfl, hve, hva, B8⟩; obtain ⟨kv, cv, rfl, _⟩ := hve.open; obtain ⟨kw, cw, rfl, _⟩ := hva.open))
  have hVE : EvSl W8 (.slice kv 1 cv) [ev0] := hve
  have hVA : AnsSl W8 (.slice kw 1 cw) [⟨q0, 3⟩] := hva
  (try simp only [List.length_cons, List.length_nil, Nat.zero_add])
  have B9 : Below W8.heap.size W8 (W8.alloc (.cells #[.slice kv 1 cv, .slice kw 1 cw] 26)) := (Below.refl _ _).alloc (Nat.le_refl _) _
  have hv9 : Blk (W8.alloc (.cells #[.slice kv 1 cv, .slice kw 1 cw] 26)) W8.heap.size #[.slice kv 1 cv, .slice kw 1 cw] := Blk.new _ _ _
  have z9 : (W8.alloc (.cells #[.slice kv 1 cv, .slice kw 1 cw] 26)).heap.size = W8.heap.size + 1 := World.size_alloc _ _
  generalize W8.alloc (.cells #[.slice kv 1 cv, .slice kw 1 cw] 26) = W9 at B9 hv9 z9 ⊢
  have z7 := B7.size
  have z8 := B8.size
  have B69 : Below W6.heap.size W6 W9 := (B7.trans (B8.mono z7)).trans (B9.mono (by omega))
  have B49 : Below W4.heap.size W4 W9 := B46.trans (B69.mono (by omega))
  have ht9 := ht4.kept B49 (by omega)
  have hq9 := hq4.kept B49 (by omega)
  have hu9 := hu6.kept B69 (by omega)
  have Hcells := Lib.hid (fun W (hB : Below W9.heap.size W9 W) => And.intro (ht9.kept hB ht9.lt).cell (And.intro (hq9.kept hB hq9.lt).cell (And.intro (hu9.kept hB hu9.lt).cell (hv9.kept hB hv9.lt).cell)))
  have HN2 : Hid (∀ W, Below W9.heap.size W9 W → Calls Try.prog 26 #[.agg #[.slice (some ⟨w.heap.size + 1, 0, none⟩) 1 1, .slice (some ⟨w.heap.size + 1 + 1, 0, none⟩) 2 2]] W fun e w' => ∃ ue ua, e = .returned (.agg #[ue, ua]) ∧ w'.ownsRow W.heap.size 56 8 ue 1 ([ev0].flatMap ec) ∧ w'.ownsRow W.heap.size 75 6 ua 0 [] ∧ Below W.heap.size W w') := Lib.hid (fun W hB => by
    have h := normalF [ev0] [⟨q0, 2⟩, ⟨q0, 0⟩] _ _ W (EvSl.kept (hE.kept B49 (Nat.le_refl _)) hB (Nat.le_refl _)) (AnsSl.kept (hA.kept B49 (Nat.le_refl _)) hB (Nat.le_refl _)) (fun a ha => ansok a (List.mem_append_left _ ha)) (by simp) (by simp)
    rw [normT] at h
    exact h)
  have HG : Hid (∀ W, Below W9.heap.size W9 W → Calls Try.prog 36 #[.agg #[.slice (some ⟨w.heap.size + 1, 0, none⟩) 1 1, .slice (some ⟨w.heap.size + 1 + 1, 0, none⟩) 2 2], .agg #[I 0, I 0, I 0, I 1, I 0]] W fun e w' => e = .returned (I 0) ∧ Below W.heap.size W w') := Lib.hid (fun W hB => by
    have h := getF [⟨q0, 2⟩, ⟨q0, 0⟩] (.slice (some ⟨w.heap.size + 1, 0, none⟩) 1 1) _ q0 W (AnsSl.kept (hA.kept B49 (Nat.le_refl _)) hB (Nat.le_refl _)) (fun a ha => ansok a (List.mem_append_left _ ha)) q0_ok (by simp)
    rw [show getA [⟨q0, 2⟩, ⟨q0, 0⟩] q0 = 0 by decide] at h
    exact h)
  have HG2 : Hid (∀ W, Below W9.heap.size W9 W → Calls Try.prog 36 #[.agg #[.slice ke 1 ce, .slice ka 1 ca], .agg #[I 0, I 0, I 0, I 1, I 0]] W fun e w' => e = .returned (I 3) ∧ Below W.heap.size W w') := Lib.hid (fun W hB => by
    have h := getF [⟨q0, 3⟩] (.slice ke 1 ce) _ q0 W (AnsSl.kept (hUA.kept B69 (Nat.le_refl _)) hB (Nat.le_refl _)) ansok3 q0_ok (by simp)
    rw [show getA [⟨q0, 3⟩] q0 = 3 by decide] at h
    exact h)
  have HP : Hid (∀ W, Below W9.heap.size W9 W → Calls Try.prog 33 #[.agg #[.slice ke 1 ce, .slice ka 1 ca]] W fun e w' => e = .returned (I 2) ∧ Below W.heap.size W w') := Lib.hid (fun W hB => by
    have h := partsF [ev0] [⟨q0, 3⟩] _ _ W (EvSl.kept (hUE.kept B69 (Nat.le_refl _)) hB (Nat.le_refl _)) (AnsSl.kept (hUA.kept B69 (Nat.le_refl _)) hB (Nat.le_refl _)) ansok3 (by simp) (by simp)
    rw [normU'] at h
    exact h)
  have HS : Hid (∀ W, Below W9.heap.size W9 W → Calls Try.prog 22 #[.agg #[.slice ke 1 ce, .slice ka 1 ca], .agg #[.slice kv 1 cv, .slice kw 1 cw]] W fun e w' => e = .returned (.bool true) ∧ Below W.heap.size W w') := Lib.hid (fun W hB => by
    have h := sameF [ev0] [ev0] [⟨q0, 3⟩] [⟨q0, 3⟩] _ _ _ _ W (EvSl.kept (hUE.kept B69 (Nat.le_refl _)) hB (Nat.le_refl _)) (AnsSl.kept (hUA.kept B69 (Nat.le_refl _)) hB (Nat.le_refl _)) (EvSl.kept (hVE.kept B9 (Nat.le_refl _)) hB (Nat.le_refl _)) (AnsSl.kept (hVA.kept B9 (Nat.le_refl _)) hB (Nat.le_refl _))
    simpa using h)
  obtain ⟨tc, qc, uc, vc⟩ := Hcells.out W9 (Below.refl _ _)
  have hff := run_field26
  have hw9 : w.heap.size ≤ W9.heap.size := by omega
  have B19 : Below w.heap.size w W9 := B14.trans (B49.mono (by omega))
  clear hE hA hUE hUA hVE hVA B69 B49 ht9 hq9 hu9 hv9 B9 z9 z7 z8 hve hva hd HD hub B7 B8 HN B46 z5 z6 B5 B6 hu6 B14 z4 ht4 hq4
  go_wp2_with (first | (go_at_call 26; refine (HN2.out _ (Below.refl _ _)).mono ?_; rintro e X1 ⟨ue, ua, rfl, hne, hna, C1⟩; obtain ⟨k1, c1, rfl, _⟩ := (Flat.of_owns hna).open; obtain ⟨k2, c2, rfl, _⟩ := (Flat.of_owns hne).open; obtain ⟨tc1, qc1, uc1, vc1⟩ := Hcells.out X1 C1) | (go_at_call 36; refine (HG.out _ C1).mono ?_; rintro e X2 ⟨rfl, D2⟩; have C2 := C1.trans (D2.mono C1.size); obtain ⟨tc2, qc2, uc2, vc2⟩ := Hcells.out X2 C2) | (go_at_call 36; refine (HG2.out _ C2).mono ?_; rintro e X3 ⟨rfl, D3⟩; have C3 := C2.trans (D3.mono C2.size); obtain ⟨tc3, qc3, uc3, vc3⟩ := Hcells.out X3 C3) | (go_at_call 33; refine (HP.out _ C3).mono ?_; rintro e X4 ⟨rfl, D4⟩; have C4 := C3.trans (D4.mono C3.size); obtain ⟨tc4, qc4, uc4, vc4⟩ := Hcells.out X4 C4) | (go_at_call 22; refine (HS.out _ C4).mono ?_; rintro e X5 ⟨rfl, D5⟩; have C5 := C4.trans (D5.mono C4.size)))
  go_ret
  exact ⟨rfl, B19.trans (C5.mono hw9)⟩

end Go.Proofs.Ytjdhcdbjfbhogaa
