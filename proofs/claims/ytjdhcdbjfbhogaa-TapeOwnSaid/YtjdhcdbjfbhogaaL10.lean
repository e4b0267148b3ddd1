/- TapeOwn: the walk. (Printed by mkL10.py, then gen.py.) -/
import Derived.Test.YtjdhcdbjfbhogaaX9
import Derived.Test.YtjdhcdbjfbhogaaL11
import Derived.Deep.CutRange
namespace Go.Proofs.Ytjdhcdbjfbhogaa
open Go.RowKit

set_option maxHeartbeats 8000000 in
set_option maxRecDepth 100000 in
theorem lawOwn (l0 m0 : List Int) (p : Int) (vl vm : Value) (w : World) (hl : IntSl w vl l0) (hm : IntSl w vm m0) (okl : ∀ n ∈ l0, InI64 n) (okm : ∀ n ∈ m0, InI64 n) (hp : InI64 p) :
    Calls Try.prog 10 #[vl, vm, I p] w fun e w' => e = .returned (.bool true) ∧ Below w.heap.size w w' := by
  have HT := Lib.hid (fun W (hW : Below w.heap.size w W) => tapeT l0 m0 vl vm W (hl.kept hW (Nat.le_refl _)) (hm.kept hW (Nat.le_refl _)) okl okm)
  have hle := tapeEv_length l0
  have hll := tapeAns_length m0
  have Hok := Lib.hid (tapeAns_ok m0)
  have Hev := Lib.hid (tapeEv_ok l0)
  clear hl hm okl okm
  generalize tapeEv l0 = evs at HT hle Hev
  generalize tapeAns m0 = l at HT hll Hok
  have Hq := Lib.hid (qOf_ok p)
  go_enter Try.func10, Try.ntmps10
  go_wp2_with fail
  refine (HT.out w (Below.refl _ _)).mono ?_
  rintro e w1 ⟨k1, c1, k2, c2, rfl, ht1, B1⟩
  obtain ⟨hT, P1, z1⟩ := boxed w1 #[.slice k1 evs.length c1, .slice k2 l.length c2] 26
  go_wp2_with fail
  generalize w1.alloc (.cells #[.slice k1 evs.length c1, .slice k2 l.length c2] 26) = W1 at hT P1 z1 ⊢
  have B1a := Below.then B1 P1
  refine (HT.out W1 B1a).mono ?_
  rintro e w3 ⟨k3, c3, k4, c4, rfl, hw3, B3⟩
  obtain ⟨hWb, P3, z3⟩ := boxed w3 #[.slice k3 evs.length c3, .slice k4 l.length c4] 26
  obtain ⟨gt, egt⟩ : ∃ g, g = w1.heap.size := ⟨_, rfl⟩
  obtain ⟨gw, egw⟩ : ∃ g, g = w3.heap.size := ⟨_, rfl⟩
  go_upto_region 3 with fail
  generalize w3.alloc (.cells #[.slice k3 evs.length c3, .slice k4 l.length c4] 26) = w4 at hWb P3 z3 ⊢
  have ht4 := ((ht1.kept P1).kept B3).kept P3
  have hw4 := hw3.kept P3
  have B4a := Below.then (Below.then B1a B3) P3
  have hT4 := (hT.kept B3 (by omega)).kept P3 (by have := B3.size; omega)
  have hgt : gt < w4.heap.size := by have := B3.size; omega
  have hgw : gw < w4.heap.size := by omega
  rw [← egt] at hT4 ⊢
  rw [← egw] at hWb ⊢
  have Ht := Lib.hid ht4
  have Hw := Lib.hid hw4
  have HB4 := Lib.hid B4a
  have HTb := Lib.hid hT4
  have HWb := Lib.hid hWb
  have HS := Lib.hid (show ∀ X, Below w4.heap.size w4 X → (∀ j, X.cell? ⟨gt, j, none⟩ = (#[.slice k1 evs.length c1, .slice k2 l.length c2] : Array Value)[j]?) from fun X hX => (hT4.kept hX hT4.lt).cell)
  clear hT P1 z1 B1a hw3 B3 P3 z3 egt egw ht1 B1 ht4 hw4 B4a hT4 hWb HT
  go_cut [9] from 13 to 29 (fun t wc => ∃ (g : Nat) (E A : Nat → Value) (n m : Nat → Nat), t = .slice (some ⟨g, 0, none⟩) 3 3 ∧ w4.heap.size ≤ g ∧ Hid (Own3 wc w4.heap.size g E A n m) ∧ Hid (Below w4.heap.size w4 wc))
  case first =>
    have D0 : Below w4.heap.size w4 w4.drew := (Below.refl _ _).drew
    refine wp_region_T 12 (.take 0 (.take 2 (.take 3 (.take 6 (.take 7 (.fork 1 8 (.fork 4 8 (.fork 5 8 (.move 8 (.move 9 (.move 10 (.take 11 .nil)))) (.move 5 (.move 9 (.move 10 (.take 11 .nil))))) (.move 4 (.move 5 (.move 9 (.move 10 (.take 11 .nil)))))) (.move 1 (.move 4 (.move 5 (.move 9 (.move 10 (.take 11 .nil)))))))))))) (fun w' => ∀ j, w'.cell? ⟨gt, j, none⟩ = (#[.slice k1 evs.length c1, .slice k2 l.length c2] : Array Value)[j]?) (by kernel_rfl) rfl (by kernel_rfl) (HS.out _ D0) ?_
    iterate 5 (refine wpT_take rfl ?_ (by rfl) ?_ ?_; rotate_left; (intro w hSw; (try dsimp only at hSw); go_simp; try with_reducible rfl); (try simp only [Act.put, List.setIfInBounds_toArray, List.set_cons_zero, List.set_cons_succ]))
    refine wpT_fork ?_ ?_
    · refine wpT_move rfl (fun K hK => ?_)
      go_simp
      go_at_call 26
      refine (normR evs l k1 c1 k2 c2 _ (Ht.out.kept D0) Hok.out (by omega) (by omega)).mono ?_
      rintro e X1 ⟨eN, dN, fN, gN, rfl, hN1, hN2, F⟩
      have D1 := Below.then D0 F
      have zN := D0.size
      refine hK.out _ _ (HS.out _ D1) ?_
      clear hK K
      (try simp only [Act.put, List.setIfInBounds_toArray, List.set_cons_zero, List.set_cons_succ])
      refine wpT_fork ?_ ?_
      · refine wpT_move rfl (fun K hK => ?_)
        go_simp
        go_at_call 31
        refine (questionC p _ hp).mono ?_
        rintro e X2 ⟨rfl, F⟩
        have D2 := Below.then D1 F
        have hN1 := owns_below hN1 F
        have hN2 := owns_below hN2 F
        refine hK.out _ _ (HS.out _ D2) ?_
        clear hK K
        (try simp only [Act.put, List.setIfInBounds_toArray, List.set_cons_zero, List.set_cons_succ])
        refine wpT_fork ?_ ?_
        · refine wpT_move rfl (fun K hK => ?_)
          go_simp
          go_at_call 38
          refine (withR evs l k1 c1 k2 c2 (qOf p) 2 _ (Ht.out.kept D2) Hok.out Hq.out (by unfold InI64; omega) (by omega) (by omega)).mono ?_
          rintro e X3 ⟨eW, dW, fW, gW, rfl, hW1, hW2, F⟩
          have D3 := Below.then D2 F
          have hN1 := owns_below hN1 F
          have hN2 := owns_below hN2 F
          have zW := D2.size
          refine hK.out _ _ (HS.out _ D3) ?_
          clear hK K
          (try simp only [Act.put, List.setIfInBounds_toArray, List.set_cons_zero, List.set_cons_succ])
          refine wpT_move rfl (fun K hK => ?_)
          go_simp
          have F := (boxed X3 #[I p] 3).2.1
          have D4 := Below.then D3 F
          have hpi : IntSl (X3.alloc (.cells #[I p] 3)) (.slice (some ⟨X3.heap.size, 0, none⟩) 1 1) [p] := Flat.of_cells (by simp [iv]) (by omega) (fun j u hu => by rw [Nat.zero_add, (Blk.new X3 #[I p] 3).cell]; simpa [iv] using hu)
          have hN1 := owns_below hN1 F
          have hN2 := owns_below hN2 F
          have hW1 := owns_below hW1 F
          have hW2 := owns_below hW2 F
          refine hK.out _ _ (HS.out _ D4) ?_
          clear hK K
          (try simp only [Act.put, List.setIfInBounds_toArray, List.set_cons_zero, List.set_cons_succ])
          refine wpT_move rfl (fun K hK => ?_)
          go_simp
          go_at_call 40
          refine (withoutT evs l [p] k1 c1 k2 c2 _ _ (Ht.out.kept D4) hpi Hok.out (by omega) (by omega)).mono ?_
          rintro e X5 ⟨eO, dO, fO, gO, rfl, hO1, hO2, F⟩
          have D5 := Below.then D4 F
          have hN1 := owns_below hN1 F
          have hN2 := owns_below hN2 F
          have hW1 := owns_below hW1 F
          have hW2 := owns_below hW2 F
          have hpi := IntSl.kept hpi F (Nat.le_refl _)
          have zO := D4.size
          refine hK.out _ _ (HS.out _ D5) ?_
          clear hK K
          (try simp only [Act.put, List.setIfInBounds_toArray, List.set_cons_zero, List.set_cons_succ])
          refine wpT_move rfl (fun K hK => ?_)
          go_simp
          obtain ⟨hb, F, zb⟩ := boxed X5 #[.slice eN evs.length dN, .slice fN (normA l).length gN, .slice eW evs.length dW, .slice fW (normA (putL l (qOf p) 2)).length gW, .slice eO (dropAt [p] 0 evs).length dO, .slice fO (dropAt [p] evs.length (normA l)).length gO] 26
          have D6 := Below.then D5 F
          have zX := D5.size
          refine hK.out _ _ (HS.out _ D6) ?_
          clear hK K
          (try simp only [Act.put, List.setIfInBounds_toArray, List.set_cons_zero, List.set_cons_succ])
          (refine wpT_take rfl ?_ (by rfl) ?_ ?_; rotate_left; (intro w hSw; (try dsimp only at hSw); go_simp; try with_reducible rfl); (try simp only [Act.put, List.setIfInBounds_toArray, List.set_cons_zero, List.set_cons_succ]))
          refine wpT_nil ?_
          go_wp2_with fail
          refine NoPanic.normal ?_
          go_wp2_with fail
          go_meet
          refine ⟨X5.heap.size, fun i => match i with | 0 => .slice eN evs.length dN | 1 => .slice eW evs.length dW | _ => .slice eO (dropAt [p] 0 evs).length dO, fun i => match i with | 0 => .slice fN (normA l).length gN | 1 => .slice fW (normA (putL l (qOf p) 2)).length gW | _ => .slice fO (dropAt [p] evs.length (normA l)).length gO, fun i => match i with | 0 => evs.length | 1 => evs.length | _ => (dropAt [p] 0 evs).length, fun i => match i with | 0 => (normA l).length | 1 => (normA (putL l (qOf p) 2)).length | _ => (dropAt [p] evs.length (normA l)).length, rfl, zX, Lib.hid ⟨?_, ?_, ?_, ?_, ?_⟩, Lib.hid D6⟩
          · intro i hi
            match i, hi with
            | 0, _ => exact ⟨hb.cell 0, hb.cell 1⟩
            | 1, _ => exact ⟨hb.cell 2, hb.cell 3⟩
            | 2, _ => exact ⟨hb.cell 4, hb.cell 5⟩
          · intro i hi
            match i, hi with
            | 0, _ => exact Room.of_owns hN1 zN (Nat.le_refl _) F
            | 1, _ => exact Room.of_owns hW1 zW (Nat.le_refl _) F
            | 2, _ => exact Room.of_owns hO1 zO (Nat.le_refl _) F
          · intro i hi
            match i, hi with
            | 0, _ => exact Room.of_owns hN2 zN (Nat.le_refl _) F
            | 1, _ => exact Room.of_owns hW2 zW (Nat.le_refl _) F
            | 2, _ => exact Room.of_owns hO2 zO (Nat.le_refl _) F
          · intro i
            have h1 := normA_length l; have h2 := normA_length (putL l (qOf p) 2); have h3 := dropAt_length [p] 0 evs; have h4 := dropAt_length [p] evs.length (normA l)
            simp only [putL, List.length_append, List.length_cons, List.length_nil] at h2
            split <;> first | omega | (simp only [putL]; omega)
          · intro i
            have h1 := normA_length l; have h2 := normA_length (putL l (qOf p) 2); have h3 := dropAt_length [p] 0 evs; have h4 := dropAt_length [p] evs.length (normA l)
            simp only [putL, List.length_append, List.length_cons, List.length_nil] at h2
            split <;> first | omega | (simp only [putL]; omega)
        · refine wpT_move rfl (fun K hK => ?_)
          go_simp
          have F := (boxed X2 #[I p] 3).2.1
          have D3 := Below.then D2 F
          have hpi : IntSl (X2.alloc (.cells #[I p] 3)) (.slice (some ⟨X2.heap.size, 0, none⟩) 1 1) [p] := Flat.of_cells (by simp [iv]) (by omega) (fun j u hu => by rw [Nat.zero_add, (Blk.new X2 #[I p] 3).cell]; simpa [iv] using hu)
          have hN1 := owns_below hN1 F
          have hN2 := owns_below hN2 F
          refine hK.out _ _ (HS.out _ D3) ?_
          clear hK K
          (try simp only [Act.put, List.setIfInBounds_toArray, List.set_cons_zero, List.set_cons_succ])
          refine wpT_move rfl (fun K hK => ?_)
          go_simp
          go_at_call 38
          refine (withR evs l k1 c1 k2 c2 (qOf p) 2 _ (Ht.out.kept D3) Hok.out Hq.out (by unfold InI64; omega) (by omega) (by omega)).mono ?_
          rintro e X4 ⟨eW, dW, fW, gW, rfl, hW1, hW2, F⟩
          have D4 := Below.then D3 F
          have hN1 := owns_below hN1 F
          have hN2 := owns_below hN2 F
          have hpi := IntSl.kept hpi F (Nat.le_refl _)
          have zW := D3.size
          refine hK.out _ _ (HS.out _ D4) ?_
          clear hK K
          (try simp only [Act.put, List.setIfInBounds_toArray, List.set_cons_zero, List.set_cons_succ])
          refine wpT_move rfl (fun K hK => ?_)
          go_simp
          go_at_call 40
          refine (withoutT evs l [p] k1 c1 k2 c2 _ _ (Ht.out.kept D4) hpi Hok.out (by omega) (by omega)).mono ?_
          rintro e X5 ⟨eO, dO, fO, gO, rfl, hO1, hO2, F⟩
          have D5 := Below.then D4 F
          have hN1 := owns_below hN1 F
          have hN2 := owns_below hN2 F
          have hpi := IntSl.kept hpi F (Nat.le_refl _)
          have hW1 := owns_below hW1 F
          have hW2 := owns_below hW2 F
          have zO := D4.size
          refine hK.out _ _ (HS.out _ D5) ?_
          clear hK K
          (try simp only [Act.put, List.setIfInBounds_toArray, List.set_cons_zero, List.set_cons_succ])
          refine wpT_move rfl (fun K hK => ?_)
          go_simp
          obtain ⟨hb, F, zb⟩ := boxed X5 #[.slice eN evs.length dN, .slice fN (normA l).length gN, .slice eW evs.length dW, .slice fW (normA (putL l (qOf p) 2)).length gW, .slice eO (dropAt [p] 0 evs).length dO, .slice fO (dropAt [p] evs.length (normA l)).length gO] 26
          have D6 := Below.then D5 F
          have zX := D5.size
          refine hK.out _ _ (HS.out _ D6) ?_
          clear hK K
          (try simp only [Act.put, List.setIfInBounds_toArray, List.set_cons_zero, List.set_cons_succ])
          (refine wpT_take rfl ?_ (by rfl) ?_ ?_; rotate_left; (intro w hSw; (try dsimp only at hSw); go_simp; try with_reducible rfl); (try simp only [Act.put, List.setIfInBounds_toArray, List.set_cons_zero, List.set_cons_succ]))
          refine wpT_nil ?_
          go_wp2_with fail
          refine NoPanic.normal ?_
          go_wp2_with fail
          go_meet
          refine ⟨X5.heap.size, fun i => match i with | 0 => .slice eN evs.length dN | 1 => .slice eW evs.length dW | _ => .slice eO (dropAt [p] 0 evs).length dO, fun i => match i with | 0 => .slice fN (normA l).length gN | 1 => .slice fW (normA (putL l (qOf p) 2)).length gW | _ => .slice fO (dropAt [p] evs.length (normA l)).length gO, fun i => match i with | 0 => evs.length | 1 => evs.length | _ => (dropAt [p] 0 evs).length, fun i => match i with | 0 => (normA l).length | 1 => (normA (putL l (qOf p) 2)).length | _ => (dropAt [p] evs.length (normA l)).length, rfl, zX, Lib.hid ⟨?_, ?_, ?_, ?_, ?_⟩, Lib.hid D6⟩
          · intro i hi
            match i, hi with
            | 0, _ => exact ⟨hb.cell 0, hb.cell 1⟩
            | 1, _ => exact ⟨hb.cell 2, hb.cell 3⟩
            | 2, _ => exact ⟨hb.cell 4, hb.cell 5⟩
          · intro i hi
            match i, hi with
            | 0, _ => exact Room.of_owns hN1 zN (Nat.le_refl _) F
            | 1, _ => exact Room.of_owns hW1 zW (Nat.le_refl _) F
            | 2, _ => exact Room.of_owns hO1 zO (Nat.le_refl _) F
          · intro i hi
            match i, hi with
            | 0, _ => exact Room.of_owns hN2 zN (Nat.le_refl _) F
            | 1, _ => exact Room.of_owns hW2 zW (Nat.le_refl _) F
            | 2, _ => exact Room.of_owns hO2 zO (Nat.le_refl _) F
          · intro i
            have h1 := normA_length l; have h2 := normA_length (putL l (qOf p) 2); have h3 := dropAt_length [p] 0 evs; have h4 := dropAt_length [p] evs.length (normA l)
            simp only [putL, List.length_append, List.length_cons, List.length_nil] at h2
            split <;> first | omega | (simp only [putL]; omega)
          · intro i
            have h1 := normA_length l; have h2 := normA_length (putL l (qOf p) 2); have h3 := dropAt_length [p] 0 evs; have h4 := dropAt_length [p] evs.length (normA l)
            simp only [putL, List.length_append, List.length_cons, List.length_nil] at h2
            split <;> first | omega | (simp only [putL]; omega)
      · refine wpT_move rfl (fun K hK => ?_)
        go_simp
        have F := (boxed X1 #[I p] 3).2.1
        have D2 := Below.then D1 F
        have hpi : IntSl (X1.alloc (.cells #[I p] 3)) (.slice (some ⟨X1.heap.size, 0, none⟩) 1 1) [p] := Flat.of_cells (by simp [iv]) (by omega) (fun j u hu => by rw [Nat.zero_add, (Blk.new X1 #[I p] 3).cell]; simpa [iv] using hu)
        have hN1 := owns_below hN1 F
        have hN2 := owns_below hN2 F
        refine hK.out _ _ (HS.out _ D2) ?_
        clear hK K
        (try simp only [Act.put, List.setIfInBounds_toArray, List.set_cons_zero, List.set_cons_succ])
        refine wpT_move rfl (fun K hK => ?_)
        go_simp
        go_at_call 31
        refine (questionC p _ hp).mono ?_
        rintro e X3 ⟨rfl, F⟩
        have D3 := Below.then D2 F
        have hN1 := owns_below hN1 F
        have hN2 := owns_below hN2 F
        have hpi := IntSl.kept hpi F (Nat.le_refl _)
        refine hK.out _ _ (HS.out _ D3) ?_
        clear hK K
        (try simp only [Act.put, List.setIfInBounds_toArray, List.set_cons_zero, List.set_cons_succ])
        refine wpT_move rfl (fun K hK => ?_)
        go_simp
        go_at_call 38
        refine (withR evs l k1 c1 k2 c2 (qOf p) 2 _ (Ht.out.kept D3) Hok.out Hq.out (by unfold InI64; omega) (by omega) (by omega)).mono ?_
        rintro e X4 ⟨eW, dW, fW, gW, rfl, hW1, hW2, F⟩
        have D4 := Below.then D3 F
        have hN1 := owns_below hN1 F
        have hN2 := owns_below hN2 F
        have hpi := IntSl.kept hpi F (Nat.le_refl _)
        have zW := D3.size
        refine hK.out _ _ (HS.out _ D4) ?_
        clear hK K
        (try simp only [Act.put, List.setIfInBounds_toArray, List.set_cons_zero, List.set_cons_succ])
        refine wpT_move rfl (fun K hK => ?_)
        go_simp
        go_at_call 40
        refine (withoutT evs l [p] k1 c1 k2 c2 _ _ (Ht.out.kept D4) hpi Hok.out (by omega) (by omega)).mono ?_
        rintro e X5 ⟨eO, dO, fO, gO, rfl, hO1, hO2, F⟩
        have D5 := Below.then D4 F
        have hN1 := owns_below hN1 F
        have hN2 := owns_below hN2 F
        have hpi := IntSl.kept hpi F (Nat.le_refl _)
        have hW1 := owns_below hW1 F
        have hW2 := owns_below hW2 F
        have zO := D4.size
        refine hK.out _ _ (HS.out _ D5) ?_
        clear hK K
        (try simp only [Act.put, List.setIfInBounds_toArray, List.set_cons_zero, List.set_cons_succ])
        refine wpT_move rfl (fun K hK => ?_)
        go_simp
        obtain ⟨hb, F, zb⟩ := boxed X5 #[.slice eN evs.length dN, .slice fN (normA l).length gN, .slice eW evs.length dW, .slice fW (normA (putL l (qOf p) 2)).length gW, .slice eO (dropAt [p] 0 evs).length dO, .slice fO (dropAt [p] evs.length (normA l)).length gO] 26
        have D6 := Below.then D5 F
        have zX := D5.size
        refine hK.out _ _ (HS.out _ D6) ?_
        clear hK K
        (try simp only [Act.put, List.setIfInBounds_toArray, List.set_cons_zero, List.set_cons_succ])
        (refine wpT_take rfl ?_ (by rfl) ?_ ?_; rotate_left; (intro w hSw; (try dsimp only at hSw); go_simp; try with_reducible rfl); (try simp only [Act.put, List.setIfInBounds_toArray, List.set_cons_zero, List.set_cons_succ]))
        refine wpT_nil ?_
        go_wp2_with fail
        refine NoPanic.normal ?_
        go_wp2_with fail
        go_meet
        refine ⟨X5.heap.size, fun i => match i with | 0 => .slice eN evs.length dN | 1 => .slice eW evs.length dW | _ => .slice eO (dropAt [p] 0 evs).length dO, fun i => match i with | 0 => .slice fN (normA l).length gN | 1 => .slice fW (normA (putL l (qOf p) 2)).length gW | _ => .slice fO (dropAt [p] evs.length (normA l)).length gO, fun i => match i with | 0 => evs.length | 1 => evs.length | _ => (dropAt [p] 0 evs).length, fun i => match i with | 0 => (normA l).length | 1 => (normA (putL l (qOf p) 2)).length | _ => (dropAt [p] evs.length (normA l)).length, rfl, zX, Lib.hid ⟨?_, ?_, ?_, ?_, ?_⟩, Lib.hid D6⟩
        · intro i hi
          match i, hi with
          | 0, _ => exact ⟨hb.cell 0, hb.cell 1⟩
          | 1, _ => exact ⟨hb.cell 2, hb.cell 3⟩
          | 2, _ => exact ⟨hb.cell 4, hb.cell 5⟩
        · intro i hi
          match i, hi with
          | 0, _ => exact Room.of_owns hN1 zN (Nat.le_refl _) F
          | 1, _ => exact Room.of_owns hW1 zW (Nat.le_refl _) F
          | 2, _ => exact Room.of_owns hO1 zO (Nat.le_refl _) F
        · intro i hi
          match i, hi with
          | 0, _ => exact Room.of_owns hN2 zN (Nat.le_refl _) F
          | 1, _ => exact Room.of_owns hW2 zW (Nat.le_refl _) F
          | 2, _ => exact Room.of_owns hO2 zO (Nat.le_refl _) F
        · intro i
          have h1 := normA_length l; have h2 := normA_length (putL l (qOf p) 2); have h3 := dropAt_length [p] 0 evs; have h4 := dropAt_length [p] evs.length (normA l)
          simp only [putL, List.length_append, List.length_cons, List.length_nil] at h2
          split <;> first | omega | (simp only [putL]; omega)
        · intro i
          have h1 := normA_length l; have h2 := normA_length (putL l (qOf p) 2); have h3 := dropAt_length [p] 0 evs; have h4 := dropAt_length [p] evs.length (normA l)
          simp only [putL, List.length_append, List.length_cons, List.length_nil] at h2
          split <;> first | omega | (simp only [putL]; omega)
    · refine wpT_move rfl (fun K hK => ?_)
      go_simp
      have F := (boxed w4.drew #[I p] 3).2.1
      have D1 := Below.then D0 F
      have hpi : IntSl (w4.drew.alloc (.cells #[I p] 3)) (.slice (some ⟨w4.drew.heap.size, 0, none⟩) 1 1) [p] := Flat.of_cells (by simp [iv]) (by omega) (fun j u hu => by rw [Nat.zero_add, (Blk.new w4.drew #[I p] 3).cell]; simpa [iv] using hu)
      refine hK.out _ _ (HS.out _ D1) ?_
      clear hK K
      (try simp only [Act.put, List.setIfInBounds_toArray, List.set_cons_zero, List.set_cons_succ])
      refine wpT_move rfl (fun K hK => ?_)
      go_simp
      go_at_call 26
      refine (normR evs l k1 c1 k2 c2 _ (Ht.out.kept D1) Hok.out (by omega) (by omega)).mono ?_
      rintro e X2 ⟨eN, dN, fN, gN, rfl, hN1, hN2, F⟩
      have D2 := Below.then D1 F
      have hpi := IntSl.kept hpi F (Nat.le_refl _)
      have zN := D1.size
      refine hK.out _ _ (HS.out _ D2) ?_
      clear hK K
      (try simp only [Act.put, List.setIfInBounds_toArray, List.set_cons_zero, List.set_cons_succ])
      refine wpT_move rfl (fun K hK => ?_)
      go_simp
      go_at_call 31
      refine (questionC p _ hp).mono ?_
      rintro e X3 ⟨rfl, F⟩
      have D3 := Below.then D2 F
      have hpi := IntSl.kept hpi F (Nat.le_refl _)
      have hN1 := owns_below hN1 F
      have hN2 := owns_below hN2 F
      refine hK.out _ _ (HS.out _ D3) ?_
      clear hK K
      (try simp only [Act.put, List.setIfInBounds_toArray, List.set_cons_zero, List.set_cons_succ])
      refine wpT_move rfl (fun K hK => ?_)
      go_simp
      go_at_call 38
      refine (withR evs l k1 c1 k2 c2 (qOf p) 2 _ (Ht.out.kept D3) Hok.out Hq.out (by unfold InI64; omega) (by omega) (by omega)).mono ?_
      rintro e X4 ⟨eW, dW, fW, gW, rfl, hW1, hW2, F⟩
      have D4 := Below.then D3 F
      have hpi := IntSl.kept hpi F (Nat.le_refl _)
      have hN1 := owns_below hN1 F
      have hN2 := owns_below hN2 F
      have zW := D3.size
      refine hK.out _ _ (HS.out _ D4) ?_
      clear hK K
      (try simp only [Act.put, List.setIfInBounds_toArray, List.set_cons_zero, List.set_cons_succ])
      refine wpT_move rfl (fun K hK => ?_)
      go_simp
      go_at_call 40
      refine (withoutT evs l [p] k1 c1 k2 c2 _ _ (Ht.out.kept D4) hpi Hok.out (by omega) (by omega)).mono ?_
      rintro e X5 ⟨eO, dO, fO, gO, rfl, hO1, hO2, F⟩
      have D5 := Below.then D4 F
      have hpi := IntSl.kept hpi F (Nat.le_refl _)
      have hN1 := owns_below hN1 F
      have hN2 := owns_below hN2 F
      have hW1 := owns_below hW1 F
      have hW2 := owns_below hW2 F
      have zO := D4.size
      refine hK.out _ _ (HS.out _ D5) ?_
      clear hK K
      (try simp only [Act.put, List.setIfInBounds_toArray, List.set_cons_zero, List.set_cons_succ])
      refine wpT_move rfl (fun K hK => ?_)
      go_simp
      obtain ⟨hb, F, zb⟩ := boxed X5 #[.slice eN evs.length dN, .slice fN (normA l).length gN, .slice eW evs.length dW, .slice fW (normA (putL l (qOf p) 2)).length gW, .slice eO (dropAt [p] 0 evs).length dO, .slice fO (dropAt [p] evs.length (normA l)).length gO] 26
      have D6 := Below.then D5 F
      have zX := D5.size
      refine hK.out _ _ (HS.out _ D6) ?_
      clear hK K
      (try simp only [Act.put, List.setIfInBounds_toArray, List.set_cons_zero, List.set_cons_succ])
      (refine wpT_take rfl ?_ (by rfl) ?_ ?_; rotate_left; (intro w hSw; (try dsimp only at hSw); go_simp; try with_reducible rfl); (try simp only [Act.put, List.setIfInBounds_toArray, List.set_cons_zero, List.set_cons_succ]))
      refine wpT_nil ?_
      go_wp2_with fail
      refine NoPanic.normal ?_
      go_wp2_with fail
      go_meet
      refine ⟨X5.heap.size, fun i => match i with | 0 => .slice eN evs.length dN | 1 => .slice eW evs.length dW | _ => .slice eO (dropAt [p] 0 evs).length dO, fun i => match i with | 0 => .slice fN (normA l).length gN | 1 => .slice fW (normA (putL l (qOf p) 2)).length gW | _ => .slice fO (dropAt [p] evs.length (normA l)).length gO, fun i => match i with | 0 => evs.length | 1 => evs.length | _ => (dropAt [p] 0 evs).length, fun i => match i with | 0 => (normA l).length | 1 => (normA (putL l (qOf p) 2)).length | _ => (dropAt [p] evs.length (normA l)).length, rfl, zX, Lib.hid ⟨?_, ?_, ?_, ?_, ?_⟩, Lib.hid D6⟩
      · intro i hi
        match i, hi with
        | 0, _ => exact ⟨hb.cell 0, hb.cell 1⟩
        | 1, _ => exact ⟨hb.cell 2, hb.cell 3⟩
        | 2, _ => exact ⟨hb.cell 4, hb.cell 5⟩
      · intro i hi
        match i, hi with
        | 0, _ => exact Room.of_owns hN1 zN (Nat.le_refl _) F
        | 1, _ => exact Room.of_owns hW1 zW (Nat.le_refl _) F
        | 2, _ => exact Room.of_owns hO1 zO (Nat.le_refl _) F
      · intro i hi
        match i, hi with
        | 0, _ => exact Room.of_owns hN2 zN (Nat.le_refl _) F
        | 1, _ => exact Room.of_owns hW2 zW (Nat.le_refl _) F
        | 2, _ => exact Room.of_owns hO2 zO (Nat.le_refl _) F
      · intro i
        have h1 := normA_length l; have h2 := normA_length (putL l (qOf p) 2); have h3 := dropAt_length [p] 0 evs; have h4 := dropAt_length [p] evs.length (normA l)
        simp only [putL, List.length_append, List.length_cons, List.length_nil] at h2
        split <;> first | omega | (simp only [putL]; omega)
      · intro i
        have h1 := normA_length l; have h2 := normA_length (putL l (qOf p) 2); have h3 := dropAt_length [p] 0 evs; have h4 := dropAt_length [p] evs.length (normA l)
        simp only [putL, List.length_append, List.length_cons, List.length_nil] at h2
        split <;> first | omega | (simp only [putL]; omega)
  case rest =>
    obtain ⟨g, E, A, n, m, rfl, hg, HO, HB⟩ := hcut
    have hB := HB.out
    have hzc := hB.size
    have Hg := Lib.hid hg
    go_wp2_with fail
    go_loopw [10] (fun i wr => ∃ (a : Nat), a ≤ 3 ∧ i = .int .i64 a ∧ Hid (Own3 wr w4.heap.size g E A n m) ∧ Hid (Below w4.heap.size w4 wr)) (fun i _ => 3 - (intOf i).toNat)
    case atStart => exact ⟨0, by omega, rfl, HO, HB⟩
    case round =>
      obtain ⟨a, ha, rfl, HO, HB⟩ := hrel
      by_cases hlt : a < 3
      · obtain ⟨wo, rfl⟩ : ∃ wo, wo = wr := ⟨_, rfl⟩
        obtain ⟨aE, cE, hE⟩ := (HO.out.re a hlt).open
        obtain ⟨aA, cA, hA⟩ := (HO.out.ra a hlt).open
        have HE := Lib.hid hE
        have HA := Lib.hid hA
        have hn := HO.out.nb a
        have hm := HO.out.mb a
        obtain ⟨N, hN⟩ : ∃ N, N = n a := ⟨_, rfl⟩
        obtain ⟨M, hM⟩ : ∃ M, M = m a := ⟨_, rfl⟩
        rw [← hN] at hn HE
        rw [← hM] at hm HA
        have HN := Lib.hid hN
        have HM := Lib.hid hM
        have HE2 := Lib.hid (show ∀ W, Own3 W w4.heap.size g E A n m → W.cell? ⟨g, a * 2, none⟩ = some (.slice aE N cE) ∧ Room W w4.heap.size g (.slice aE N cE) N 8 from fun W h => ⟨by rw [← HE.out]; exact (h.cell a hlt).1, by rw [← HE.out, HN.out]; exact h.re a hlt⟩)
        have HA2 := Lib.hid (show ∀ W, Own3 W w4.heap.size g E A n m → W.cell? ⟨g, a * 2 + 1, none⟩ = some (.slice aA M cA) ∧ Room W w4.heap.size g (.slice aA M cA) M 6 from fun W h => ⟨by rw [← HA.out]; exact (h.cell a hlt).2, by rw [← HA.out, HM.out]; exact h.ra a hlt⟩)
        clear hE hA hN hM
        go_wp2_with fail
        go_loopw [11] (fun i wr => ∃ (b : Nat), b ≤ N ∧ i = .int .i64 b ∧ Hid (Own3 wr w4.heap.size g E A n m) ∧ Hid (Below w4.heap.size w4 wr)) (fun i _ => N - (intOf i).toNat)
        case atStart => exact ⟨0, by omega, rfl, HO, HB⟩
        case round =>
          clear HO HB
          obtain ⟨b, hb, rfl, HO, HB⟩ := hrel
          obtain ⟨x0, hroom⟩ := HE2.out _ HO.out
          by_cases hlb : b < N
          · obtain ⟨q, rfl, hq1, hq2, hq3, ⟨x, hx⟩, hfz⟩ := hroom.at hlb 0 (by omega)
            clear hroom
            rw [Nat.add_zero] at hx hfz
            go_wp2_with fail
            go_roundw
            case rel => exact ⟨b + 1, by omega, by go_num, Lib.hid (HO.out.set hq2 _ _), Lib.hid (HB.out.setCell (by simpa using hq1) _)⟩
            case measure => simp [intOf]; omega
          · clear hroom
            obtain ⟨wi, rfl⟩ : ∃ wi, wi = wr := ⟨_, rfl⟩
            go_wp2_with fail
            go_loopw [12] (fun i wr => ∃ (b : Nat), b ≤ M ∧ i = .int .i64 b ∧ Hid (Own3 wr w4.heap.size g E A n m) ∧ Hid (Below w4.heap.size w4 wr)) (fun i _ => M - (intOf i).toNat)
            case atStart => exact ⟨0, by omega, rfl, HO, HB⟩
            case round =>
              clear HO HB x0
              obtain ⟨b, hb, rfl, HO, HB⟩ := hrel
              obtain ⟨x0, hroom⟩ := HA2.out _ HO.out
              by_cases hlb : b < M
              · obtain ⟨q, rfl, hq1, hq2, hq3, ⟨x, hx⟩, hfz⟩ := hroom.at hlb 5 (by omega)
                clear hroom
                go_wp2_with fail
                go_roundw
                case rel => exact ⟨b + 1, by omega, by go_num, Lib.hid (HO.out.set hq2 _ _), Lib.hid (HB.out.setCell (by simpa using hq1) _)⟩
                case measure => simp [intOf]; omega
              · clear hroom
                go_wp2_with fail
                go_roundw
                case rel => exact ⟨a + 1, by omega, by go_num, HO, HB⟩
                case measure => simp [intOf]; omega
      · clear HO
        have hHB := HB.out
        have S0 : (∀ j, wr.cell? ⟨gt, j, none⟩ = (#[.slice k1 evs.length c1, .slice k2 l.length c2] : Array Value)[j]?) ∧ (∀ j, wr.cell? ⟨gw, j, none⟩ = (#[.slice k3 evs.length c3, .slice k4 l.length c4] : Array Value)[j]?) := ⟨(HTb.out.kept hHB hgt).cell, (HWb.out.kept hHB hgw).cell⟩
        have HS2 := Lib.hid (show ∀ X, Below w4.heap.size w4 X → (∀ j, X.cell? ⟨gt, j, none⟩ = (#[.slice k1 evs.length c1, .slice k2 l.length c2] : Array Value)[j]?) ∧ (∀ j, X.cell? ⟨gw, j, none⟩ = (#[.slice k3 evs.length c3, .slice k4 l.length c4] : Array Value)[j]?) from fun X hX => ⟨(HTb.out.kept hX hgt).cell, (HWb.out.kept hX hgw).cell⟩)
        have D0 : Below w4.heap.size w4 wr.drew := hHB.drew
        clear hHB hB
        go_upto_region 15 with fail
        refine wp_region_ordN 14 [(0, true), (1, true), (2, false), (3, true), (4, true), (6, true), (5, false), (7, false), (8, false), (9, true), (10, true), (11, false), (12, true), (13, true)] (fun w' => (∀ j, w'.cell? ⟨gt, j, none⟩ = (#[.slice k1 evs.length c1, .slice k2 l.length c2] : Array Value)[j]?) ∧ (∀ j, w'.cell? ⟨gw, j, none⟩ = (#[.slice k3 evs.length c3, .slice k4 l.length c4] : Array Value)[j]?)) (by kernel_rfl) rfl rfl (by kernel_rfl) (HS2.out _ D0) ?_
        clear S0
        iterate 2 (refine wpOrd_take ?_ (by rfl) ?_ ?_; rotate_left; (intro w hSw; (try dsimp only at hSw); go_simp; try with_reducible rfl); (try simp only [Act.put, List.setIfInBounds_toArray, List.set_cons_zero, List.set_cons_succ]))
        refine wpOrd_move (fun K hK => ?_)
        go_simp
        go_at_call 22
        refine (sameT evs evs l l k1 c1 k2 c2 k3 c3 k4 c4 _ (Ht.out.kept D0) (Hw.out.kept D0)).mono ?_
        rintro e X1 ⟨rfl, F1⟩
        rw [show (decide (evs = evs) && decide (l = l)) = true from by rw [decide_eq_true rfl, decide_eq_true rfl]; rfl]
        have D1 := Below.then D0 F1
        refine hK.out _ _ (HS2.out _ D1) ?_
        clear hK K
        (try simp only [Act.put, List.setIfInBounds_toArray, List.set_cons_zero, List.set_cons_succ])
        iterate 3 (refine wpOrd_take ?_ (by rfl) ?_ ?_; rotate_left; (intro w hSw; (try dsimp only at hSw); go_simp; try with_reducible rfl); (try simp only [Act.put, List.setIfInBounds_toArray, List.set_cons_zero, List.set_cons_succ]))
        refine wpOrd_move (fun K hK => ?_)
        go_simp
        go_at_call 15
        refine (encodeF evs l _ _ X1 (Ht.out.kept D1).1 (Ht.out.kept D1).2 Hok.out Hev.out (by omega) (by omega)).mono ?_
        rintro e X2 ⟨u2, rfl, h2, F2⟩
        have D2 := Below.then D1 F2
        refine hK.out _ _ (HS2.out _ D2) ?_
        clear hK K
        (try simp only [Act.put, List.setIfInBounds_toArray, List.set_cons_zero, List.set_cons_succ])
        refine wpOrd_move (fun K hK => ?_)
        go_simp
        go_at_call 16
        refine (refEncodeF evs l _ _ X2 (Hw.out.kept D2).1 (Hw.out.kept D2).2 Hok.out Hev.out (by omega) (by omega)).mono ?_
        rintro e X3 ⟨u3, rfl, h3, F3⟩
        have D3 := Below.then D2 F3
        refine hK.out _ _ (HS2.out _ D3) ?_
        clear hK K
        (try simp only [Act.put, List.setIfInBounds_toArray, List.set_cons_zero, List.set_cons_succ])
        refine wpOrd_move (fun K hK => ?_)
        go_simp
        go_at_call 14
        refine (sameBy _ _ _ _ X3 (Flat.of_owns (owns_below h2 F3)) (Flat.of_owns h3)).mono ?_
        rintro e X4 ⟨rfl, F4⟩
        rw [decide_eq_true rfl]
        have D4 := Below.then D3 F4
        refine hK.out _ _ (HS2.out _ D4) ?_
        clear hK K
        (try simp only [Act.put, List.setIfInBounds_toArray, List.set_cons_zero, List.set_cons_succ])
        iterate 2 (refine wpOrd_take ?_ (by rfl) ?_ ?_; rotate_left; (intro w hSw; (try dsimp only at hSw); go_simp; try with_reducible rfl); (try simp only [Act.put, List.setIfInBounds_toArray, List.set_cons_zero, List.set_cons_succ]))
        refine wpOrd_move (fun K hK => ?_)
        go_simp
        go_at_call 17
        refine (livesF _).mono ?_
        rintro e X5 ⟨rfl, F5⟩
        have D5 := Below.then D4 F5
        refine hK.out _ _ (HS2.out _ D5) ?_
        clear hK K
        (try simp only [Act.put, List.setIfInBounds_toArray, List.set_cons_zero, List.set_cons_succ])
        iterate 2 (refine wpOrd_take ?_ (by rfl) ?_ ?_; rotate_left; (intro w hSw; (try dsimp only at hSw); go_simp; try with_reducible rfl); (try simp only [Act.put, List.setIfInBounds_toArray, List.set_cons_zero, List.set_cons_succ]))
        refine wpOrd_nil ?_
        go_wp2_with fail
        refine NoPanic.normal ?_
        go_wp2_with fail
        go_ret
        exact ⟨rfl, HB4.out.trans (D5.mono HB4.out.size)⟩
end Go.Proofs.Ytjdhcdbjfbhogaa
