/- TapeWith: the walk. (Printed by mkL9.py, then gen.py.) -/
import Derived.Test.YtjdhcdbjfbhogaaQ2
import Derived.Deep.CutRange
namespace Go.Proofs.Ytjdhcdbjfbhogaa
open Go.RowKit

theorem getA_i64 {l : List Ans} (h : ∀ a ∈ l, a.ok) {q : Qn} : InI64 (getA l q) := by
  rcases getA_in l q with e | ⟨b, hb, _, e⟩
  · rw [e]; unfold InI64; omega
  · have := (h b hb).2
    rw [e]
    unfold InI64 at this ⊢
    omega
theorem bne_self' (x : Int) : (x != x) = false := by simp
set_option maxHeartbeats 8000000 in
set_option maxRecDepth 100000 in
theorem lawWith (l0 m0 : List Int) (p q n k : Int) (vl vm : Value) (w : World) (hl : IntSl w vl l0) (hm : IntSl w vm m0) (okl : ∀ n ∈ l0, InI64 n) (okm : ∀ n ∈ m0, InI64 n) (hp : InI64 p) (hq : InI64 q) (hn : InI64 n) (hk : InI64 k) :
    Calls Try.prog 9 #[vl, vm, I p, I q, I n, I k] w fun e w' => e = .returned (.bool true) ∧ Below w.heap.size w w' := by
  have HT := Lib.hid (tapeT l0 m0 vl vm w hl hm okl okm)
  have hle := tapeEv_length l0
  have hll := tapeAns_length m0
  have Hok := Lib.hid (tapeAns_ok m0)
  clear hl hm okl okm
  generalize tapeEv l0 = evs at HT hle
  generalize tapeAns m0 = l at HT hll Hok
  have Hpa := Lib.hid (qOf_ok p)
  have Hpb := Lib.hid (qOf_ok q)
  go_enter Try.func9, Try.ntmps9
  go_wp2_with fail
  refine HT.out.mono ?_
  rintro e w1 ⟨k1, c1, k2, c2, rfl, ht1, B1⟩
  obtain ⟨hT, P1, z1⟩ := boxed w1 #[.slice k1 evs.length c1, .slice k2 l.length c2] 26
  go_wp2_with fail
  generalize w1.alloc (.cells #[.slice k1 evs.length c1, .slice k2 l.length c2] 26) = W1 at hT P1 z1 ⊢
  refine (questionC p W1 hp).mono ?_
  rintro e w2 ⟨rfl, B2⟩
  generalize qOf p = a at Hpa ⊢
  obtain ⟨hA, P2, z2⟩ := boxed w2 #[I a.node, I a.handler, I a.count, I a.kind, I a.index] 66
  go_wp2_with fail
  generalize w2.alloc (.cells #[I a.node, I a.handler, I a.count, I a.kind, I a.index] 66) = W2 at hA P2 z2 ⊢
  refine (questionC q W2 hq).mono ?_
  rintro e w3 ⟨rfl, B3⟩
  generalize qOf q = b at Hpb ⊢
  obtain ⟨hB, P3, z3⟩ := boxed w3 #[I b.node, I b.handler, I b.count, I b.kind, I b.index] 66
  go_wp2_with fail
  generalize w3.alloc (.cells #[I b.node, I b.handler, I b.count, I b.kind, I b.index] 66) = W3 at hB P3 z3 ⊢
  refine (around_any n 5 W3 (by omega) hn.1 hn.2).mono ?_
  rintro e w4 ⟨rfl, rfl⟩
  obtain ⟨x0, x5⟩ := around_range n 5 (by omega)
  generalize around n 5 = x at x0 x5 ⊢
  go_wp2_with fail
  refine (around_any k 5 W3 (by omega) hk.1 hk.2).mono ?_
  rintro e w4 ⟨rfl, rfl⟩
  obtain ⟨y0, y5⟩ := around_range k 5 (by omega)
  generalize around k 5 = y at y0 y5 ⊢
  have s1 := B1.size
  have s2 := B2.size
  have s3 := B3.size
  have hA3 := (hA.kept B3 (by omega)).kept P3 (by omega)
  have hT3 := (((hT.kept B2 (by omega)).kept P2 (by omega)).kept B3 (by omega)).kept P3 (by omega)
  have Q13 : Below w1.heap.size w1 W3 := Below.then (Below.then (Below.then (Below.then P1 B2) P2) B3) P3
  have ht3 := ht1.kept Q13
  have hw3 := Below.then B1 Q13
  have hxi : InI64 x := ⟨by omega, by omega⟩
  have hyi : InI64 y := ⟨by omega, by omega⟩
  have HW := Lib.hid (withT evs l k1 c1 k2 c2 a x W3 ht3 Hok.out Hpa.out hxi (by omega) (by omega))
  obtain ⟨lu, hlu⟩ : ∃ lu, lu = normA (putL l a x) := ⟨_, rfl⟩
  rw [← hlu] at HW
  have Hlu := Lib.hid hlu
  clear hlu
  have hcT := hT3.cell
  have hcA := hA3.cell
  go_wp2_with fail
  refine HW.out.mono ?_
  rintro e w5 ⟨k3, c3, k4, c4, rfl, hu5, B5⟩
  obtain ⟨hU, P6, z6⟩ := boxed w5 #[.slice k3 evs.length c3, .slice k4 lu.length c4] 26
  go_upto_region 7 with fail
  generalize w5.alloc (.cells #[.slice k3 evs.length c3, .slice k4 lu.length c4] 26) = w6 at hU P6 z6 ⊢
  have s5 := B5.size
  have hT6 := (hT3.kept B5 (by omega)).kept P6 (by omega)
  have hA6 := (hA3.kept B5 (by omega)).kept P6 (by omega)
  have hB6 := (hB.kept B5 (by omega)).kept P6 (by omega)
  have Q36 := Below.then B5 P6
  have hw6 := Below.then hw3 Q36
  have Ht := Lib.hid (ht3.kept Q36)
  have Hu := Lib.hid (hu5.kept P6)
  have s6 := hw6.size
  obtain ⟨gt, egt⟩ : ∃ g, g = w1.heap.size := ⟨_, rfl⟩
  obtain ⟨ga, ega⟩ : ∃ g, g = w2.heap.size := ⟨_, rfl⟩
  obtain ⟨gb, egb⟩ : ∃ g, g = w3.heap.size := ⟨_, rfl⟩
  obtain ⟨gu, egu⟩ : ∃ g, g = w5.heap.size := ⟨_, rfl⟩
  rw [← egt] at hT6 ⊢
  rw [← ega] at hA6 ⊢
  rw [← egb] at hB6 ⊢
  rw [← egu] at hU ⊢
  have HS := Lib.hid (show ∀ X, Below w6.heap.size w6 X → (∀ j, X.cell? ⟨gt, j, none⟩ = (#[.slice k1 evs.length c1, .slice k2 l.length c2] : Array Value)[j]?) ∧ (∀ j, X.cell? ⟨ga, j, none⟩ = (#[I a.node, I a.handler, I a.count, I a.kind, I a.index] : Array Value)[j]?) ∧ (∀ j, X.cell? ⟨gb, j, none⟩ = (#[I b.node, I b.handler, I b.count, I b.kind, I b.index] : Array Value)[j]?) ∧ (∀ j, X.cell? ⟨gu, j, none⟩ = (#[.slice k3 evs.length c3, .slice k4 lu.length c4] : Array Value)[j]?) from fun X hX => ⟨(hT6.kept hX hT6.lt).cell, (hA6.kept hX hA6.lt).cell, (hB6.kept hX hB6.lt).cell, (hU.kept hX hU.lt).cell⟩)
  have hluok : ∀ c ∈ lu, c.ok := by rw [Hlu.out]; exact putL_ok Hok.out Hpa.out hxi
  have hlul : lu.length ≤ 11 := by rw [Hlu.out]; have := putL_length l a x; omega
  have Hluok := Lib.hid hluok
  have Hw6 := Lib.hid hw6
  clear hT hA hB hU hT6 hA6 hB6 hT3 hA3 hcT hcA P1 P2 P3 P6 B1 B2 B3 B5 Q13 Q36 ht1 ht3 hu5 hw3 hw6 hluok HW z1 z2 z3 z6 s1 s2 s3 s5 egt ega egb egu HT
  have gu1 : getA lu a = x := by rw [Hlu.out, getA_put, if_pos rfl]; omega
  have Hgl := getA_nonneg l a
  have Hgi : InI64 (getA l a) := getA_i64 Hok.out
  have Cw : Below w6.heap.size w6 w6 := Below.refl _ _
  have D0 : Below w6.heap.size w6 w6.drew := Cw.drew
  refine wp_region_ordN 24 [(0, true), (1, true), (3, true), (2, false), (4, true), (5, true), (6, true), (7, true), (8, true), (10, true), (12, true), (9, false), (11, false), (13, true), (14, true), (15, true), (16, true), (17, true), (18, true), (19, true), (20, true), (21, true), (22, true), (23, true)] (fun w' => (∀ j, w'.cell? ⟨gt, j, none⟩ = (#[.slice k1 evs.length c1, .slice k2 l.length c2] : Array Value)[j]?) ∧ (∀ j, w'.cell? ⟨ga, j, none⟩ = (#[I a.node, I a.handler, I a.count, I a.kind, I a.index] : Array Value)[j]?) ∧ (∀ j, w'.cell? ⟨gb, j, none⟩ = (#[I b.node, I b.handler, I b.count, I b.kind, I b.index] : Array Value)[j]?) ∧ (∀ j, w'.cell? ⟨gu, j, none⟩ = (#[.slice k3 evs.length c3, .slice k4 lu.length c4] : Array Value)[j]?)) (by kernel_rfl) rfl rfl (by kernel_rfl) (HS.out _ D0) ?_
  iterate 3 (refine wpOrd_take ?_ (by rfl) ?_ ?_; rotate_left; (intro w hSw; (try dsimp only at hSw); go_simp; try with_reducible rfl); (try simp only [Act.put, List.setIfInBounds_toArray, List.set_cons_zero, List.set_cons_succ]))
  refine wpOrd_move (fun K hK => ?_)
  go_simp
  go_at_call 36
  refine (getT evs lu k3 c3 k4 c4 a _ (Hu.out.kept D0) Hluok.out Hpa.out (by omega)).mono ?_
  rintro e X1 ⟨rfl, F1⟩
  have D1 := Below.then D0 F1
  rw [gu1]
  refine hK.out _ _ (HS.out _ D1) ?_
  clear hK K
  (try simp only [Act.put, List.setIfInBounds_toArray, List.set_cons_zero, List.set_cons_succ])
  iterate 7 (refine wpOrd_take ?_ (by rfl) ?_ ?_; rotate_left; (intro w hSw; (try dsimp only at hSw); go_simp; try with_reducible rfl); (try simp only [Act.put, List.setIfInBounds_toArray, List.set_cons_zero, List.set_cons_succ]))
  refine wpOrd_move (fun K hK => ?_)
  go_simp
  go_at_call 38
  refine (withT evs lu k3 c3 k4 c4 a y _ (Hu.out.kept D1) Hluok.out Hpa.out hyi (by omega) (by omega)).mono ?_
  rintro e X2 ⟨k5, c5, k6, c6, rfl, hx2, F2⟩
  have D2 := Below.then D1 F2
  refine hK.out _ _ (HS.out _ D2) ?_
  clear hK K
  (try simp only [Act.put, List.setIfInBounds_toArray, List.set_cons_zero, List.set_cons_succ])
  refine wpOrd_move (fun K hK => ?_)
  go_simp
  go_at_call 36
  refine (getT evs (normA (putL lu a y)) k5 c5 k6 c6 a _ hx2 (putL_ok Hluok.out Hpa.out hyi) Hpa.out (by have := putL_length lu a y; omega)).mono ?_
  rintro e X3 ⟨rfl, F3⟩
  have D3 := Below.then D2 F3
  rw [show getA (normA (putL lu a y)) a = y from by rw [getA_put, if_pos rfl]; omega]
  refine hK.out _ _ (HS.out _ D3) ?_
  clear hK K
  (try simp only [Act.put, List.setIfInBounds_toArray, List.set_cons_zero, List.set_cons_succ])
  iterate 11 (refine wpOrd_take ?_ (by rfl) ?_ ?_; rotate_left; (intro w hSw; (try dsimp only at hSw); go_simp; try with_reducible rfl); (try simp only [Act.put, List.setIfInBounds_toArray, List.set_cons_zero, List.set_cons_succ]))
  refine wpOrd_nil ?_
  go_wp2_with fail
  refine NoPanic.normal ?_
  go_upto_region 9 with fail
  have hneg : IntKind.i64.wrap (-x) = -x := by rw [IntKind.wrap_i64]; omega
  have Ca : Below w6.heap.size w6 X3 := D3
  clear D0 D1 D2 D3 F1 F2 F3 hx2
  have D0 : Below w6.heap.size w6 X3.drew := Ca.drew
  refine wp_region_ordN 19 [(0, true), (1, true), (2, true), (3, true), (6, true), (4, false), (5, false), (7, false), (8, true), (9, true), (10, true), (11, true), (12, true), (13, true), (15, true), (14, false), (16, false), (17, true), (18, true)] (fun w' => (∀ j, w'.cell? ⟨gt, j, none⟩ = (#[.slice k1 evs.length c1, .slice k2 l.length c2] : Array Value)[j]?) ∧ (∀ j, w'.cell? ⟨ga, j, none⟩ = (#[I a.node, I a.handler, I a.count, I a.kind, I a.index] : Array Value)[j]?) ∧ (∀ j, w'.cell? ⟨gb, j, none⟩ = (#[I b.node, I b.handler, I b.count, I b.kind, I b.index] : Array Value)[j]?) ∧ (∀ j, w'.cell? ⟨gu, j, none⟩ = (#[.slice k3 evs.length c3, .slice k4 lu.length c4] : Array Value)[j]?)) (by kernel_rfl) rfl rfl (by kernel_rfl) (HS.out _ D0) ?_
  iterate 5 (refine wpOrd_take ?_ (by rfl) ?_ ?_; rotate_left; (intro w hSw; (try dsimp only at hSw); go_simp; try with_reducible rfl); (try simp only [Act.put, List.setIfInBounds_toArray, List.set_cons_zero, List.set_cons_succ]))
  refine wpOrd_move (fun K hK => ?_)
  go_simp
  go_at_call 36
  refine (getT evs l k1 c1 k2 c2 a _ (Ht.out.kept D0) Hok.out Hpa.out (by omega)).mono ?_
  rintro e X1 ⟨rfl, F1⟩
  have D1 := Below.then D0 F1
  refine hK.out _ _ (HS.out _ D1) ?_
  clear hK K
  (try simp only [Act.put, List.setIfInBounds_toArray, List.set_cons_zero, List.set_cons_succ])
  refine wpOrd_move (fun K hK => ?_)
  go_simp
  go_at_call 38
  refine (withT evs lu k3 c3 k4 c4 a (getA l a) _ (Hu.out.kept D1) Hluok.out Hpa.out Hgi (by omega) (by omega)).mono ?_
  rintro e X2 ⟨k5, c5, k6, c6, rfl, hx2, F2⟩
  have D2 := Below.then D1 F2
  refine hK.out _ _ (HS.out _ D2) ?_
  clear hK K
  (try simp only [Act.put, List.setIfInBounds_toArray, List.set_cons_zero, List.set_cons_succ])
  refine wpOrd_move (fun K hK => ?_)
  go_simp
  go_at_call 34
  refine (equalT evs evs _ l k5 c5 k6 c6 k1 c1 k2 c2 _ hx2 (Ht.out.kept D2) (putL_ok Hluok.out Hpa.out Hgi) Hok.out (by have := putL_length lu a (getA l a); omega) (by omega)).mono ?_
  rintro e X3 ⟨rfl, F3⟩
  have D3 := Below.then D2 F3
  rw [show (decide (evs = evs) && decide (normA (normA (putL lu a (getA l a))) = normA l)) = true from by rw [decide_eq_true rfl, Hlu.out, decide_eq_true (norm_back l a x)]; rfl]
  refine hK.out _ _ (HS.out _ D3) ?_
  clear hK K
  (try simp only [Act.put, List.setIfInBounds_toArray, List.set_cons_zero, List.set_cons_succ])
  iterate 7 (refine wpOrd_take ?_ (by rfl) ?_ ?_; rotate_left; (intro w hSw; (try dsimp only at hSw); go_simp; try with_reducible rfl); (try simp only [Act.put, List.setIfInBounds_toArray, List.set_cons_zero, List.set_cons_succ]))
  refine wpOrd_move (fun K hK => ?_)
  go_simp
  go_at_call 38
  refine (withT evs l k1 c1 k2 c2 a (-x) _ (Ht.out.kept D3) Hok.out Hpa.out ⟨by omega, by omega⟩ (by omega) (by omega)).mono ?_
  rintro e X4 ⟨k7, c7, k8, c8, rfl, hx4, F4⟩
  have D4 := Below.then D3 F4
  refine hK.out _ _ (HS.out _ D4) ?_
  clear hK K
  (try simp only [Act.put, List.setIfInBounds_toArray, List.set_cons_zero, List.set_cons_succ])
  refine wpOrd_move (fun K hK => ?_)
  go_simp
  go_at_call 36
  refine (getT evs (normA (putL l a (-x))) k7 c7 k8 c8 a _ hx4 (putL_ok Hok.out Hpa.out ⟨by omega, by omega⟩) Hpa.out (by have := putL_length l a (-x); omega)).mono ?_
  rintro e X5 ⟨rfl, F5⟩
  have D5 := Below.then D4 F5
  rw [show getA (normA (putL l a (-x))) a = 0 from by rw [getA_put, if_pos rfl]; omega]
  refine hK.out _ _ (HS.out _ D5) ?_
  clear hK K
  (try simp only [Act.put, List.setIfInBounds_toArray, List.set_cons_zero, List.set_cons_succ])
  iterate 2 (refine wpOrd_take ?_ (by rfl) ?_ ?_; rotate_left; (intro w hSw; (try dsimp only at hSw); go_simp; try with_reducible rfl); (try simp only [Act.put, List.setIfInBounds_toArray, List.set_cons_zero, List.set_cons_succ]))
  refine wpOrd_nil ?_
  go_wp2_with fail
  refine NoPanic.normal ?_
  obtain ⟨t1, t2, t3, t4⟩ := HS.out _ D5
  have Cb := D5
  clear D0 D1 D2 D3 D4 D5 F1 F2 F3 F4 F5 hx2 hx4 Ca
  have heqq := fun W => run_neq_66 a.node a.handler a.count a.kind a.index b.node b.handler b.count b.kind b.index W
  obtain ⟨ee, hee⟩ : ∃ ee : Bool, ee = eqL [a.node, a.handler, a.count, a.kind, a.index] [b.node, b.handler, b.count, b.kind, b.index] := ⟨_, rfl⟩
  rw [← hee] at heqq
  have Hee := Lib.hid hee
  clear hee
  go_upto_if 81 with fail
  go_cut [] from 82 (fun wd => Below w6.heap.size w6 wd)
  case first =>
    cases ee with
    | true =>
      go_wp2_with fail
      go_meet
      exact Cb
    | false =>
      have hne : a ≠ b := fun e => by
        have := Hee.out
        rw [e, eqL_true rfl] at this
        cases this
      have Hne := Lib.hid hne
      have gub : getA lu b = getA l b := by rw [Hlu.out, getA_put, if_neg hne]
      clear hne
      go_upto_region 12 with fail
      have Cd := Cb
      clear t1 t2 t3 t4
      have D0 : Below w6.heap.size w6 X5.drew := Cd.drew
      refine wp_region_ordN 22 [(0, true), (1, true), (3, true), (4, true), (2, false), (5, false), (6, true), (7, true), (8, true), (9, true), (10, true), (12, true), (13, true), (14, true), (16, true), (17, true), (11, false), (15, false), (18, false), (19, false), (20, true), (21, true)] (fun w' => (∀ j, w'.cell? ⟨gt, j, none⟩ = (#[.slice k1 evs.length c1, .slice k2 l.length c2] : Array Value)[j]?) ∧ (∀ j, w'.cell? ⟨ga, j, none⟩ = (#[I a.node, I a.handler, I a.count, I a.kind, I a.index] : Array Value)[j]?) ∧ (∀ j, w'.cell? ⟨gb, j, none⟩ = (#[I b.node, I b.handler, I b.count, I b.kind, I b.index] : Array Value)[j]?) ∧ (∀ j, w'.cell? ⟨gu, j, none⟩ = (#[.slice k3 evs.length c3, .slice k4 lu.length c4] : Array Value)[j]?)) (by kernel_rfl) rfl rfl (by kernel_rfl) (HS.out _ D0) ?_
      iterate 4 (refine wpOrd_take ?_ (by rfl) ?_ ?_; rotate_left; (intro w hSw; (try dsimp only at hSw); go_simp; try with_reducible rfl); (try simp only [Act.put, List.setIfInBounds_toArray, List.set_cons_zero, List.set_cons_succ]))
      refine wpOrd_move (fun K hK => ?_)
      go_simp
      go_at_call 36
      refine (getT evs lu k3 c3 k4 c4 b _ (Hu.out.kept D0) Hluok.out Hpb.out (by omega)).mono ?_
      rintro e X1 ⟨rfl, F1⟩
      have D1 := Below.then D0 F1
      rw [gub]
      refine hK.out _ _ (HS.out _ D1) ?_
      clear hK K
      (try simp only [Act.put, List.setIfInBounds_toArray, List.set_cons_zero, List.set_cons_succ])
      refine wpOrd_move (fun K hK => ?_)
      go_simp
      go_at_call 36
      refine (getT evs l k1 c1 k2 c2 b _ (Ht.out.kept D1) Hok.out Hpb.out (by omega)).mono ?_
      rintro e X2 ⟨rfl, F2⟩
      have D2 := Below.then D1 F2
      refine hK.out _ _ (HS.out _ D2) ?_
      clear hK K
      (try simp only [Act.put, List.setIfInBounds_toArray, List.set_cons_zero, List.set_cons_succ])
      iterate 10 (refine wpOrd_take ?_ (by rfl) ?_ ?_; rotate_left; (intro w hSw; (try dsimp only at hSw); go_simp; try with_reducible rfl); (try simp only [Act.put, List.setIfInBounds_toArray, List.set_cons_zero, List.set_cons_succ]))
      refine wpOrd_move (fun K hK => ?_)
      go_simp
      go_at_call 38
      refine (withT evs lu k3 c3 k4 c4 b y _ (Hu.out.kept D2) Hluok.out Hpb.out hyi (by omega) (by omega)).mono ?_
      rintro e X3 ⟨k5, c5, k6, c6, rfl, hx3, F3⟩
      have D3 := Below.then D2 F3
      refine hK.out _ _ (HS.out _ D3) ?_
      clear hK K
      (try simp only [Act.put, List.setIfInBounds_toArray, List.set_cons_zero, List.set_cons_succ])
      refine wpOrd_move (fun K hK => ?_)
      go_simp
      go_at_call 38
      refine (withT evs l k1 c1 k2 c2 b y _ (Ht.out.kept D3) Hok.out Hpb.out hyi (by omega) (by omega)).mono ?_
      rintro e X4 ⟨k7, c7, k8, c8, rfl, hx4, F4⟩
      have D4 := Below.then D3 F4
      have hx3 := hx3.kept F4
      refine hK.out _ _ (HS.out _ D4) ?_
      clear hK K
      (try simp only [Act.put, List.setIfInBounds_toArray, List.set_cons_zero, List.set_cons_succ])
      refine wpOrd_move (fun K hK => ?_)
      go_simp
      go_at_call 38
      refine (withT evs (normA (putL l b y)) k7 c7 k8 c8 a x _ hx4 (putL_ok Hok.out Hpb.out hyi) Hpa.out hxi (by omega) (by have := putL_length l b y; omega)).mono ?_
      rintro e X5 ⟨k9, c9, k10, c10, rfl, hx5, F5⟩
      have D5 := Below.then D4 F5
      have hx3 := hx3.kept F5
      refine hK.out _ _ (HS.out _ D5) ?_
      clear hK K
      (try simp only [Act.put, List.setIfInBounds_toArray, List.set_cons_zero, List.set_cons_succ])
      refine wpOrd_move (fun K hK => ?_)
      go_simp
      go_at_call 34
      refine (equalT evs evs _ _ k5 c5 k6 c6 k9 c9 k10 c10 _ hx3 hx5 (putL_ok Hluok.out Hpb.out hyi) (putL_ok (putL_ok Hok.out Hpb.out hyi) Hpa.out hxi) (by have := putL_length lu b y; omega) (by have := putL_length (normA (putL l b y)) a x; have := putL_length l b y; omega)).mono ?_
      rintro e X6 ⟨rfl, F6⟩
      have D6 := Below.then D5 F6
      rw [show (decide (evs = evs) && decide (normA (normA (putL lu b y)) = normA (normA (putL (normA (putL l b y)) a x)))) = true from by rw [decide_eq_true rfl, Hlu.out, decide_eq_true (norm_comm l (Ne.symm Hne.out |>.symm) x y)]; rfl]
      refine hK.out _ _ (HS.out _ D6) ?_
      clear hK K
      (try simp only [Act.put, List.setIfInBounds_toArray, List.set_cons_zero, List.set_cons_succ])
      iterate 2 (refine wpOrd_take ?_ (by rfl) ?_ ?_; rotate_left; (intro w hSw; (try dsimp only at hSw); go_simp; try with_reducible rfl); (try simp only [Act.put, List.setIfInBounds_toArray, List.set_cons_zero, List.set_cons_succ]))
      refine wpOrd_nil ?_
      go_wp2_with fail
      refine NoPanic.normal ?_
      go_wp2_with fail
      go_meet
      exact D6
  case rest =>
    clear t1 t2 t3 t4 Cb heqq
    have hnu : normA lu = lu := by rw [Hlu.out, normA_idem]
    have hcount := length_put l a x
    rw [← Hlu.out] at hcount
    have HP1 := Lib.hid (fun X (hX : Below w6.heap.size w6 X) => partsT evs l k1 c1 k2 c2 X (Ht.out.kept hX) Hok.out (by omega) (by omega))
    have HP2 := Lib.hid (fun X (hX : Below w6.heap.size w6 X) => partsT evs lu k3 c3 k4 c4 X (Hu.out.kept hX) Hluok.out (by omega) (by omega))
    rw [hnu] at HP2
    obtain ⟨N1, hN1⟩ : ∃ N, N = evs.length + (normA l).length := ⟨_, rfl⟩
    obtain ⟨N2, hN2⟩ : ∃ N, N = evs.length + lu.length := ⟨_, rfl⟩
    have hnl := normA_length l
    have hN1b : N1 ≤ 100 := by omega
    rw [← hN1] at HP1
    rw [← hN2] at HP2
    have hcc : N2 + (if 0 < getA l a then 1 else 0) = N1 + (if 0 < x then 1 else 0) := by omega
    clear hcount hN1 hN2 hnu hnl
    have HG := Lib.hid (getT evs l k1 c1 k2 c2 a wc (Ht.out.kept hcut) Hok.out Hpa.out (by omega))
    generalize getA l a = g at HG hcc
    obtain ⟨t1, t2, t3, t4⟩ := HS.out _ hcut
    have Hcut := Lib.hid hcut
    clear hcut Hgl Hgi gu1 Cw
    have Hcc := Lib.hid hcc
    clear hcc
    by_cases hg : 0 < g
    · by_cases hx : x = 0
      · have hcc : N2 + 1 = N1 := by have := Hcc.out; rw [if_pos hg, if_neg (by omega)] at this; omega
        go_wp2_with fail
        refine HG.out.mono ?_
        rintro e Z1 ⟨rfl, F1⟩
        have D1 := Below.then Hcut.out F1
        obtain ⟨u1, u2, u3, u4⟩ := HS.out _ D1
        go_wp2_with fail
        refine (HP1.out _ D1).mono ?_
        rintro e Z2 ⟨rfl, F2⟩
        have D2 := Below.then D1 F2
        obtain ⟨v1, v2, v3, v4⟩ := HS.out _ D2
        go_wp2_with fail
        refine (HP2.out _ D2).mono ?_
        rintro e Z3 ⟨rfl, F3⟩
        have D3 := Below.then D2 F3
        go_wp2_with fail
        refine (livesF _).mono ?_
        rintro e Z4 ⟨rfl, F4⟩
        have D4 := Below.then D3 F4
        go_wp2_with fail
        go_ret
        exact ⟨rfl, Hw6.out.trans (D4.mono s6)⟩
      · have hx1 : 0 < x := by omega
        have hcc : N2 = N1 := by have := Hcc.out; rw [if_pos hg, if_pos hx1] at this; omega
        go_wp2_with fail
        refine HG.out.mono ?_
        rintro e Z1 ⟨rfl, F1⟩
        have D1 := Below.then Hcut.out F1
        obtain ⟨u1, u2, u3, u4⟩ := HS.out _ D1
        go_wp2_with fail
        refine (HP1.out _ D1).mono ?_
        rintro e Z2 ⟨rfl, F2⟩
        have D2 := Below.then D1 F2
        obtain ⟨v1, v2, v3, v4⟩ := HS.out _ D2
        go_wp2_with fail
        refine (HP2.out _ D2).mono ?_
        rintro e Z3 ⟨rfl, F3⟩
        have D3 := Below.then D2 F3
        go_wp2_with fail
        refine (livesF _).mono ?_
        rintro e Z4 ⟨rfl, F4⟩
        have D4 := Below.then D3 F4
        go_wp2_with fail
        go_ret
        exact ⟨rfl, Hw6.out.trans (D4.mono s6)⟩
    · by_cases hx : x = 0
      · have hcc : N2 = N1 := by have := Hcc.out; rw [if_neg hg, if_neg (by omega)] at this; omega
        go_wp2_with fail
        refine HG.out.mono ?_
        rintro e Z1 ⟨rfl, F1⟩
        have D1 := Below.then Hcut.out F1
        obtain ⟨u1, u2, u3, u4⟩ := HS.out _ D1
        go_wp2_with fail
        refine (HP1.out _ D1).mono ?_
        rintro e Z2 ⟨rfl, F2⟩
        have D2 := Below.then D1 F2
        obtain ⟨v1, v2, v3, v4⟩ := HS.out _ D2
        go_wp2_with fail
        refine (HP2.out _ D2).mono ?_
        rintro e Z3 ⟨rfl, F3⟩
        have D3 := Below.then D2 F3
        go_wp2_with fail
        refine (livesF _).mono ?_
        rintro e Z4 ⟨rfl, F4⟩
        have D4 := Below.then D3 F4
        go_wp2_with fail
        go_ret
        exact ⟨rfl, Hw6.out.trans (D4.mono s6)⟩
      · have hx1 : 0 < x := by omega
        have hcc : N2 = N1 + 1 := by have := Hcc.out; rw [if_neg hg, if_pos hx1] at this; omega
        go_wp2_with fail
        refine HG.out.mono ?_
        rintro e Z1 ⟨rfl, F1⟩
        have D1 := Below.then Hcut.out F1
        obtain ⟨u1, u2, u3, u4⟩ := HS.out _ D1
        go_wp2_with fail
        refine (HP1.out _ D1).mono ?_
        rintro e Z2 ⟨rfl, F2⟩
        have D2 := Below.then D1 F2
        obtain ⟨v1, v2, v3, v4⟩ := HS.out _ D2
        go_wp2_with fail
        refine (HP2.out _ D2).mono ?_
        rintro e Z3 ⟨rfl, F3⟩
        have D3 := Below.then D2 F3
        go_wp2_with fail
        refine (livesF _).mono ?_
        rintro e Z4 ⟨rfl, F4⟩
        have D4 := Below.then D3 F4
        go_wp2_with fail
        go_ret
        exact ⟨rfl, Hw6.out.trans (D4.mono s6)⟩

end Go.Proofs.Ytjdhcdbjfbhogaa
