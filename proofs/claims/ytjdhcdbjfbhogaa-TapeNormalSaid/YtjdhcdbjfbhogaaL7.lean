/- TapeNormal: the walk. (Printed by mkL7.py, then gen.py.) -/
import Derived.Test.YtjdhcdbjfbhogaaX11
import Derived.Test.YtjdhcdbjfbhogaaF5
import Derived.Deep.CutRange
namespace Go.Proofs.Ytjdhcdbjfbhogaa
open Go.RowKit

theorem bne_same (x : Int) : (x != x) = false := by simp

set_option maxHeartbeats 8000000 in
set_option maxRecDepth 100000 in
theorem lawNormal (l0 m0 : List Int) (re : List Ev) (ra : List Ans) (q : Qn) (n pk : Int) (vl vm : Value) (kr : Option Addr) (cr : Nat) (kr2 : Option Addr) (cr2 : Nat) (w : World) (hl : IntSl w vl l0) (hm : IntSl w vm m0) (hr : TapeIn w kr cr kr2 cr2 re ra) (hc1 : re.length ≤ cr) (hc2 : ra.length ≤ cr2)
    (okl : ∀ n ∈ l0, InI64 n) (okm : ∀ n ∈ m0, InI64 n) (oke : ∀ e ∈ re, e.ok) (oka : ∀ a ∈ ra, a.ok) (hq : q.ok) (hn : InI64 n) (hpk : InI64 pk) :
    Calls Try.prog 7 #[vl, vm, tv kr cr kr2 cr2 re ra, qv q, I n, I pk] w fun e w' => e = .returned (.bool true) ∧ Below w.heap.size w w' := by
  have HT := Lib.hid (fun (W : World) (hW : Below w.heap.size w W) => tapeT l0 m0 vl vm W (hl.kept hW (Nat.le_refl _)) (hm.kept hW (Nat.le_refl _)) okl okm)
  have HC := Lib.hid (fun (W : World) (hW : Below w.heap.size w W) => cutC re ra kr cr kr2 cr2 W (hr.kept hW) hc1 hc2)
  have hle := tapeEv_length l0
  have hll := tapeAns_length m0
  have hle2 : (re.take 6).length ≤ 6 := by rw [List.length_take]; omega
  have hll2 : (ra.take 6).length ≤ 6 := by rw [List.length_take]; omega
  have Hok := Lib.hid (tapeAns_ok m0)
  have Hev := Lib.hid (tapeEv_ok l0)
  have Hok2 := Lib.hid (show ∀ a ∈ ra.take 6, a.ok from fun a ha => oka a (List.mem_of_mem_take ha))
  have Hev2 := Lib.hid (show ∀ a ∈ re.take 6, a.ok from fun a ha => oke a (List.mem_of_mem_take ha))
  have Hq := Lib.hid hq
  have Hn := Lib.hid hn
  have Hpk := Lib.hid hpk
  clear hl hm okl okm hr oke oka hq hn hpk
  generalize tapeEv l0 = evs at HT hle Hev
  generalize tapeAns m0 = l at HT hll Hok
  generalize re.take 6 = evs2 at HC hle2 Hev2
  generalize ra.take 6 = l2 at HC hll2 Hok2
  have B0 : Below w.heap.size w ((w.alloc (.cells #[.slice kr re.length cr, .slice kr2 ra.length cr2] 26)).alloc (.cells #[I q.node, I q.handler, I q.count, I q.kind, I q.index] 66)) := (by repeat (first | exact Below.refl _ _ | assumption | refine Below.drew ?_ | refine below_drewN ?_ _ | refine Below.alloc ?_ (by simp <;> omega) _ | refine Below.setCell ?_ (by simp <;> omega) _))
  have hR : Blk ((w.alloc (.cells #[.slice kr re.length cr, .slice kr2 ra.length cr2] 26)).alloc (.cells #[I q.node, I q.handler, I q.count, I q.kind, I q.index] 66)) w.heap.size #[.slice kr re.length cr, .slice kr2 ra.length cr2] := (Blk.new _ _ _).alloc _
  have hQ : Blk ((w.alloc (.cells #[.slice kr re.length cr, .slice kr2 ra.length cr2] 26)).alloc (.cells #[I q.node, I q.handler, I q.count, I q.kind, I q.index] 66)) (w.heap.size + 1) #[I q.node, I q.handler, I q.count, I q.kind, I q.index] := ⟨_, heap_alloc2_new w _ _⟩
  go_enter Try.func7, Try.ntmps7
  go_upto_region 1 with fail
  generalize (w.alloc (.cells #[.slice kr re.length cr, .slice kr2 ra.length cr2] 26)).alloc (.cells #[I q.node, I q.handler, I q.count, I q.kind, I q.index] 66) = w0 at B0 hR hQ ⊢
  obtain ⟨gr, egr⟩ : ∃ g, g = w.heap.size := ⟨_, rfl⟩
  obtain ⟨gq, egq⟩ : ∃ g, g = w.heap.size + 1 := ⟨_, rfl⟩
  rw [← egq] at hQ ⊢
  rw [← egr] at hR ⊢
  have hgr := hR.lt
  have hgq := hQ.lt
  have D0 : Below w0.heap.size w0 w0.drew := (Below.refl _ _).drew
  have HS := Lib.hid (show ∀ X, Below w0.heap.size w0 X → (∀ j, X.cell? ⟨gr, j, none⟩ = (#[.slice kr re.length cr, .slice kr2 ra.length cr2] : Array Value)[j]?) from fun X hX => (hR.kept hX hR.lt).cell)
  have HQ0 := Lib.hid hQ
  clear hR hQ egr egq
  refine wp_region_ordN 7 [(0, true), (1, true), (3, true), (2, false), (4, false), (5, false), (6, true)] (fun w' => (∀ j, w'.cell? ⟨gr, j, none⟩ = (#[.slice kr re.length cr, .slice kr2 ra.length cr2] : Array Value)[j]?)) (by kernel_rfl) rfl rfl (by kernel_rfl) (HS.out _ D0) ?_
  iterate 3 (refine wpOrd_take ?_ (by rfl) ?_ ?_; rotate_left; (intro w hSw; (try dsimp only at hSw); go_simp; try with_reducible rfl); (try simp only [Act.put, List.setIfInBounds_toArray, List.set_cons_zero, List.set_cons_succ]))
  refine wpOrd_move (fun K hK => ?_)
  go_simp
  go_at_call 12
  refine (HT.out _ (B0.trans (D0.mono B0.size))).mono ?_
  rintro e X1 ⟨k1, c1, k2, c2, rfl, ht1, F⟩
  have D1 := Below.then D0 F
  refine hK.out _ _ (HS.out _ D1) ?_
  clear hK K
  (try simp only [Act.put, List.setIfInBounds_toArray, List.set_cons_zero, List.set_cons_succ])
  refine wpOrd_move (fun K hK => ?_)
  go_simp
  go_at_call 13
  refine (HC.out _ (B0.trans (D1.mono B0.size))).mono ?_
  rintro e X2 ⟨k3, c3, k4, c4, rfl, hw2, F⟩
  have D2 := Below.then D1 F
  refine hK.out _ _ (HS.out _ D2) ?_
  clear hK K
  (try simp only [Act.put, List.setIfInBounds_toArray, List.set_cons_zero, List.set_cons_succ])
  have ht2 := ht1.kept F
  obtain ⟨hab, F, zb⟩ := boxed X2 #[.slice k1 evs.length c1, .slice k2 l.length c2, .slice k3 evs2.length c3, .slice k4 l2.length c4] 26
  have D3 := Below.then D2 F
  refine wpOrd_move (fun K hK => ?_)
  go_simp
  refine hK.out _ _ (HS.out _ D3) ?_
  clear hK K
  (try simp only [Act.put, List.setIfInBounds_toArray, List.set_cons_zero, List.set_cons_succ])
  (refine wpOrd_take ?_ (by rfl) ?_ ?_; rotate_left; (intro w hSw; (try dsimp only at hSw); go_simp; try with_reducible rfl); (try simp only [Act.put, List.setIfInBounds_toArray, List.set_cons_zero, List.set_cons_succ]))
  refine wpOrd_nil ?_
  go_wp2_with fail
  refine NoPanic.normal ?_
  have hel : ∀ i, i < 2 → ∃ xa ya xb yb E L, TapeEl (X2.alloc (.cells #[.slice k1 evs.length c1, .slice k2 l.length c2, .slice k3 evs2.length c3, .slice k4 l2.length c4] 26)) X2.heap.size i xa ya xb yb E L := fun i hi => by
    have : i = 0 ∨ i = 1 := by omega
    rcases this with rfl | rfl
    · exact ⟨k1, c1, k2, c2, evs, l, ⟨hab.cell 0, hab.cell 1⟩, ht2.kept F, ⟨Hev.out, Hok.out⟩, by omega⟩
    · exact ⟨k3, c3, k4, c4, evs2, l2, ⟨hab.cell 2, hab.cell 3⟩, hw2.kept F, ⟨Hev2.out, Hok2.out⟩, by omega⟩
  have he0 := ht2.kept F
  have he1 := hw2.kept F
  obtain ⟨ga, ega⟩ : ∃ g, g = X2.heap.size := ⟨_, rfl⟩
  go_upto_region 2 with fail
  rw [← ega] at hel hab ⊢
  have hw3 := B0.trans (D3.mono B0.size)
  have hQ3 := HQ0.out.kept D3 hgq
  generalize X2.alloc (.cells #[.slice k1 evs.length c1, .slice k2 l.length c2, .slice k3 evs2.length c3, .slice k4 l2.length c4] 26) = w3 at hel hw3 hab he0 he1 hQ3 ⊢
  have Hel := Lib.hid hel
  have Hw3 := Lib.hid hw3
  have Hab := Lib.hid hab
  have He0 := Lib.hid he0
  have He1 := Lib.hid he1
  have HQ3 := Lib.hid hQ3
  have hgqw := hQ3.lt
  have hgaw := hab.lt
  clear hel hw3 ega hab F zb D3 D2 D1 D0 ht1 ht2 hw2 HS HT HC B0 hgr he0 he1 HQ0 hgq hQ3
  go_wp2_with fail
  go_loopw [14] (fun i wr => ∃ (i0 : Nat), i0 ≤ 2 ∧ i = .int .i64 i0 ∧ Hid (Below w3.heap.size w3 wr)) (fun i _ => 2 - (intOf i).toNat)
  case atStart => exact ⟨0, by omega, rfl, Lib.hid (Below.refl _ _)⟩
  case round =>
    obtain ⟨i, hi, rfl, HB⟩ := hrel
    by_cases hlt : i < 2
    · clear Hev Hok Hev2 Hok2 hle hll hle2 hll2 He0 He1
      obtain ⟨k1, c1, k2, c2, evs, l, hE⟩ := Hel.out i hlt
      have hEr := hE.kept HB.out
      have x0 := hEr.cell.1
      have x1 := hEr.cell.2
      have hb1 := hE.len.1
      have hb2 := hE.len.2
      have hnl := normA_length l
      have HE := Lib.hid hE
      clear hE hEr
      go_upto_region 6 with fail
      obtain ⟨hT, P1, z1⟩ := boxed wr #[.slice k1 evs.length c1, .slice k2 l.length c2] 26
      generalize wr.alloc (.cells #[.slice k1 evs.length c1, .slice k2 l.length c2] 26) = W1 at hT P1 z1 ⊢
      have hB1 := Below.then HB.out P1
      have hE1 := HE.out.kept hB1
      obtain ⟨gt, egt⟩ : ∃ g, g = wr.heap.size := ⟨_, rfl⟩
      rw [← egt] at hT ⊢
      have hQ1 := HQ3.out.kept hB1 hgqw
      have D0 : Below W1.heap.size W1 W1.drew := (Below.refl _ _).drew
      have HS := Lib.hid (show ∀ X, Below W1.heap.size W1 X → (∀ j, X.cell? ⟨gq, j, none⟩ = (#[I q.node, I q.handler, I q.count, I q.kind, I q.index] : Array Value)[j]?) from fun X hX => (hQ1.kept hX hQ1.lt).cell)
      have HT1 := Lib.hid hT
      have Ht1 := Lib.hid hE1.tape
      have HB1 := Lib.hid hB1
      clear egt z1 P1 x0 x1 hE1 hQ1 hT hB1
      refine wp_region_ordN 5 [(0, true), (1, true), (2, false), (3, false), (4, true)] (fun w' => (∀ j, w'.cell? ⟨gq, j, none⟩ = (#[I q.node, I q.handler, I q.count, I q.kind, I q.index] : Array Value)[j]?)) (by kernel_rfl) rfl rfl (by kernel_rfl) (HS.out _ D0) ?_
      iterate 2 (refine wpOrd_take ?_ (by rfl) ?_ ?_; rotate_left; (intro w hSw; (try dsimp only at hSw); go_simp; try with_reducible rfl); (try simp only [Act.put, List.setIfInBounds_toArray, List.set_cons_zero, List.set_cons_succ]))
      refine wpOrd_move (fun K hK => ?_)
      go_simp
      go_at_call 31
      refine (questionC pk _ Hpk.out).mono ?_
      rintro e X1 ⟨rfl, F⟩
      have D1 := Below.then D0 F
      refine hK.out _ _ (HS.out _ D1) ?_
      clear hK K
      (try simp only [Act.put, List.setIfInBounds_toArray, List.set_cons_zero, List.set_cons_succ])
      have Hqp := Lib.hid (qOf_ok pk)
      generalize qOf pk = qp at Hqp ⊢
      obtain ⟨hk, F, zk⟩ := boxed X1 #[I q.node, I q.handler, I q.count, I q.kind, I q.index, I qp.node, I qp.handler, I qp.count, I qp.kind, I qp.index] 66
      have D2 := Below.then D1 F
      refine wpOrd_move (fun K hK => ?_)
      go_simp
      refine hK.out _ _ (HS.out _ D2) ?_
      clear hK K
      (try simp only [Act.put, List.setIfInBounds_toArray, List.set_cons_zero, List.set_cons_succ])
      (refine wpOrd_take ?_ (by rfl) ?_ ?_; rotate_left; (intro w hSw; (try dsimp only at hSw); go_simp; try with_reducible rfl); (try simp only [Act.put, List.setIfInBounds_toArray, List.set_cons_zero, List.set_cons_succ]))
      refine wpOrd_nil ?_
      go_wp2_with fail
      refine NoPanic.normal ?_
      obtain ⟨gk, egk⟩ : ∃ g, g = X1.heap.size := ⟨_, rfl⟩
      go_upto_region 7 with fail
      generalize X1.alloc (.cells #[I q.node, I q.handler, I q.count, I q.kind, I q.index, I qp.node, I qp.handler, I qp.count, I qp.kind, I qp.index] 66) = W2 at hk D2 zk F ⊢
      rw [← egk] at hk ⊢
      have hqe : ∀ x, x < 2 → ∃ y : Qn, y.ok ∧ QuEl W2 gk x y := fun x hx => by
        have : x = 0 ∨ x = 1 := by omega
        rcases this with rfl | rfl
        · exact ⟨q, Hq.out, hk.cell 0, hk.cell 1, hk.cell 2, hk.cell 3, hk.cell 4⟩
        · exact ⟨qp, Hqp.out, hk.cell 5, hk.cell 6, hk.cell 7, hk.cell 8, hk.cell 9⟩
      have hT2 := HT1.out.kept D2 HT1.out.lt
      have ht2 := Ht1.out.kept D2
      have hB2 := HB1.out.trans (D2.mono HB1.out.size)
      have t0 := hT2.cell 0
      have t1 := hT2.cell 1
      have HN := Lib.hid (refNormT evs l k1 c1 k2 c2 W2 ht2 (by omega) (by omega))
      have Hqe := Lib.hid hqe
      have HT2 := Lib.hid hT2
      have Ht2 := Lib.hid ht2
      have HB2 := Lib.hid hB2
      have hgt2 := hT2.lt
      obtain ⟨r, hr⟩ : ∃ r, r = normA l := ⟨_, rfl⟩
      rw [← hr] at HN hnl
      have Hr := Lib.hid hr
      clear egk zk hk hqe hT2 ht2 hB2 D0 D1 D2 F HS HT1 Ht1 HB1 Hqp hr
      go_upto_region 8 with (go_at_call 32; refine HN.out.mono ?_; rintro e X3 ⟨k3, c3, k4, c4, rfl, hw3, B3⟩)
      obtain ⟨hN, P4, z4⟩ := boxed X3 #[.slice k3 evs.length c3, .slice k4 r.length c4] 26
      generalize X3.alloc (.cells #[.slice k3 evs.length c3, .slice k4 r.length c4] 26) = W4 at hN P4 z4 ⊢
      have hB24 := Below.then B3 P4
      have hB4 := HB2.out.trans (hB24.mono HB2.out.size)
      have ht4 := Ht2.out.kept hB24
      have hw4 := hw3.kept P4
      have hT4 := HT2.out.kept hB24 hgt2
      obtain ⟨gn, egn⟩ : ∃ g, g = X3.heap.size := ⟨_, rfl⟩
      rw [← egn] at hN ⊢
      have HS := Lib.hid (show ∀ X, Below W4.heap.size W4 X → (∀ j, X.cell? ⟨gt, j, none⟩ = (#[.slice k1 evs.length c1, .slice k2 l.length c2] : Array Value)[j]?) ∧ (∀ j, X.cell? ⟨gn, j, none⟩ = (#[.slice k3 evs.length c3, .slice k4 r.length c4] : Array Value)[j]?) from fun X hX => ⟨(hT4.kept hX hT4.lt).cell, (hN.kept hX hN.lt).cell⟩)
      have Hrok := Lib.hid (show ∀ a ∈ r, a.ok from by rw [Hr.out]; exact normA_ok HE.out.ok.2)
      have Hnr := Lib.hid (show normA r = r from by rw [Hr.out, normA_idem])
      have hsum : evs.length + r.length ≤ 100 := by omega
      have HT4 := Lib.hid hT4
      have HN4 := Lib.hid hN
      have Ht4 := Lib.hid ht4
      have Hw4 := Lib.hid hw4
      have HB4 := Lib.hid hB4
      have Hqe4 := Lib.hid (show ∀ x, x < 2 → ∃ y : Qn, y.ok ∧ QuEl W4 gk x y from fun x hx => by obtain ⟨y, h1, h2⟩ := Hqe.out x hx; exact ⟨y, h1, h2.kept hB24⟩)
      have D0 : Below W4.heap.size W4 W4.drew := (Below.refl _ _).drew
      have hgt4 := hT4.lt
      have hgn4 := hN.lt
      clear egn z4 P4 hB24 hB4 ht4 hw4 hT4 hN hw3 B3 t0 t1 HN
      refine wp_region_ordN 23 [(0, true), (2, true), (1, false), (3, false), (4, true), (5, true), (6, true), (8, true), (9, true), (10, true), (11, true), (12, true), (13, true), (14, true), (7, false), (15, true), (16, true), (17, true), (18, true), (19, true), (20, false), (21, true), (22, true)] (fun w' => (∀ j, w'.cell? ⟨gt, j, none⟩ = (#[.slice k1 evs.length c1, .slice k2 l.length c2] : Array Value)[j]?) ∧ (∀ j, w'.cell? ⟨gn, j, none⟩ = (#[.slice k3 evs.length c3, .slice k4 r.length c4] : Array Value)[j]?)) (by kernel_rfl) rfl rfl (by kernel_rfl) (HS.out _ D0) ?_
      iterate 2 (refine wpOrd_take ?_ (by rfl) ?_ ?_; rotate_left; (intro w hSw; (try dsimp only at hSw); go_simp; try with_reducible rfl); (try simp only [Act.put, List.setIfInBounds_toArray, List.set_cons_zero, List.set_cons_succ]))
      refine wpOrd_move (fun K hK => ?_)
      go_simp
      go_at_call 26
      refine (normT_ evs l k1 c1 k2 c2 _ (Ht4.out.kept D0) HE.out.ok.2 (by omega) (by omega)).mono ?_
      rintro e Y1 ⟨k7, c7, k8, c8, rfl, hy1, F⟩
      have D1 := Below.then D0 F
      refine hK.out _ _ (HS.out _ D1) ?_
      clear hK K
      (try simp only [Act.put, List.setIfInBounds_toArray, List.set_cons_zero, List.set_cons_succ])
      rw [← Hr.out] at hy1 ⊢
      refine wpOrd_move (fun K hK => ?_)
      go_simp
      go_at_call 22
      refine (sameTT evs r k7 c7 k8 c8 k3 c3 k4 c4 _ hy1 (Hw4.out.kept D1)).mono ?_
      rintro e Y2 ⟨rfl, F⟩
      have D2 := Below.then D1 F
      refine hK.out _ _ (HS.out _ D2) ?_
      clear hK K
      (try simp only [Act.put, List.setIfInBounds_toArray, List.set_cons_zero, List.set_cons_succ])
      have hwsum : IntKind.i64.wrap ((evs.length : Int) + (r.length : Int)) = (evs.length : Int) + r.length := by rw [IntKind.wrap_i64]; omega
      have hcast : ((evs.length + r.length : Nat) : Int) = (evs.length : Int) + r.length := by omega
      obtain ⟨sm, hsm⟩ : ∃ sm : Int, sm = (evs.length : Int) + r.length := ⟨_, rfl⟩
      have hne3 : (sm != IntKind.i64.wrap ((evs.length : Int) + (r.length : Int))) = false := by rw [hwsum, hsm]; exact bne_same _
      rw [← hsm] at hcast
      clear hwsum
      have hne := bne_same sm
      have hne2 : (sm != ((evs.length : Int) + (r.length : Int))) = false := by rw [hsm]; exact bne_same _
      clear hsm
      iterate 10 (refine wpOrd_take ?_ (by rfl) ?_ ?_; rotate_left; (intro w hSw; (try dsimp only at hSw); go_simp; try with_reducible rfl); (try simp only [Act.put, List.setIfInBounds_toArray, List.set_cons_zero, List.set_cons_succ]))
      generalize IntKind.i64.wrap ((evs.length : Int) + (r.length : Int)) = s54 at hne3 ⊢
      refine wpOrd_move (fun K hK => ?_)
      go_simp
      go_at_call 33
      refine (partsT evs l k1 c1 k2 c2 _ (Ht4.out.kept D2) HE.out.ok.2 (by omega) (by omega)).mono ?_
      rintro e Y3 ⟨rfl, F⟩
      have D3 := Below.then D2 F
      refine hK.out _ _ (HS.out _ D3) ?_
      clear hK K
      (try simp only [Act.put, List.setIfInBounds_toArray, List.set_cons_zero, List.set_cons_succ])
      rw [← Hr.out, hcast]
      clear hcast
      iterate 5 (refine wpOrd_take ?_ (by rfl) ?_ ?_; rotate_left; (intro w hSw; (try dsimp only at hSw); go_simp; try with_reducible rfl); (try simp only [Act.put, List.setIfInBounds_toArray, List.set_cons_zero, List.set_cons_succ]))
      refine wpOrd_move (fun K hK => ?_)
      go_simp
      go_at_call 34
      refine (equalTT evs l r k1 c1 k2 c2 k3 c3 k4 c4 _ (Ht4.out.kept D3) (Hw4.out.kept D3) HE.out.ok.2 Hrok.out (by omega) (by omega) (by rw [Hnr.out, Hr.out])).mono ?_
      rintro e Y4 ⟨rfl, F⟩
      have D4 := Below.then D3 F
      refine hK.out _ _ (HS.out _ D4) ?_
      clear hK K
      (try simp only [Act.put, List.setIfInBounds_toArray, List.set_cons_zero, List.set_cons_succ])
      iterate 2 (refine wpOrd_take ?_ (by rfl) ?_ ?_; rotate_left; (intro w hSw; (try dsimp only at hSw); go_simp; try with_reducible rfl); (try simp only [Act.put, List.setIfInBounds_toArray, List.set_cons_zero, List.set_cons_succ]))
      refine wpOrd_nil ?_
      clear hne
      go_wp2_with fail
      refine NoPanic.normal ?_
      have HD4 := Lib.hid D4
      clear D0 D1 D2 D3 D4 F hy1 HS hsum
      obtain ⟨wo, rfl⟩ : ∃ wo, wo = Y4 := ⟨_, rfl⟩
      go_wp2_with fail
      go_loopw [18] (fun i wr => ∃ (b : Nat), b ≤ 2 ∧ i = .int .i64 b ∧ Hid (Below W4.heap.size W4 wr)) (fun i _ => 2 - (intOf i).toNat)
      case atStart => exact ⟨0, by omega, rfl, HD4⟩
      case round =>
        clear HD4
        obtain ⟨x, hx, rfl, HD⟩ := hrel
        by_cases hlx : x < 2
        · obtain ⟨y, hy, hQ⟩ := Hqe4.out x hlx
          have Hy := Lib.hid hy
          have HQy := Lib.hid hQ
          have HRW := Lib.hid (fun (W : World) (hW : Below W4.heap.size W4 W) => refWithR evs l k1 c1 k2 c2 y n W (Ht4.out.kept hW) (by omega) (by omega))
          obtain ⟨r2, hr2⟩ : ∃ r, r = normA (putL l y n) := ⟨_, rfl⟩
          have hr2l : r2.length ≤ 11 := by rw [hr2]; have := putL_length l y n; omega
          have Hr2ok := Lib.hid (show ∀ a ∈ r2, a.ok from by rw [hr2]; exact putL_ok HE.out.ok.2 hy Hn.out)
          have Hnr2 := Lib.hid (show normA r2 = r2 from by rw [hr2, normA_idem])
          rw [← hr2] at HRW
          have Hr2 := Lib.hid hr2
          clear hy hQ hr2
          go_upto_region 13 with fail
          have D0 : Below W4.heap.size W4 wr.drew := HD.out.drew
          have HS := Lib.hid (show ∀ X, Below W4.heap.size W4 X → (∀ j, X.cell? ⟨gt, j, none⟩ = (#[.slice k1 evs.length c1, .slice k2 l.length c2] : Array Value)[j]?) ∧ X.cell? ⟨gk, x * 5, none⟩ = some (I y.node) ∧ X.cell? ⟨gk, x * 5 + 1, none⟩ = some (I y.handler) ∧ X.cell? ⟨gk, x * 5 + 2, none⟩ = some (I y.count) ∧ X.cell? ⟨gk, x * 5 + 3, none⟩ = some (I y.kind) ∧ X.cell? ⟨gk, x * 5 + 4, none⟩ = some (I y.index) from fun X hX => ⟨(HT4.out.kept hX hgt4).cell, (HQy.out.kept hX).c0, (HQy.out.kept hX).c1, (HQy.out.kept hX).c2, (HQy.out.kept hX).c3, (HQy.out.kept hX).c4⟩)
          go_cut [19] from 63 to 105 (fun t wc => ∃ (gx : Nat) (k5 : Option Addr) (c5 : Nat) (k6 : Option Addr) (c6 : Nat), t = .pointer (some ⟨gx, 0, none⟩) ∧ Hid (Blk wc gx #[.slice k5 evs.length c5, .slice k6 r2.length c6]) ∧ Hid (TapeIn wc k5 c5 k6 c6 evs r2) ∧ Hid (Below W4.heap.size W4 wc))
          case first =>
            refine wp_region_T 8 (.take 0 (.take 1 (.take 2 (.take 3 (.take 4 (.take 5 (.fork 6 7 (.move 7 .nil) (.move 6 .nil)))))))) (fun w' => (∀ j, w'.cell? ⟨gt, j, none⟩ = (#[.slice k1 evs.length c1, .slice k2 l.length c2] : Array Value)[j]?) ∧ w'.cell? ⟨gk, x * 5, none⟩ = some (I y.node) ∧ w'.cell? ⟨gk, x * 5 + 1, none⟩ = some (I y.handler) ∧ w'.cell? ⟨gk, x * 5 + 2, none⟩ = some (I y.count) ∧ w'.cell? ⟨gk, x * 5 + 3, none⟩ = some (I y.kind) ∧ w'.cell? ⟨gk, x * 5 + 4, none⟩ = some (I y.index)) (by kernel_rfl) rfl (by kernel_rfl) (HS.out _ D0) ?_
            iterate 6 (refine wpT_take rfl ?_ (by rfl) ?_ ?_; rotate_left; (intro w hSw; (try dsimp only at hSw); go_simp; try with_reducible rfl); (try simp only [Act.put, List.setIfInBounds_toArray, List.set_cons_zero, List.set_cons_succ]))
            refine wpT_fork ?_ ?_
            · refine wpT_move rfl (fun K hK => ?_)
              go_simp
              go_at_call 35
              refine (HRW.out _ D0).mono ?_
              rintro e X1 ⟨k5, c5, k6, c6, rfl, h1, h2, F⟩
              have D1 := Below.then D0 F
              refine hK.out _ _ (HS.out _ D1) ?_
              clear hK K
              (try simp only [Act.put, List.setIfInBounds_toArray, List.set_cons_zero, List.set_cons_succ])
              refine wpT_move rfl (fun K hK => ?_)
              go_simp
              have F2 := (boxed X1 #[.slice none 0 0, .slice none 0 0] 26).2.1
              refine hK.out _ _ (HS.out _ (Below.then D1 F2)) ?_
              clear hK K
              (try simp only [Act.put, List.setIfInBounds_toArray, List.set_cons_zero, List.set_cons_succ])
              refine wpT_nil ?_
              obtain ⟨hb, F3, zb⟩ := boxed X1 #[.slice k5 evs.length c5, .slice k6 r2.length c6] 26
              go_wp2_with fail
              refine NoPanic.normal ?_
              go_wp2_with fail
              go_meet
              exact ⟨_, k5, c5, k6, c6, rfl, Lib.hid hb, Lib.hid ((TapeIn.owns h1 h2).kept F3), Lib.hid (Below.then D1 F3)⟩
            · refine wpT_move rfl (fun K hK => ?_)
              go_simp
              obtain ⟨hb, F2, zb⟩ := boxed wr.drew #[.slice none 0 0, .slice none 0 0] 26
              have D1 := Below.then D0 F2
              refine hK.out _ _ (HS.out _ D1) ?_
              clear hK K
              (try simp only [Act.put, List.setIfInBounds_toArray, List.set_cons_zero, List.set_cons_succ])
              refine wpT_move rfl (fun K hK => ?_)
              go_simp
              go_at_call 35
              refine (HRW.out _ D1).mono ?_
              rintro e X1 ⟨k5, c5, k6, c6, rfl, h1, h2, F⟩
              have D2 := Below.then D1 F
              refine hK.out _ _ (HS.out _ D2) ?_
              clear hK K
              (try simp only [Act.put, List.setIfInBounds_toArray, List.set_cons_zero, List.set_cons_succ])
              refine wpT_nil ?_
              have hb1 : Blk X1 wr.heap.size #[.slice none 0 0, .slice none 0 0] := hb.kept F (by rw [zb]; omega)
              have b0 := hb1.cell 0
              have b1 := hb1.cell 1
              have bf0 := hb1.frozen 0
              have bf1 := hb1.frozen 1
              have zd := D0.size
              go_wp2_with fail
              refine NoPanic.normal ?_
              go_wp2_with fail
              go_meet
              have hgs : X1.grownBy ((X1.setCell ⟨wr.heap.size, 0, none⟩ (.slice k5 evs.length c5)).setCell ⟨wr.heap.size, 1, none⟩ (.slice k6 r2.length c6)) (some wr.heap.size) := (grown_set X1 ⟨wr.heap.size, 0, none⟩ _).trans (grown_set _ ⟨wr.heap.size, 1, none⟩ _)
              have h1' := h1.kept hgs (own_ne h1 (by rw [zb]; simp))
              have h2' := h2.kept hgs (own_ne h2 (by rw [zb]; simp))
              exact ⟨_, k5, c5, k6, c6, rfl, Lib.hid ((hb1.set 0 _).set 1 _), Lib.hid (TapeIn.owns h1' h2'), Lib.hid (D2.grown hgs (by have := D2.size; omega) (fun j hj => by cases hj; simpa using zd))⟩
          case rest =>
            obtain ⟨gx, k5, c5, k6, c6, rfl, HX, Hx, HDc⟩ := hcut
            clear HS D0
            have HS := Lib.hid (show ∀ X, Below wc.heap.size wc X → (∀ j, X.cell? ⟨gt, j, none⟩ = (#[.slice k1 evs.length c1, .slice k2 l.length c2] : Array Value)[j]?) ∧ (∀ j, X.cell? ⟨gx, j, none⟩ = (#[.slice k5 evs.length c5, .slice k6 r2.length c6] : Array Value)[j]?) ∧ X.cell? ⟨gk, x * 5, none⟩ = some (I y.node) ∧ X.cell? ⟨gk, x * 5 + 1, none⟩ = some (I y.handler) ∧ X.cell? ⟨gk, x * 5 + 2, none⟩ = some (I y.count) ∧ X.cell? ⟨gk, x * 5 + 3, none⟩ = some (I y.kind) ∧ X.cell? ⟨gk, x * 5 + 4, none⟩ = some (I y.index) from fun X hX => ⟨((HT4.out.kept HDc.out hgt4).kept hX (by have := HDc.out.size; omega)).cell, (HX.out.kept hX HX.out.lt).cell, ((HQy.out.kept HDc.out).kept hX).c0, ((HQy.out.kept HDc.out).kept hX).c1, ((HQy.out.kept HDc.out).kept hX).c2, ((HQy.out.kept HDc.out).kept hX).c3, ((HQy.out.kept HDc.out).kept hX).c4⟩)
            have D0 : Below wc.heap.size wc wc.drew := (Below.refl _ _).drew
            have htc := Ht4.out.kept HDc.out
            have Htc := Lib.hid htc
            have HGt := Lib.hid (fun (W : World) (hW : Below wc.heap.size wc W) => getT evs l k1 c1 k2 c2 y W (htc.kept hW) HE.out.ok.2 Hy.out (by omega))
            have HGr := Lib.hid (fun (W : World) (hW : Below wc.heap.size wc W) => refGet l (.slice k1 evs.length c1) (.slice k2 l.length c2) y W (htc.kept hW).2)
            generalize getA l y = gv at HGt HGr
            have hne := bne_same gv
            have HWt := Lib.hid (fun (W : World) (hW : Below wc.heap.size wc W) => withT evs l k1 c1 k2 c2 y n W (htc.kept hW) HE.out.ok.2 Hy.out Hn.out (by omega) (by omega))
            rw [← Hr2.out] at HWt
            clear htc
            go_upto_region 14 with fail
            refine wp_region_ordN 25 [(0, true), (1, true), (2, true), (3, true), (4, true), (6, true), (7, true), (8, true), (9, true), (10, true), (5, false), (11, false), (12, true), (13, true), (14, true), (15, true), (16, true), (17, true), (18, true), (19, true), (21, true), (20, false), (22, false), (23, true), (24, true)] (fun w' => (∀ j, w'.cell? ⟨gt, j, none⟩ = (#[.slice k1 evs.length c1, .slice k2 l.length c2] : Array Value)[j]?) ∧ (∀ j, w'.cell? ⟨gx, j, none⟩ = (#[.slice k5 evs.length c5, .slice k6 r2.length c6] : Array Value)[j]?) ∧ w'.cell? ⟨gk, x * 5, none⟩ = some (I y.node) ∧ w'.cell? ⟨gk, x * 5 + 1, none⟩ = some (I y.handler) ∧ w'.cell? ⟨gk, x * 5 + 2, none⟩ = some (I y.count) ∧ w'.cell? ⟨gk, x * 5 + 3, none⟩ = some (I y.kind) ∧ w'.cell? ⟨gk, x * 5 + 4, none⟩ = some (I y.index)) (by kernel_rfl) rfl rfl (by kernel_rfl) (HS.out _ D0) ?_
            iterate 10 (refine wpOrd_take ?_ (by rfl) ?_ ?_; rotate_left; (intro w hSw; (try dsimp only at hSw); go_simp; try with_reducible rfl); (try simp only [Act.put, List.setIfInBounds_toArray, List.set_cons_zero, List.set_cons_succ]))
            refine wpOrd_move (fun K hK => ?_)
            go_simp
            go_at_call 36
            refine (HGt.out _ D0).mono ?_
            rintro e Z1 ⟨rfl, F⟩
            have D1 := Below.then D0 F
            refine hK.out _ _ (HS.out _ D1) ?_
            clear hK K
            (try simp only [Act.put, List.setIfInBounds_toArray, List.set_cons_zero, List.set_cons_succ])
            refine wpOrd_move (fun K hK => ?_)
            go_simp
            go_at_call 37
            refine (HGr.out _ D1).mono ?_
            rintro e Z2 ⟨rfl, F⟩
            have D2 := Below.then D1 F
            refine hK.out _ _ (HS.out _ D2) ?_
            clear hK K
            (try simp only [Act.put, List.setIfInBounds_toArray, List.set_cons_zero, List.set_cons_succ])
            iterate 9 (refine wpOrd_take ?_ (by rfl) ?_ ?_; rotate_left; (intro w hSw; (try dsimp only at hSw); go_simp; try with_reducible rfl); (try simp only [Act.put, List.setIfInBounds_toArray, List.set_cons_zero, List.set_cons_succ]))
            refine wpOrd_move (fun K hK => ?_)
            go_simp
            go_at_call 38
            refine (HWt.out _ D2).mono ?_
            rintro e Z3 ⟨k7, c7, k8, c8, rfl, hz3, F⟩
            have D3 := Below.then D2 F
            refine hK.out _ _ (HS.out _ D3) ?_
            clear hK K
            (try simp only [Act.put, List.setIfInBounds_toArray, List.set_cons_zero, List.set_cons_succ])
            refine wpOrd_move (fun K hK => ?_)
            go_simp
            go_at_call 22
            refine (sameTT evs r2 k7 c7 k8 c8 k5 c5 k6 c6 _ hz3 (Hx.out.kept D3)).mono ?_
            rintro e Z4 ⟨rfl, F⟩
            have D4 := Below.then D3 F
            refine hK.out _ _ (HS.out _ D4) ?_
            clear hK K
            (try simp only [Act.put, List.setIfInBounds_toArray, List.set_cons_zero, List.set_cons_succ])
            iterate 2 (refine wpOrd_take ?_ (by rfl) ?_ ?_; rotate_left; (intro w hSw; (try dsimp only at hSw); go_simp; try with_reducible rfl); (try simp only [Act.put, List.setIfInBounds_toArray, List.set_cons_zero, List.set_cons_succ]))
            refine wpOrd_nil ?_
            clear hne
            go_wp2_with fail
            refine NoPanic.normal ?_
            have HD4 := Lib.hid D4
            obtain ⟨bb, hbb⟩ : ∃ bb : Bool, bb = (decide (evs = evs) && decide (r = r2)) := ⟨_, rfl⟩
            have Hbb := Lib.hid hbb
            have hbn : (bb != bb) = false := by simp
            clear hbb D0 D1 D2 D3 F HGt HGr HWt hz3 HS
            have HS := Lib.hid (show ∀ X, Below wc.heap.size wc X → (∀ j, X.cell? ⟨gt, j, none⟩ = (#[.slice k1 evs.length c1, .slice k2 l.length c2] : Array Value)[j]?) ∧ (∀ j, X.cell? ⟨gn, j, none⟩ = (#[.slice k3 evs.length c3, .slice k4 r.length c4] : Array Value)[j]?) ∧ (∀ j, X.cell? ⟨gx, j, none⟩ = (#[.slice k5 evs.length c5, .slice k6 r2.length c6] : Array Value)[j]?) from fun X hX => ⟨((HT4.out.kept HDc.out hgt4).kept hX (by have := HDc.out.size; omega)).cell, ((HN4.out.kept HDc.out hgn4).kept hX (by have := HDc.out.size; omega)).cell, (HX.out.kept hX HX.out.lt).cell⟩)
            have D0 := D4.drew
            clear D4
            go_upto_region 16 with fail
            refine wp_region_ordN 7 [(0, true), (1, true), (3, true), (4, true), (2, false), (5, false), (6, true)] (fun w' => (∀ j, w'.cell? ⟨gt, j, none⟩ = (#[.slice k1 evs.length c1, .slice k2 l.length c2] : Array Value)[j]?) ∧ (∀ j, w'.cell? ⟨gn, j, none⟩ = (#[.slice k3 evs.length c3, .slice k4 r.length c4] : Array Value)[j]?) ∧ (∀ j, w'.cell? ⟨gx, j, none⟩ = (#[.slice k5 evs.length c5, .slice k6 r2.length c6] : Array Value)[j]?)) (by kernel_rfl) rfl rfl (by kernel_rfl) (HS.out _ D0) ?_
            iterate 4 (refine wpOrd_take ?_ (by rfl) ?_ ?_; rotate_left; (intro w hSw; (try dsimp only at hSw); go_simp; try with_reducible rfl); (try simp only [Act.put, List.setIfInBounds_toArray, List.set_cons_zero, List.set_cons_succ]))
            refine wpOrd_move (fun K hK => ?_)
            go_simp
            go_at_call 34
            refine (equalB evs evs l r2 k1 c1 k2 c2 k5 c5 k6 c6 _ (Htc.out.kept D0) (Hx.out.kept D0) HE.out.ok.2 Hr2ok.out (by omega) (by omega) bb (by rw [Hbb.out, Hnr2.out, Hr.out])).mono ?_
            rintro e Z5 ⟨rfl, F⟩
            have D1 := Below.then D0 F
            refine hK.out _ _ (HS.out _ D1) ?_
            clear hK K
            (try simp only [Act.put, List.setIfInBounds_toArray, List.set_cons_zero, List.set_cons_succ])
            refine wpOrd_move (fun K hK => ?_)
            go_simp
            go_at_call 22
            refine (sameB evs evs r r2 k3 c3 k4 c4 k5 c5 k6 c6 _ ((Hw4.out.kept HDc.out).kept D1) (Hx.out.kept D1) bb Hbb.out).mono ?_
            rintro e Z6 ⟨rfl, F⟩
            have D2 := Below.then D1 F
            refine hK.out _ _ (HS.out _ D2) ?_
            clear hK K
            (try simp only [Act.put, List.setIfInBounds_toArray, List.set_cons_zero, List.set_cons_succ])
            (refine wpOrd_take ?_ (by rfl) ?_ ?_; rotate_left; (intro w hSw; (try dsimp only at hSw); go_simp; try with_reducible rfl); (try simp only [Act.put, List.setIfInBounds_toArray, List.set_cons_zero, List.set_cons_succ]))
            refine wpOrd_nil ?_
            clear hbn
            go_wp2_with fail
            refine NoPanic.normal ?_
            go_wp2_with fail
            go_roundw
            case rel => exact ⟨x + 1, by omega, by go_num, Lib.hid (HDc.out.trans (D2.mono HDc.out.size))⟩
            case measure => simp [intOf]; omega
        · go_wp2_with fail
          go_roundw
          case rel => exact ⟨i + 1, by omega, by go_num, Lib.hid (HB4.out.trans (HD.out.mono HB4.out.size))⟩
          case measure => simp [intOf]; omega
    · clear Hel HQ3 hgqw
      have D0 : Below w3.heap.size w3 wr.drew := HB.out.drew
      have HS := Lib.hid (show ∀ X, Below w3.heap.size w3 X → (∀ j, X.cell? ⟨ga, j, none⟩ = (#[.slice k1 evs.length c1, .slice k2 l.length c2, .slice k3 evs2.length c3, .slice k4 l2.length c4] : Array Value)[j]?) from fun X hX => (Hab.out.kept hX hgaw).cell)
      obtain ⟨bb, hbb⟩ : ∃ bb : Bool, bb = (decide (evs = evs2) && decide (normA l = normA l2)) := ⟨_, rfl⟩
      have Hbb := Lib.hid hbb
      have hbn : (bb == bb) = true := by simp
      clear hbb HB
      go_upto_region 18 with fail
      refine wp_region_ordN 21 [(0, true), (1, true), (2, true), (3, true), (4, true), (5, true), (7, true), (8, true), (9, true), (11, true), (12, true), (13, true), (6, false), (10, false), (14, false), (15, false), (16, true), (17, true), (18, false), (19, true), (20, true)] (fun w' => (∀ j, w'.cell? ⟨ga, j, none⟩ = (#[.slice k1 evs.length c1, .slice k2 l.length c2, .slice k3 evs2.length c3, .slice k4 l2.length c4] : Array Value)[j]?)) (by kernel_rfl) rfl rfl (by kernel_rfl) (HS.out _ D0) ?_
      iterate 12 (refine wpOrd_take ?_ (by rfl) ?_ ?_; rotate_left; (intro w hSw; (try dsimp only at hSw); go_simp; try with_reducible rfl); (try simp only [Act.put, List.setIfInBounds_toArray, List.set_cons_zero, List.set_cons_succ]))
      refine wpOrd_move (fun K hK => ?_)
      go_simp
      go_at_call 34
      refine (equalB evs evs2 l l2 k1 c1 k2 c2 k3 c3 k4 c4 _ (He0.out.kept D0) (He1.out.kept D0) Hok.out Hok2.out (by omega) (by omega) bb Hbb.out).mono ?_
      rintro e Z1 ⟨rfl, F⟩
      have D1 := Below.then D0 F
      refine hK.out _ _ (HS.out _ D1) ?_
      clear hK K
      (try simp only [Act.put, List.setIfInBounds_toArray, List.set_cons_zero, List.set_cons_succ])
      refine wpOrd_move (fun K hK => ?_)
      go_simp
      go_at_call 32
      refine (refNormT evs l k1 c1 k2 c2 _ (He0.out.kept D1) (by omega) (by omega)).mono ?_
      rintro e Z2 ⟨k5, c5, k6, c6, rfl, hz2, F⟩
      have D2 := Below.then D1 F
      refine hK.out _ _ (HS.out _ D2) ?_
      clear hK K
      (try simp only [Act.put, List.setIfInBounds_toArray, List.set_cons_zero, List.set_cons_succ])
      refine wpOrd_move (fun K hK => ?_)
      go_simp
      go_at_call 32
      refine (refNormT evs2 l2 k3 c3 k4 c4 _ (He1.out.kept D2) (by omega) (by omega)).mono ?_
      rintro e Z3 ⟨k7, c7, k8, c8, rfl, hz3, F⟩
      have D3 := Below.then D2 F
      refine hK.out _ _ (HS.out _ D3) ?_
      clear hK K
      (try simp only [Act.put, List.setIfInBounds_toArray, List.set_cons_zero, List.set_cons_succ])
      have hz2 := hz2.kept F
      refine wpOrd_move (fun K hK => ?_)
      go_simp
      go_at_call 22
      refine (sameB evs evs2 (normA l) (normA l2) k5 c5 k6 c6 k7 c7 k8 c8 _ hz2 hz3 bb Hbb.out).mono ?_
      rintro e Z4 ⟨rfl, F⟩
      have D4 := Below.then D3 F
      refine hK.out _ _ (HS.out _ D4) ?_
      clear hK K
      (try simp only [Act.put, List.setIfInBounds_toArray, List.set_cons_zero, List.set_cons_succ])
      iterate 2 (refine wpOrd_take ?_ (by rfl) ?_ ?_; rotate_left; (intro w hSw; (try dsimp only at hSw); go_simp; try with_reducible rfl); (try simp only [Act.put, List.setIfInBounds_toArray, List.set_cons_zero, List.set_cons_succ]))
      refine wpOrd_move (fun K hK => ?_)
      go_simp
      go_at_call 17
      refine (livesF _).mono ?_
      rintro e Z5 ⟨rfl, F⟩
      have D5 := Below.then D4 F
      refine hK.out _ _ (HS.out _ D5) ?_
      clear hK K
      (try simp only [Act.put, List.setIfInBounds_toArray, List.set_cons_zero, List.set_cons_succ])
      iterate 2 (refine wpOrd_take ?_ (by rfl) ?_ ?_; rotate_left; (intro w hSw; (try dsimp only at hSw); go_simp; try with_reducible rfl); (try simp only [Act.put, List.setIfInBounds_toArray, List.set_cons_zero, List.set_cons_succ]))
      refine wpOrd_nil ?_
      go_wp2_with fail
      refine NoPanic.normal ?_
      go_wp2_with fail
      go_ret
      exact ⟨rfl, Hw3.out.trans (D5.mono Hw3.out.size)⟩
end Go.Proofs.Ytjdhcdbjfbhogaa
