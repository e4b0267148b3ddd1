/- TapeParts: the walk. -/
import Derived.Test.YtjdhcdbjfbhogaaX8
namespace Go.Proofs.Ytjdhcdbjfbhogaa
open Go.RowKit

theorem own_ne {w : World} {B n k : Nat} {e : TypeId} {v : Value} {xs : List Value} (h : w.ownsRow B e k v n xs) {j : Nat} (hj : j < B) : v.ownBlock = none ∨ v.ownBlock ≠ some j := by
  cases hv : v.ownBlock with
  | none => exact .inl rfl
  | some g => exact .inr (fun e => by have := (h.lt g hv).1; simp at e; omega)

set_option maxHeartbeats 8000000 in
set_option maxRecDepth 100000 in
theorem lawParts (l0 m0 p0 : List Int) (kp : Option Addr) (cp : Nat) (vl vm : Value) (w : World) (hl : IntSl w vl l0) (hm : IntSl w vm m0) (hp : IntSl w (.slice kp p0.length cp) p0) (hcp : p0.length ≤ cp) (okl : ∀ n ∈ l0, InI64 n) (okm : ∀ n ∈ m0, InI64 n) :
    Calls Try.prog 11 #[vl, vm, .slice kp p0.length cp] w fun e w' => e = .returned (.bool true) ∧ Below w.heap.size w w' := by
  have HT := Lib.hid (tapeT l0 m0 vl vm w hl hm okl okm)
  have hle := tapeEv_length l0
  have hll := tapeAns_length m0
  have Hok := Lib.hid (tapeAns_ok m0)
  have Hp := Lib.hid hp
  clear hl hm okl okm hp
  generalize tapeEv l0 = evs at HT hle
  generalize tapeAns m0 = l at HT hll Hok
  have hrl := normA_length l
  have Hrok := Lib.hid (normA_ok Hok.out)
  go_enter Try.func11, Try.ntmps11
  go_wp2_with fail
  refine HT.out.mono ?_
  rintro e w1 ⟨k1, c1, k2, c2, rfl, ht1, B1⟩
  obtain ⟨hT, P1, z1⟩ := boxed w1 #[.slice k1 evs.length c1, .slice k2 l.length c2] 26
  go_wp2_with fail
  generalize w1.alloc (.cells #[.slice k1 evs.length c1, .slice k2 l.length c2] 26) = W1 at hT P1 z1 ⊢
  have B1a := Below.then B1 P1
  refine (intsC p0 kp cp W1 (Hp.out.kept B1a (Nat.le_refl _)) hcp).mono ?_
  rintro e w2 ⟨kf, cf, rfl, hfo, hf2, B2⟩
  generalize p0.take 20 = few at hfo hf2 ⊢
  have B2a := Below.then B1a B2
  have ht2 := (ht1.kept P1).kept B2
  have hT2 := hT.kept B2 (by have := P1.size; omega)
  have hcT := hT2.cell
  have z2 := B2.size
  have HW := Lib.hid (refWithoutT evs l few k1 c1 k2 c2 _ w2 ht2 hf2 (by omega) (by omega))
  clear hT P1 B1 B1a B2 HT
  clear z1
  obtain ⟨gt, egt⟩ : ∃ g, g = w1.heap.size := ⟨_, rfl⟩
  rw [← egt] at hT2 hcT ⊢
  clear egt
  go_wp2_with fail
  refine HW.out.mono ?_
  rintro e w3 ⟨k3, c3, k4, c4, rfl, hw3, B3⟩
  obtain ⟨hWb, P3, z3⟩ := boxed w3 #[.slice k3 (dropAt few 0 evs).length c3, .slice k4 (dropAt few evs.length (normA l)).length c4] 26
  have ht4 := (ht2.kept B3).kept P3
  have hf4 := (hf2.kept B3 (Nat.le_refl _)).kept P3 (Nat.le_refl _)
  have hT4 := (hT2.kept B3 hT2.lt).kept P3 (by have := B3.size; have := hT2.lt; omega)
  have hw4 := hw3.kept P3
  have B4a := Below.then (Below.then B2a B3) P3
  have hdE : (dropAt few 0 evs).length ≤ 10 := Nat.le_trans (dropAt_length _ _ _) (by omega)
  have hdA : (dropAt few evs.length (normA l)).length ≤ 10 := Nat.le_trans (dropAt_length _ _ _) (by omega)
  have hwok : ∀ a ∈ dropAt few evs.length (normA l), a.ok := fun a ha => Hrok.out a (dropAt_mem ha)
  have hzW := hT4.lt
  obtain ⟨gw, egw⟩ : ∃ g, g = w3.heap.size := ⟨_, rfl⟩
  go_upto_region 4 with fail
  generalize w3.alloc (.cells #[.slice k3 (dropAt few 0 evs).length c3, .slice k4 (dropAt few evs.length (normA l)).length c4] 26) = w4 at hWb P3 z3 ht4 hf4 hT4 hw4 B4a hzW ⊢
  rw [← egw] at hWb ⊢
  have hzt : gt < gw := by have := B3.size; have := hT2.lt; omega
  clear egw
  obtain ⟨dE, hdEe⟩ : ∃ x, x = dropAt few 0 evs := ⟨_, rfl⟩
  obtain ⟨dA, hdAe⟩ : ∃ x, x = dropAt few evs.length (normA l) := ⟨_, rfl⟩
  have HX := Lib.hid (withoutT evs l few k1 c1 k2 c2 _ w4.drew ht4 hf4 Hok.out (by omega) (by omega))
  rw [← hdEe, ← hdAe] at hw4 HX
  rw [← hdEe] at hdE
  rw [← hdAe] at hdA hwok
  rw [← hdEe, ← hdAe] at hWb ⊢
  have HdE := Lib.hid hdEe
  have HdA := Lib.hid hdAe
  have Hwok := Lib.hid hwok
  have HS := Lib.hid (show ∀ X, Below w4.heap.size w4 X → (∀ j, X.cell? ⟨gt, j, none⟩ = (#[.slice k1 evs.length c1, .slice k2 l.length c2] : Array Value)[j]?) ∧ (∀ j, X.cell? ⟨gw, j, none⟩ = (#[.slice k3 dE.length c3, .slice k4 dA.length c4] : Array Value)[j]?) from fun X hX => ⟨(hT4.kept hX hT4.lt).cell, (hWb.kept hX hWb.lt).cell⟩)
  clear hdEe hdAe hwok hw3 B3 hT2 hcT hf2 ht2 ht1 HW hfo z2 z3 P3
  refine wp_region_ordN 6 [(0, true), (1, true), (3, true), (2, false), (4, false), (5, true)] (fun w' => (∀ j, w'.cell? ⟨gt, j, none⟩ = (#[.slice k1 evs.length c1, .slice k2 l.length c2] : Array Value)[j]?) ∧ (∀ j, w'.cell? ⟨gw, j, none⟩ = (#[.slice k3 dE.length c3, .slice k4 dA.length c4] : Array Value)[j]?)) (by kernel_rfl) rfl rfl (by kernel_rfl) (HS.out w4.drew (Below.refl _ _).drew) ?_
  iterate 3 (refine wpOrd_take ?_ (by rfl) ?_ ?_; rotate_left; (intro w hSw; (try dsimp only at hSw); go_simp; try with_reducible rfl); (try simp only [Act.put, List.setIfInBounds_toArray, List.set_cons_zero, List.set_cons_succ]))
  refine wpOrd_move (fun K hK => ?_)
  go_simp
  go_at_call 40
  refine HX.out.mono ?_
  rintro e w5 ⟨k5, c5, k6, c6, rfl, he5, ha5, B5d⟩
  have B5 : Below w4.heap.size w4 w5 := ⟨B5d.os, B5d.tape, B5d.output, B5d.size, B5d.block⟩
  refine hK.out _ _ (HS.out _ B5) ?_
  clear hK K B5d
  (try simp only [Act.put, List.setIfInBounds_toArray, List.set_cons_zero, List.set_cons_succ])
  refine wpOrd_move (fun K hK => ?_)
  go_simp
  go_at_call 22
  refine (sameT dE dE dA dA k5 c5 k6 c6 k3 c3 k4 c4 _ (TapeIn.owns he5 ha5) (hw4.kept B5)).mono ?_
  rintro e w6 ⟨rfl, B6⟩
  rw [show (decide (dE = dE) && decide (dA = dA)) = true from by rw [decide_eq_true rfl, decide_eq_true rfl]; rfl]
  have B46 := Below.then B5 B6
  refine hK.out _ _ (HS.out _ B46) ?_
  clear hK K
  (try simp only [Act.put, List.setIfInBounds_toArray, List.set_cons_zero, List.set_cons_succ])
  (refine wpOrd_take ?_ (by rfl) ?_ ?_; rotate_left; (intro w hSw; (try dsimp only at hSw); go_simp; try with_reducible rfl); (try simp only [Act.put, List.setIfInBounds_toArray, List.set_cons_zero, List.set_cons_succ]))
  refine wpOrd_nil ?_
  go_wp2_with fail
  refine NoPanic.normal ?_
  have hT6 := hT4.kept B46 hT4.lt
  have hW6 := hWb.kept B46 hWb.lt
  have t60 := hT6.cell 0
  have t61 := hT6.cell 1
  have ht6 := ht4.kept B46
  have hw6 := hw4.kept B46
  have hf6 := hf4.kept B46 (Nat.le_refl _)
  have B6a := Below.then B4a B46
  clear HX hT4 hWb ht4 hw4 hf4 B4a B46 B5 B6 he5 ha5 HS
  go_upto_region 7 with fail
  have hu := Blk.new w6 #[.slice k1 evs.length c1, .slice k2 l.length c2] 26
  have P6 : Below w6.heap.size w6 (w6.alloc (.cells #[.slice k1 evs.length c1, .slice k2 l.length c2] 26)) := (Below.refl _ _).alloc (Nat.le_refl _) _
  have z6 : (w6.alloc (.cells #[.slice k1 evs.length c1, .slice k2 l.length c2] 26)).heap.size = w6.heap.size + 1 := World.size_alloc _ _
  generalize w6.alloc (.cells #[.slice k1 evs.length c1, .slice k2 l.length c2] 26) = w7 at hu P6 z6 ⊢
  have t70 := (hT6.kept P6 hT6.lt).cell 0
  have t71 := (hT6.kept P6 hT6.lt).cell 1
  have HPt := Lib.hid (partsT evs l k1 c1 k2 c2 w7 (ht6.kept P6) Hok.out (by omega) (by omega))
  clear t60 t61
  have HT6 := Lib.hid hT6
  have HW6 := Lib.hid hW6
  have hltT := hT6.lt
  have hltW := hW6.lt
  obtain ⟨gu, egu⟩ : ∃ g, g = w6.heap.size := ⟨_, rfl⟩
  rw [← egu] at hu P6 z6 hltT hltW ⊢
  have Hegu := Lib.hid egu
  clear egu
  go_upto_region 8 with fail
  generalize hPe : evs.length + (normA l).length = P at HPt
  have hP18 : P ≤ 18 := by omega
  go_wp2_with fail
  refine HPt.out.mono ?_
  rintro e w8 ⟨rfl, B8⟩
  have hu8 := hu.kept B8 hu.lt
  have B68 := P6.trans (B8.mono (by omega))
  have z8 := B8.size
  have HPe := Lib.hid hPe
  have hstart : PSt few evs (normA l) gu w6 w8 P (.slice none 0 0) k1 c1 k2 c2 evs l := ⟨by rw [HPe.out, downL_end]; exact World.ownsRow_nil _ _ _ _, hu8, fun w' hg => ⟨ht6.1.kept (B68.trans ((show Below w8.heap.size w8 w' from ⟨hg.os, hg.tape, hg.output, hg.size, fun k hk => hg.block k hk (by simp [Value.ownBlock])⟩).mono (by omega))) (by have := Hegu.out; omega), ht6.2.kept (B68.trans ((show Below w8.heap.size w8 w' from ⟨hg.os, hg.tape, hg.output, hg.size, fun k hk => hg.block k hk (by simp [Value.ownBlock])⟩).mono (by omega))) (by have := Hegu.out; omega)⟩, B68, (goneP_end _ _ _ _ (by omega)).symm, (goneP_end _ _ _ _ (by omega)).symm, Hok.out, by omega, by omega⟩
  have Hstart := Lib.hid hstart
  have HFew := Lib.hid (fun (W : World) (hW : Below gu w6 W) => hf6.kept hW (Nat.le_of_eq Hegu.out.symm))
  have Ht6 := Lib.hid ht6
  have Hw6 := Lib.hid hw6
  have HB6a := Lib.hid B6a
  clear hstart hu8 hPe B8 B68 hu P6 HPt t70 t71 ht6 hw6 hf6 B6a hT6 hW6
  go_wp2_with fail
  go_loopw [11, 12] (fun y i wr => ∃ (v : Value) (j : Int) (kk : Nat) (k : Option Addr) (c : Nat) (k2 : Option Addr) (c2 : Nat) (E : List Ev) (A : List Ans), y = v ∧ -1 ≤ j ∧ j < P ∧ Hid ((kk : Int) = j + 1) ∧ i = .int .i64 j ∧ Hid (PSt few evs (normA l) gu w6 wr kk v k c k2 c2 E A)) (fun _ i _ => (intOf i + 1).toNat)
  case atStart => exact ⟨_, _, P, _, _, _, _, _, _, rfl, by omega, by omega, Lib.hid (by omega), rfl, Hstart⟩
  case round =>
    clear Hstart
    obtain ⟨v, j, kk, k, c, k2', c2', E, A, hv, hj1, hj2, Hkk, rfl, H⟩ := hrel
    have hv := hv.symm
    subst hv
    have hzr := H.out.below.size
    have hbl := H.out.blk
    have d0 := hbl.cell 0
    have d1 := hbl.cell 1
    have hltu := hbl.lt
    by_cases h0 : 0 ≤ j
    · obtain ⟨i, rfl⟩ : ∃ i : Nat, j = i := ⟨j.toNat, by omega⟩
      obtain rfl : kk = i + 1 := by have := Hkk.out; omega
      have Hown := Lib.hid H.out.own
      have hvl : (downL (evs.length + (normA l).length) (i + 1)).length ≤ 100 := by rw [downL_length, HPe.out]; omega
      have Hds := Lib.hid (downL_snoc (P := evs.length + (normA l).length) (i := i) (by have := HPe.out; omega))
      obtain ⟨D, hD⟩ : ∃ D, D = downL (evs.length + (normA l).length) (i + 1) := ⟨_, rfl⟩
      rw [← hD] at Hown hvl Hds
      have HD := Lib.hid hD
      clear hD hbl h0 d0 d1
      have HvB := Lib.hid (Hown.out.lt)
      go_upto_region 12 with (at_builtin; go_must (refine wpList_appB rfl _ _ 22 rfl 3 _ 1 8 Try.underlying22 info3 rfl (by omega) (by omega) (gu + 1) v D.length _ rfl (Hown.out.alloc _) wr.heap.size 1 1 #[I i] 3 rfl (heap_alloc_new _ _) rfl rfl (by omega) (by omega) (by simp; omega) ?_); intro g6 cap6 x6 hg6a hg6b hg6c ho6 hgr6 hB6)
      have hgS : wr.grownBy x6 v.ownBlock := (World.grownBy_alloc wr (.cells #[I i] 3) v.ownBlock).trans hgr6
      have hB66 : Below gu w6 x6 := (H.out.below.alloc (by omega) _).trans (hB6.mono (by omega))
      have hbl6 : Blk x6 gu #[.slice k E.length c, .slice k2' A.length c2'] := H.out.blk.grown hgS (fun e => by have := HvB.out _ e; omega)
      have HO6 := Lib.hid (show x6.ownsRow (gu + 1) 3 1 (.slice (some ⟨g6, 0, none⟩) (D.length + 1) cap6) (downL (evs.length + (normA l).length) i).length (iv (downL (evs.length + (normA l).length) i)) from by
        rw [Hds.out, List.length_append, iv, List.map_append]
        exact ho6)
      have HSep := Lib.hid (show ∀ w', x6.grownBy w' (some g6) → TapeIn w' k c k2' c2' E A from fun w' hg => H.out.sep w' (World.grownBy.andThen hgS hg (fun j' hj' => by
        cases hj'
        rcases hg6c with e | e
        · exact .inr e
        · exact .inl (by simp at e; omega))))
      have hg6l : g6 < x6.heap.size := hg6b
      have Hh := Lib.hid (has_any few i _ x6 (HFew.out x6 hB66))
      have d0 := hbl6.cell 0
      have d1 := hbl6.cell 1
      have hz6 := hgS.size
      have HgS := Lib.hid hgS
      have HB66 := Lib.hid hB66
      have Hbl6 := Lib.hid hbl6
      have Hg6c := Lib.hid hg6c
      clear hgS hB66 hbl6 hgr6 hB6 ho6 hg6c
      by_cases hin : (i : Int) ∈ few
      · have hin2 : decide ((i : Int) ∈ few) = true := by simp [hin]
        have hu7 : Blk (x6.alloc (.cells #[I i] 3)) gu #[.slice k E.length c, .slice k2' A.length c2'] := Hbl6.out.alloc _
        have hz7 : (x6.alloc (.cells #[I i] 3)).heap.size = x6.heap.size + 1 := World.size_alloc _ _
        have hi7 : IntSl (x6.alloc (.cells #[I i] 3)) (.slice (some ⟨x6.heap.size, 0, none⟩) 1 1) [(i : Int)] := Flat.of_cells (by simp [iv]) (by omega) (fun j' u hu => by
          rw [Nat.zero_add, (Blk.new x6 #[I i] 3).cell]
          simpa [iv] using hu)
        have HX := Lib.hid (withoutT E A [(i : Int)] k c k2' c2' _ (x6.alloc (.cells #[I i] 3)) (HSep.out _ (World.grownBy_alloc _ _ _)) hi7 H.out.ok (by have := H.out.lenE; omega) (by have := H.out.len; omega))
        have Hin := Lib.hid hin
        have Hu7 := Lib.hid hu7
        clear hi7 hin hu7
        go_wp2_with (first | (go_at_call 42; refine Hh.out.mono ?_; rintro e w3 ⟨rfl, rfl⟩) | (go_at_call 40; refine HX.out.mono ?_; rintro e y5 ⟨k7, c7, k8, c8, rfl, he7, ha7, B7⟩; have hu8 := Hu7.out.kept B7 (by omega); have e0 := hu8.cell 0; have e1 := hu8.cell 1; have f0 := hu8.frozen 0; have f1 := hu8.frozen 1))
        go_roundw
        case rel =>
          have hz8 := B7.size
          have hgs : y5.grownBy ((y5.setCell ⟨gu, 0, none⟩ (.slice k7 (dropAt [(i : Int)] 0 E).length c7)).setCell ⟨gu, 1, none⟩ (.slice k8 (dropAt [(i : Int)] E.length (normA A)).length c8)) (some gu) := (grown_set y5 ⟨gu, 0, none⟩ _).trans (grown_set _ ⟨gu, 1, none⟩ _)
          refine ⟨_, (i : Int) - 1, i, k7, c7, k8, c8, dropAt [(i : Int)] 0 E, dropAt [(i : Int)] E.length (normA A), rfl, by omega, by omega, Lib.hid (by omega), rfl, Lib.hid ⟨?_, (hu8.set 0 _).set 1 _, ?_, ?_, ?_, ?_, ?_, ?_, ?_⟩⟩
          · exact (owns_below (HO6.out.alloc (.cells #[I i] 3)) B7).kept hgs (.inr (by simp [Value.ownBlock]; omega))
          · intro w' hg
            refine TapeIn.owns ((he7.kept hgs ?_).kept hg ?_) ((ha7.kept hgs ?_).kept hg ?_)
            all_goals first | exact own_ne he7 (by omega) | exact own_ne ha7 (by omega) | (simp only [Value.ownBlock]; exact own_ne he7 (by omega)) | (simp only [Value.ownBlock]; exact own_ne ha7 (by omega))
          · exact ((HB66.out.alloc (by omega) _).trans (B7.mono (by omega))).grown hgs (by omega) (fun j' hj' => by cases hj'; omega)
          · rw [H.out.ev]; exact gone_ev Hin.out evs
          · rw [normA_dropAt, H.out.an, H.out.ev]; exact gone_an Hin.out evs (normA l)
          · exact fun a ha => normA_ok H.out.ok a (dropAt_mem ha)
          · exact Nat.le_trans (dropAt_length _ _ _) (Nat.le_trans (normA_length _) H.out.len)
          · exact Nat.le_trans (dropAt_length _ _ _) H.out.lenE
        case measure => first | (simp [intOf]; done) | (simp [intOf]; omega)
      · have hin2 : decide ((i : Int) ∈ few) = false := by simp [hin]
        have HG1 := Lib.hid (goneP_skip hin 0 evs)
        have HG2 := Lib.hid (goneP_skip hin evs.length (normA l))
        clear hin
        go_wp2_with (go_at_call 42; refine Hh.out.mono ?_; rintro e w3 ⟨rfl, rfl⟩)
        go_roundw
        case rel => exact ⟨_, (i : Int) - 1, i, _, _, _, _, _, _, rfl, by omega, by omega, Lib.hid (by omega), rfl, Lib.hid ⟨HO6.out, Hbl6.out, HSep.out, HB66.out, H.out.ev.trans HG1.out, H.out.an.trans HG2.out, H.out.ok, H.out.len, H.out.lenE⟩⟩
        case measure => first | (simp [intOf]; done) | (simp [intOf]; omega)
    · obtain rfl : kk = 0 := by have := Hkk.out; omega
      obtain rfl : j = -1 := by omega
      have hTr := HT6.out.kept H.out.below hltT
      have hWr := HW6.out.kept H.out.below hltW
      have t0 := hTr.cell 0
      have t1 := hTr.cell 1
      have htr : TapeIn wr k1 c1 k2 c2 evs l := ⟨Ht6.out.1.kept H.out.below (Nat.le_of_eq Hegu.out.symm), Ht6.out.2.kept H.out.below (Nat.le_of_eq Hegu.out.symm)⟩
      have hwr : TapeIn wr k3 c3 k4 c4 dE dA := ⟨Hw6.out.1.kept H.out.below (Nat.le_of_eq Hegu.out.symm), Hw6.out.2.kept H.out.below (Nat.le_of_eq Hegu.out.symm)⟩
      have hvr : IntSl wr v (downL (evs.length + (normA l).length) 0) := Flat.of_owns H.out.own
      have hX := withoutT evs l (downL (evs.length + (normA l).length) 0) k1 c1 k2 c2 v wr htr hvr Hok.out (by omega) (by omega)
      rw [dropAt_down _ 0 evs (by omega), dropAt_down _ evs.length (normA l) (Nat.le_refl _)] at hX
      have HX := Lib.hid (show Calls Try.prog 40 #[tv k1 c1 k2 c2 evs l, v] wr fun e w' => ∃ k c k2 c2, e = .returned (.agg #[.slice k 0 c, .slice k2 0 c2]) ∧ Below wr.heap.size wr w' from hX.mono (by rintro e w' ⟨k, c, k2, c2, rfl, _, _, h⟩; exact ⟨k, c, k2, c2, rfl, h⟩))
      have hEd : E = dE := by rw [H.out.ev, goneP_zero, HdE.out]
      have hAd : normA A = dA := by rw [H.out.an, goneP_zero, HdA.out]
      have Hu := Lib.hid H.out.same
      have HEd := Lib.hid hEd
      have HAd := Lib.hid hAd
      have Hwr := Lib.hid hwr
      have HWr := Lib.hid hWr
      have hltg := hltu
      clear hEd hAd hwr htr hvr hX hWr hTr d0 d1 hbl
      go_upto_region 15 with (go_at_call 40; refine HX.out.mono ?_; rintro e y5 ⟨k7, c7, k8, c8, rfl, B7⟩)
      obtain ⟨hN, P7, z7⟩ := boxed y5 #[.slice k7 0 c7, .slice k8 0 c8] 26
      have hu7 := (H.out.blk.kept B7 hltg).kept P7 (by have := B7.size; omega)
      have hw7 := (HWr.out.kept B7 (by omega)).kept P7 (by have := B7.size; omega)
      have B8 := Below.then B7 P7
      generalize y5.alloc (.cells #[.slice k7 0 c7, .slice k8 0 c8] 26) = y6 at hN P7 z7 hu7 hw7 B8 ⊢
      have d0 := hu7.cell 0
      have d1 := hu7.cell 1
      have x0 := hw7.cell 0
      have x1 := hw7.cell 1
      have Hdok : ∀ a ∈ dA, a.ok := Hwok.out
      have HQ := equalT E dE A dA k c k2' c2' k3 c3 k4 c4 y6 (Hu.out.kept B8) (Hwr.out.kept B8) H.out.ok Hdok (by have := H.out.len; omega) (by omega)
      rw [show (decide (E = dE) && decide (normA A = normA dA)) = true from by rw [HEd.out, decide_eq_true rfl, HAd.out, HdA.out, normA_dropAt, decide_eq_true rfl]; rfl] at HQ
      have HQ' := Lib.hid HQ
      have HN := Lib.hid hN
      have HB := Lib.hid (Below.then (HB6a.out.trans (H.out.below.mono (by have := HB6a.out.size; have := Hegu.out; omega)) : Below w.heap.size w wr) B8)
      have hltN := hN.lt
      obtain ⟨gn, egn⟩ : ∃ g, g = y5.heap.size := ⟨_, rfl⟩
      rw [← egn] at HN hltN ⊢
      clear HQ hN hu7 hw7 B8 P7 z7 egn B7 Hdok
      go_wp2_with fail
      refine HQ'.out.mono ?_
      rintro e y7 ⟨rfl, B9⟩
      have hn9 := HN.out.kept B9 hltN
      have n0 := hn9.cell 0
      have n1 := hn9.cell 1
      go_wp2_with fail
      refine (livesF _).mono ?_
      rintro e y8 ⟨rfl, B10⟩
      go_wp2_with fail
      go_ret
      exact ⟨rfl, Below.then (Below.then HB.out B9) B10⟩
end Go.Proofs.Ytjdhcdbjfbhogaa
