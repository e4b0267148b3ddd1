/- trace.Classes: its closure, slices.IndexFunc over the forms, the walk. -/
import Derived.Test.YtaedfidfcoigoaaK6
namespace Go.Proofs.Ytaedfidfcoigoaa
open Go.RowKit

theorem info23 : (Try.prog.info? 23).map (fun i => (i.zero, i.size, i.bytes)) = some (some (.slice none 0 0), 1, 24) := by kernel_rfl
theorem info22' : (Try.prog.info? 22).map (fun i => (i.zero, i.size, i.bytes)) = some (some (.slice none 0 0), 1, 24) := by kernel_rfl

set_option maxHeartbeats 400000 in
theorem fnClasses (f m : List Stp) (h u : Value) (q : Nat) (w : World) (hq : w.cell? ⟨q, 0, none⟩ = some u) (hf : StpSl w h f) (hm : StpSl w u m) :
    Calls Try.prog 40 #[h, .pointer (some ⟨q, 0, none⟩)] w fun e w' => e = .returned (.bool (decide (f = m))) ∧ Below w.heap.size w w' := by
  have H := Lib.hid (equalFunc f m h u w hf hm)
  obtain ⟨ka, ca, rfl, _⟩ := hf.open
  obtain ⟨kb, cb, rfl, _⟩ := hm.open
  clear hf hm
  go_enter Try.func40, Try.ntmps40
  go_wp2_with fail
  refine H.out.mono ?_
  rintro e w1 ⟨rfl, hB1⟩
  go_wp2_with fail
  go_ret
  exact ⟨rfl, hB1⟩

set_option maxHeartbeats 1600000 in
set_option maxRecDepth 100000 in
theorem indexRuns (fm : List (List Stp)) (m : List Stp) (v u : Value) (q : Nat) (w : World) (hl : RunsSl w v fm) (hq : w.cell? ⟨q, 0, none⟩ = some u) (hm : StpSl w u m) :
    Calls Try.prog 39 #[v, .func (.func 40) #[] #[.pointer (some ⟨q, 0, none⟩)]] w fun e w' => ∃ r : Int, e = .returned (I r) ∧ ((r = -1 ∧ ∀ (j : Nat) (f : List Stp), fm[j]? = some f → f ≠ m) ∨ ∃ k : Nat, r = k ∧ fm[k]? = some m) ∧ Below w.heap.size w w' := by
  obtain ⟨ka, ca, rfl, hml⟩ := hl.open
  have hql : q < w.heap.size := by simpa using World.block_lt_of_cell? _ _ hq
  have c : ∀ (f : List Stp) (h : Value) (W : World), Below w.heap.size w W → StpSl W h f → Calls Try.prog 40 #[h, .pointer (some ⟨q, 0, none⟩)] W fun e w' => e = .returned (.bool (decide (f = m))) ∧ Below W.heap.size W w' := fun f h W hB hf =>
    fnClasses f m h u q W ((hB.cell (p := ⟨q, 0, none⟩) hql).trans hq) hf (hm.kept hB (Nat.le_refl _))
  have C := Lib.hid c
  clear c hq hm
  go_enter Try.func39, Try.ntmps39
  go_wp2_with fail
  go_loopw [8] (fun i wr => ∃ k : Nat, k ≤ fm.length ∧ i = .int .i64 k ∧ Below w.heap.size w wr ∧ (∀ j < k, ∀ (f : List Stp), fm[j]? = some f → f ≠ m)) (fun i _ => fm.length - (intOf i).toNat)
  case atStart => exact ⟨0, by omega, rfl, Below.refl _ _, fun j hj => absurd hj (by omega)⟩
  case round =>
    obtain ⟨k, hk, rfl, hB, hE⟩ := hrel
    have HE := Lib.hid hE
    clear hE
    by_cases hlt : k < fm.length
    · obtain ⟨b, o, x, rfl, hx, hsx⟩ := (hl.kept hB (Nat.le_refl _)).at (k := k) (r := fm[k]) (by simp [hlt])
      obtain ⟨kx, cx, rfl, _⟩ := hsx.open
      have c1 := C.out fm[k] _ wr hB hsx
      by_cases he : fm[k] = m
      · rw [decide_eq_true he] at c1
        have C1 := Lib.hid c1
        have He := Lib.hid he
        clear c1 he hsx
        go_wp2_with fail
        refine C1.out.mono ?_
        rintro e w1 ⟨rfl, hB1⟩
        have hBB := hB.trans (hB1.mono hB.size)
        go_wp2_with fail
        go_ret
        exact ⟨k, rfl, .inr ⟨k, rfl, by rw [List.getElem?_eq_getElem hlt, He.out]⟩, hBB⟩
      · rw [decide_eq_false he] at c1
        have C1 := Lib.hid c1
        have He := Lib.hid he
        clear c1 he hsx
        go_wp2_with fail
        refine C1.out.mono ?_
        rintro e w1 ⟨rfl, hB1⟩
        have hBB := hB.trans (hB1.mono hB.size)
        go_wp2_with fail
        go_roundw
        case rel =>
          refine ⟨k + 1, by omega, by go_num, hBB, ?_⟩
          intro j hj f hf
          by_cases hjk : j = k
          · subst hjk
            rw [List.getElem?_eq_getElem hlt] at hf
            cases hf
            exact He.out
          · exact HE.out j (by omega) f hf
        case measure => simp [intOf]; omega
    · go_wp2_with fail
      go_ret
      refine ⟨-1, rfl, .inl ⟨rfl, fun j f hf => HE.out j (by have := (List.getElem?_eq_some_iff.1 hf).1; omega) f hf⟩, hB⟩

theorem CS.runs {B : Nat} {w : World} {vf vo : Value} {fs hs : List Value} {fm : List (List Stp)} {ls : List (List Nat)} {P : Nat → Prop} (h : CS B w vf vo fs hs fm ls P) : RunsSl w vf fm :=
  ⟨fs, by have := Flat.of_owns h.fo; rwa [h.fl] at this, fun k x f h1 h2 => h.fk k x f h1 h2 w (Same.refl _ _)⟩

theorem clsL_succ (F : List (List Stp)) (k : Nat) (hk : k < F.length) : clsL F (k + 1) = clsS F[k] k (clsL F k) := by
  rw [clsL]
  simp [hk]
theorem cls_new (F : List (List Stp)) (k : Nat) (hk : k < F.length) (h : ∀ (j : Nat) (f : List Stp), ((clsL F k).map Prod.fst)[j]? = some f → f ≠ F[k]) :
    (clsL F (k + 1)).map Prod.fst = (clsL F k).map Prod.fst ++ [F[k]] ∧ (clsL F (k + 1)).map Prod.snd = (clsL F k).map Prod.snd ++ [[k]] := by
  have e := clsS_new F[k] k (clsL F k) (fun j p hp => h j p.1 (by rw [List.getElem?_map, hp]; rfl))
  rw [clsL_succ F k hk, e]
  simp
theorem cls_old (F : List (List Stp)) (k j : Nat) (hk : k < F.length) (h : ((clsL F k).map Prod.fst)[j]? = some F[k]) :
    ∃ l, ((clsL F k).map Prod.snd)[j]? = some l ∧ (clsL F (k + 1)).map Prod.fst = (clsL F k).map Prod.fst ∧ (clsL F (k + 1)).map Prod.snd = ((clsL F k).map Prod.snd).set j (l ++ [k]) := by
  rw [List.getElem?_map] at h
  cases hp : (clsL F k)[j]? with
  | none => rw [hp] at h; cases h
  | some p =>
    rw [hp] at h
    obtain ⟨g, l⟩ := p
    simp at h
    subst h
    refine ⟨l, by rw [List.getElem?_map, hp]; rfl, ?_, ?_⟩
    · rw [clsL_succ F k hk, clsS_fst, if_pos ((clsHas_mem _ _).2 (List.mem_map.2 ⟨_, List.mem_of_getElem? hp, rfl⟩))]
    · rw [clsL_succ F k hk, clsS_set _ k _ j l (clsL_nodup F k) hp, List.map_set]

theorem CR.cell {B : Nat} {w : World} {g n cap : Nat} {hs : List Value} {ls : List (List Nat)} (h : CR B w (.slice (some ⟨g, 0, none⟩) n cap) hs ls) {k : Nat} {hd : Value} (hk : hs[k]? = some hd) : w.cell? ⟨g, k, none⟩ = some hd := by
  have hnn : n = hs.length := by
    rcases h.oo.2 with ⟨h0, _⟩ | ⟨g', cap', cur, h0, _⟩
    · simp at h0
    · simp at h0; exact h0.2.1
  subst hnn
  have hkl := (List.getElem?_eq_some_iff.1 hk).1
  exact (h.oo.cellAt k (by omega)).trans hk
theorem CS.slot {B : Nat} {w w' : World} {vf : Value} {g n cap : Nat} {fs hs : List Value} {fm : List (List Stp)} {ls : List (List Nat)} {P : Nat → Prop} (h : CS B w vf (.slice (some ⟨g, 0, none⟩) n cap) fs hs fm ls P) {k : Nat} {hd : Value} (hk : hs[k]? = some hd) (hg : w.grownBy w' hd.ownBlock) :
    w'.cell? ⟨g, k, none⟩ = some hd ∧ w'.frozen? ⟨g, k, none⟩ = false := by
  have ho : w'.ownsRow B 22 1 (.slice (some ⟨g, 0, none⟩) n cap) hs.length hs := h.co.oo.kept hg (.inr fun e => h.co.dj k hd g hk e.symm rfl)
  have hnn : n = hs.length := by
    rcases h.co.oo.2 with ⟨h0, _⟩ | ⟨g', cap', cur, h0, _⟩
    · simp at h0
    · simp at h0; exact h0.2.1
  subst hnn
  have hkl := (List.getElem?_eq_some_iff.1 hk).1
  exact ⟨(ho.cellAt k (by omega)).trans hk, ho.frozenAt k⟩
theorem CS.lens {B : Nat} {w : World} {vf vo : Value} {fs hs : List Value} {F : List (List Stp)} {k : Nat} {P : Nat → Prop} (h : CS B w vf vo fs hs ((clsL F k).map Prod.fst) ((clsL F k).map Prod.snd) P) : fs.length = hs.length ∧ hs.length = ((clsL F k).map Prod.snd).length ∧ hs.length ≤ k := by
  have h1 := h.fl
  have h2 := h.co.len
  have h3 := clsL_len F k
  rw [List.length_map] at h1 h2
  rw [List.length_map]
  omega
theorem CS.hd {B : Nat} {w : World} {vf vo : Value} {fs hs : List Value} {fm : List (List Stp)} {ls : List (List Nat)} {P : Nat → Prop} (h : CS B w vf vo fs hs fm ls P) {j : Nat} {l : List Nat} (hl : ls[j]? = some l) : ∃ hd, hs[j]? = some hd ∧ w.ownsRow B 3 1 hd l.length (iv (natI l)) := by
  have hjl := (List.getElem?_eq_some_iff.1 hl).1
  have hjh : j < hs.length := by rw [h.co.len]; exact hjl
  have hx : hs[j]? = some (hs[j]'hjh) := List.getElem?_eq_getElem hjh
  exact ⟨_, hx, h.co.row j _ l hx hl⟩

set_option maxHeartbeats 8000000 in
set_option maxRecDepth 100000 in
theorem trClasses (runs : List (List Stp)) (v : Value) (w : World) (hr : RunsSl w v runs) (hn : runs.length ≤ 6) (hok : ∀ r ∈ runs, RunOk r) :
    Calls Try.prog 21 #[v] w fun e w' => ∃ u, e = .returned u ∧ ClsSl w' u ((clsL (runs.map normS) runs.length).map Prod.snd) ∧ Below w.heap.size w w' := by
  obtain ⟨ka, ca, rfl, hml⟩ := hr.open
  obtain ⟨F, hF⟩ : ∃ F, F = runs.map normS := ⟨_, rfl⟩
  have hFl : F.length = runs.length := by rw [hF, List.length_map]
  have hFk : ∀ (k : Nat) (h1 : k < runs.length) (h2 : k < F.length), F[k] = normS runs[k] := fun k h1 h2 => by subst hF; simp
  rw [← hF]
  have HFk := Lib.hid hFk
  have HFl := Lib.hid hFl
  have Hok := Lib.hid hok
  clear hF hFk hFl hok
  go_enter Try.func21, Try.ntmps21
  go_wp2_with fail
  go_loopw [3, 4, 11] (fun vf vo p wr => ∃ (k : Nat) (fs hs : List Value) (P : Nat → Prop), k ≤ runs.length ∧ p = .int .i64 k ∧ Hid (CS w.heap.size wr vf vo fs hs ((clsL F k).map Prod.fst) ((clsL F k).map Prod.snd) P) ∧ Below w.heap.size w wr) (fun _ _ p _ => runs.length - (intOf p).toNat)
  case atStart => exact ⟨0, [], [], _, by omega, rfl, Lib.hid (CS.start _ _), Below.refl _ _⟩
  case round =>
    obtain ⟨k, fs, hs, P, hk, rfl, HC, hB⟩ := hrel
    obtain ⟨vo, rfl⟩ : ∃ vo : Value, vo = u4 := ⟨_, rfl⟩
    obtain ⟨fa, fc, rfl, hfm⟩ := (Flat.of_owns HC.out.fo).open
    obtain ⟨hl1, hl2, hl3⟩ := HC.out.lens
    have Hl1 := Lib.hid hl1
    have Hl2 := Lib.hid hl2
    rw [hl1] at HC ⊢
    clear hl1 hl2
    by_cases hlt : k < runs.length
    · have hltF : k < F.length := by rw [HFl.out]; exact hlt
      obtain ⟨b, o, x, rfl, hx, hsx⟩ := (hr.kept hB (Nat.le_refl _)).at (k := k) (r := runs[k]) (by simp [hlt])
      have hrok := Hok.out _ (List.getElem_mem hlt)
      have hnorm := trNormalF runs[k] x wr hsx hrok.len hrok.asks hrok.sent
      rw [← HFk.out k hlt hltF] at hnorm
      obtain ⟨fk, hfk⟩ : ∃ f, f = F[k] := ⟨_, rfl⟩
      rw [← hfk] at hnorm
      have Hnorm := Lib.hid hnorm
      have Hfk := Lib.hid hfk
      obtain ⟨kx, cx, rfl, _⟩ := hsx.open
      clear hnorm hfk hsx hrok
      go_wp2_with fail
      refine Hnorm.out.mono ?_
      rintro e w1 ⟨u, rfl, hu, hB1⟩
      obtain ⟨P1, hC1, hP1⟩ := HC.out.join hB1 hu
      obtain ⟨ku, cu, rfl, _⟩ := hu.open
      have hsu := hu.sl
      have hBw1 := hB.trans (hB1.mono hB.size)
      have HC1 := Lib.hid hC1
      have HP1 := Lib.hid hP1
      have Hsu := Lib.hid hsu
      clear hu hC1 hP1 hsu HC
      have hbox : Below w1.heap.size w1 (w1.alloc (.cells #[.slice ku fk.length cu] 23)) := (Below.refl _ _).alloc (Nat.le_refl _) _
      have hidx := indexRuns ((clsL F k).map Prod.fst) fk _ _ w1.heap.size (w1.alloc (.cells #[.slice ku fk.length cu] 23)) (HC1.out.below hbox).runs ((Blk.new w1 #[.slice ku fk.length cu] 23).cell 0) (Hsu.out.kept hbox (Nat.le_refl _))
      have Hidx := Lib.hid hidx
      have Hbox := Lib.hid hbox
      clear hidx hbox
      go_wp2_with fail
      refine Hidx.out.mono ?_
      rintro e w2 ⟨r, rfl, hres, hB2⟩
      have hB12 : Below w1.heap.size w1 w2 := Hbox.out.trans (hB2.mono Hbox.out.size)
      have hcu : w2.cell? ⟨w1.heap.size, 0, none⟩ = some (.slice ku fk.length cu) := cell_below hB2 (Nat.le_refl _) ((Blk.new w1 #[.slice ku fk.length cu] 23).cell 0)
      have HC2 := Lib.hid (HC1.out.below hB12)
      have HP2 := Lib.hid (fun w2' (h : Same P1 w2 w2') => HP1.out w2' ((Same.below hB12 fun b hb => (HC1.out.pl b hb).1).trans h))
      have hBw2 := hBw1.trans (hB12.mono hBw1.size)
      clear hB2 hB12 HC1 HP1 Hbox Hidx Hsu Hnorm
      rcases hres with ⟨rfl, hno⟩ | ⟨j, rfl, hyes⟩
      · have hcn := cls_new F k hltF (fun j f hj => by rw [← Hfk.out]; exact hno j f hj)
        rw [← Hfk.out] at hcn
        have Hcn := Lib.hid hcn
        have hzz := hBw2.size
        clear hno hcn
        go_upto_region 11 with (at_builtin; go_must (refine wpList_appB rfl _ _ 33 rfl 23 _ 1 24 Try.underlying33 info23 rfl (by omega) (by omega) w.heap.size _ fs.length fs rfl (HC2.out.fo.alloc _) w2.heap.size 1 1 #[.slice ku fk.length cu] 23 rfl (heap_alloc_new _ _) rfl rfl (by omega) (by have := Hl1.out; omega) (by rw [World.size_alloc]; omega) ?_); intro g3 cap3 w3 hg1 hg2 hg3 ho3 hgr3 hB3)
        have hA2 : Below w2.heap.size w2 (w2.alloc (.cells #[.slice ku fk.length cu] 23)) := (Below.refl _ _).alloc (Nat.le_refl _) _
        have hC3 := (HC2.out.below hA2).pushF (u := .slice ku fk.length cu) (f := fk) (fun w' h => HP2.out w' ((Same.below hA2 fun b hb => (HC2.out.pl b hb).1).trans h)) hgr3 ho3 (fun b hb => by
          have e : g3 = b := by simpa [Value.ownBlock] using hb
          subst e
          rcases hg3 with h | h
          · exact .inl h
          · exact .inr (Nat.le_of_eq h.symm))
        have hBw3 : Below w.heap.size w w3 := (hBw2.trans (hA2.mono hzz)).trans hB3
        have HC3 := Lib.hid hC3
        have hz3 := hBw3.size
        clear hC3 ho3 hgr3 hB3 hg1 hg2 hg3 HC2 HP2 hA2 hcu
        go_upto_region 12 with (at_builtin; go_must (refine wpList_appB rfl _ _ 34 rfl 22 _ 1 24 Try.underlying34 info22' rfl (by omega) (by omega) w.heap.size vo hs.length hs rfl (HC3.out.co.oo.alloc _) w3.heap.size 1 1 #[.slice none 0 0] 22 rfl (heap_alloc_new _ _) rfl rfl (by omega) (by omega) (by rw [World.size_alloc]; omega) ?_); intro g4 cap4 w4 hg1 hg2 hg3 ho4 hgr4 hB4)
        have hA3 : Below w3.heap.size w3 (w3.alloc (.cells #[.slice none 0 0] 22)) := (Below.refl _ _).alloc (Nat.le_refl _) _
        have hC4 := (HC3.out.below hA3).pushR hgr4 ho4 (fun b hb => by
          have e : g4 = b := by simpa [Value.ownBlock] using hb
          subst e
          rcases hg3 with h | h
          · exact .inl h
          · exact .inr (Nat.le_of_eq h.symm))
        have hBw4 : Below w.heap.size w w4 := (hBw3.trans (hA3.mono hz3)).trans hB4
        have hk4 : (hs ++ [Value.slice none 0 0])[hs.length]? = some (.slice none 0 0) := by simp
        have c4 : w4.cell? ⟨g4, hs.length, none⟩ = some (.slice none 0 0) := hC4.co.cell hk4
        have HC4 := Lib.hid hC4
        have Hk4 := Lib.hid hk4
        have hz4 := hBw4.size
        clear hC4 ho4 hgr4 hB4 hg1 hg2 hg3 HC3 hA3 hk4
        have hA4 : Below w4.heap.size w4 (w4.alloc (.cells #[I k] 3)) := (Below.refl _ _).alloc (Nat.le_refl _) _
        have HC4b := Lib.hid (HC4.out.below hA4)
        have HA4 := Lib.hid hA4
        clear hA4
        go_wp2_with (at_builtin; go_must (refine wpList_appB rfl _ _ 22 rfl 3 _ 1 8 Try.underlying22 info3 rfl (by omega) (by omega) w.heap.size (.slice none 0 0) 0 [] rfl (World.ownsRow_nil _ _ _ _) w4.heap.size 1 1 #[I k] 3 rfl (heap_alloc_new _ _) rfl rfl (by omega) (by omega) (by rw [World.size_alloc]; omega) ?_); intro g5 cap5 w5 hg1 hg2 hg3 ho5 hgr5 hB5; obtain ⟨c5, f5⟩ := HC4b.out.slot Hk4.out hgr5)
        have hC5 := HC4b.out.put (i := k) (hd' := .slice (some ⟨g5, 0, none⟩) (0 + 1) cap5) Hk4.out (l := []) (by rw [Hl2.out]; simp) hgr5 ho5 (fun b hb => by
          have e : g5 = b := by simpa [Value.ownBlock] using hb
          subst e
          rcases hg3 with h | h
          · exact .inl h
          · exact .inr (Nat.le_of_eq h.symm))
        have hls : ((clsL F k).map Prod.snd ++ [[]]).set hs.length ([] ++ [k]) = (clsL F k).map Prod.snd ++ [[k]] := by rw [Hl2.out]; simp
        rw [hls, ← Hcn.out.1, ← Hcn.out.2] at hC5
        have HC5 := Lib.hid hC5
        have hBw5 := ((hBw4.trans (HA4.out.mono hz4)).trans hB5).setCell (p := ⟨g4, hs.length, none⟩) (by have := (HC4.out.co.oo.lt g4 rfl).1; exact this) (.slice (some ⟨g5, 0, none⟩) (0 + 1) cap5)
        have HBw5 := Lib.hid hBw5
        clear hls hC5 hBw5 ho5 hgr5 hB5 hg1 hg2 hg3 c4 c5 f5
        go_roundw
        case rel => exact ⟨k + 1, _, _, P1, by omega, by go_num, HC5, HBw5.out⟩
        case measure => simp [intOf]; omega
      · obtain ⟨l, hl, hc1, hc2⟩ := cls_old F k j hltF (by rw [← Hfk.out]; exact hyes)
        obtain ⟨hd, hjd, hrow⟩ := HC2.out.hd hl
        have hjl : j < hs.length := (List.getElem?_eq_some_iff.1 hjd).1
        obtain ⟨go, co, rfl, hgo, _⟩ := HC2.out.co.oo.form (by omega)
        obtain ⟨ah, ch, rfl, _⟩ := (Flat.of_owns hrow).open
        have c2 : w2.cell? ⟨go, j, none⟩ = some (.slice ah l.length ch) := HC2.out.co.cell hjd
        have hll : l.length ≤ k := by
          obtain ⟨p, hp, e⟩ := List.mem_map.1 (List.mem_of_getElem? hl)
          subst e
          exact (clsL_lt F k p hp).1
        have hj0 : decide ((j : Int) < 0) = false := by simp
        have hzz := hBw2.size
        have hA2 : Below w2.heap.size w2 (w2.alloc (.cells #[I k] 3)) := (Below.refl _ _).alloc (Nat.le_refl _) _
        have HA2 := Lib.hid hA2
        have HC2b := Lib.hid (HC2.out.below hA2)
        have Hrow := Lib.hid (hrow.alloc (.cells #[I k] 3))
        have Hjd := Lib.hid hjd
        have Hhl := Lib.hid hl
        have Hc1 := Lib.hid hc1
        have Hc2 := Lib.hid hc2
        have b1 : (0 : Int) ≤ (j : Int) := by omega
        have b2 : (j : Int) < (hs.length : Int) := by omega
        clear hA2 hrow hjd hl hc1 hc2 hyes HC2 HP2 hcu
        go_wp2_with (at_builtin; go_must (refine wpList_appB rfl _ _ 22 rfl 3 _ 1 8 Try.underlying22 info3 rfl (by omega) (by omega) w.heap.size (.slice ah l.length ch) l.length (iv (natI l)) rfl Hrow.out w2.heap.size 1 1 #[I k] 3 rfl (heap_alloc_new _ _) rfl rfl (by omega) (by omega) (by rw [World.size_alloc]; omega) ?_); intro g5 cap5 w5 hg1 hg2 hg3 ho5 hgr5 hB5; obtain ⟨c5, f5⟩ := HC2b.out.slot Hjd.out hgr5)
        have ho5' : w5.ownsRow w.heap.size 3 1 (.slice (some ⟨g5, 0, none⟩) (l.length + 1) cap5) (l ++ [k]).length (iv (natI (l ++ [k]))) := by
          rw [natI_snoc, List.length_append]
          exact ho5
        have hC5 := HC2b.out.put (i := k) (hd' := .slice (some ⟨g5, 0, none⟩) (l.length + 1) cap5) Hjd.out Hhl.out hgr5 ho5' (fun b hb => by
          have e : g5 = b := by simpa [Value.ownBlock] using hb
          subst e
          rcases hg3 with h | h
          · exact .inl h
          · exact .inr (Nat.le_of_eq h.symm))
        rw [← Hc1.out, ← Hc2.out] at hC5
        have HC5 := Lib.hid hC5
        have hBw5 := ((hBw2.trans (HA2.out.mono hzz)).trans hB5).setCell (p := ⟨go, j, none⟩) hgo (.slice (some ⟨g5, 0, none⟩) (l.length + 1) cap5)
        have HBw5 := Lib.hid hBw5
        clear hC5 hBw5 ho5 ho5' hgr5 hB5 hg1 hg2 hg3 c2 c5 f5
        go_roundw
        case rel => exact ⟨k + 1, _, _, P1, by omega, by go_num, HC5, HBw5.out⟩
        case measure => simp [intOf]; omega
    · have hke : k = runs.length := by omega
      have hsl := HC.out.co.sl
      rw [hke] at hsl
      have Hsl := Lib.hid hsl
      clear hsl HC
      go_wp2_with fail
      go_ret
      exact ⟨_, rfl, Hsl.out, hB⟩

end Go.Proofs.Ytaedfidfcoigoaa
