/- SameInts, SameClasses at equal lists; the reference's Classes. -/
import Derived.Test.YtaedfidfcoigoaaK7
namespace Go.Proofs.Ytaedfidfcoigoaa
open Go.RowKit

set_option maxHeartbeats 800000 in
set_option maxRecDepth 100000 in
theorem sameIntsEq (l : List Int) (v u : Value) (w : World) (hl : IntSl w v l) (hm : IntSl w u l) : Calls Try.prog 41 #[v, u] w fun e w' => e = .returned (.bool true) ∧ Below w.heap.size w w' := by
  obtain ⟨ka, ca, rfl, hml⟩ := hl.open
  obtain ⟨kb, cb, rfl, hmm⟩ := hm.open
  have e0 : ((l.length : Int) != (l.length : Int)) = false := by simp
  go_enter Try.func41, Try.ntmps41
  go_wp2_with fail
  go_loopw [5] (fun i wr => ∃ k : Nat, k ≤ l.length ∧ i = .int .i64 k ∧ Below w.heap.size w wr) (fun i _ => l.length - (intOf i).toNat)
  case atStart => exact ⟨0, by omega, rfl, Below.refl _ _⟩
  case round =>
    clear e0
    obtain ⟨k, hk, rfl, hB⟩ := hrel
    by_cases hlt : k < l.length
    · obtain ⟨b1, o1, rfl, c1⟩ := (hl.kept hB (Nat.le_refl _)).at (i := k) (x := l[k]) (by simp [hlt])
      obtain ⟨b2, o2, rfl, c2⟩ := (hm.kept hB (Nat.le_refl _)).at (i := k) (x := l[k]) (by simp [hlt])
      have e1 : (l[k] != l[k]) = false := by simp
      have b0 : (0 : Int) ≤ (k : Int) := by omega
      have b1' : (k : Int) < (l.length : Int) := by omega
      go_wp2_with fail
      refine wp_region_ordN 9 [(0, true), (1, true), (2, true), (3, true), (4, true), (5, true), (6, true), (7, true), (8, true)] (fun w' => w'.cell? ⟨b1, o1 + k, none⟩ = some (I l[k]) ∧ w'.cell? ⟨b2, o2 + k, none⟩ = some (I l[k])) (by kernel_rfl) rfl rfl (by kernel_rfl) ⟨c1, c2⟩ ?_
      iterate 9 (refine wpOrd_take ?_ (by rfl) ?_ ?_; rotate_left; (intro w hSw; (try dsimp only at hSw); go_simp; try with_reducible rfl); (try simp only [Act.put, List.setIfInBounds_toArray, List.set_cons_zero, List.set_cons_succ]))
      refine wpOrd_nil ?_
      go_wp2_with fail
      refine NoPanic.normal ?_
      go_wp2_with fail
      go_roundw
      case rel => exact ⟨k + 1, by omega, by go_num, hB.drew⟩
      case measure => simp [intOf]; omega
    · go_wp2_with fail
      go_ret
      exact ⟨rfl, hB⟩

set_option maxHeartbeats 800000 in
set_option maxRecDepth 100000 in
theorem sameClasses (ls : List (List Nat)) (v u : Value) (w : World) (hl : ClsSl w v ls) (hm : ClsSl w u ls) : Calls Try.prog 22 #[v, u] w fun e w' => e = .returned (.bool true) ∧ Below w.heap.size w w' := by
  obtain ⟨ka, ca, rfl, hml⟩ := hl.open
  obtain ⟨kb, cb, rfl, hmm⟩ := hm.open
  have e0 : ((ls.length : Int) != (ls.length : Int)) = false := by simp
  go_enter Try.func22, Try.ntmps22
  go_wp2_with fail
  go_loopw [5] (fun i wr => ∃ k : Nat, k ≤ ls.length ∧ i = .int .i64 k ∧ Below w.heap.size w wr) (fun i _ => ls.length - (intOf i).toNat)
  case atStart => exact ⟨0, by omega, rfl, Below.refl _ _⟩
  case round =>
    clear e0
    obtain ⟨k, hk, rfl, hB⟩ := hrel
    by_cases hlt : k < ls.length
    · obtain ⟨b1, o1, x1, rfl, c1, h1⟩ := (hl.kept hB (Nat.le_refl _)).at (k := k) (l := ls[k]) (by simp [hlt])
      obtain ⟨b2, o2, x2, rfl, c2, h2⟩ := (hm.kept hB (Nat.le_refl _)).at (k := k) (l := ls[k]) (by simp [hlt])
      have H := Lib.hid (sameIntsEq (natI ls[k]) x1 x2 wr.drew (h1.kept (Below.refl _ _).drew (Nat.le_refl _)) (h2.kept (Below.refl _ _).drew (Nat.le_refl _)))
      obtain ⟨y1, d1, rfl, _⟩ := h1.open
      obtain ⟨y2, d2, rfl, _⟩ := h2.open
      have b0 : (0 : Int) ≤ (k : Int) := by omega
      have b1' : (k : Int) < (ls.length : Int) := by omega
      clear h1 h2
      go_wp2_with fail
      refine wp_region_ordN 8 [(0, true), (1, true), (2, true), (3, true), (4, true), (5, true), (6, true), (7, true)] (fun w' => w'.cell? ⟨b1, o1 + k, none⟩ = some (.slice y1 (natI ls[k]).length d1) ∧ w'.cell? ⟨b2, o2 + k, none⟩ = some (.slice y2 (natI ls[k]).length d2)) (by kernel_rfl) rfl rfl (by kernel_rfl) ⟨c1, c2⟩ ?_
      iterate 8 (refine wpOrd_take ?_ (by rfl) ?_ ?_; rotate_left; (intro w hSw; (try dsimp only at hSw); go_simp; try with_reducible rfl); (try simp only [Act.put, List.setIfInBounds_toArray, List.set_cons_zero, List.set_cons_succ]))
      refine wpOrd_nil ?_
      go_wp2_with fail
      refine H.out.mono ?_
      rintro e w1 ⟨rfl, hB1⟩
      have hBw1 : Below w.heap.size w w1 := hB.drew.trans (hB1.mono hB.drew.size)
      go_wp2_with fail
      refine NoPanic.normal ?_
      go_wp2_with fail
      go_roundw
      case rel => exact ⟨k + 1, by omega, by go_num, hBw1⟩
      case measure => simp [intOf]; omega
    · go_wp2_with fail
      go_ret
      exact ⟨rfl, hB⟩

/-- Is one of the first m classes of form f? -/
def hasTo (f : List Stp) (m : Nat) (cs : Cls) : Bool := clsHas f (cs.take m)
theorem hasTo_succ (f : List Stp) (m : Nat) (cs : Cls) (h : m < cs.length) : hasTo f (m + 1) cs = (hasTo f m cs || decide (cs[m].1 = f)) := by
  unfold hasTo clsHas
  rw [List.take_succ_eq_append_getElem h, List.any_append]
  simp
theorem clsUpTo_snd_len (f : List Stp) (i m : Nat) (cs : Cls) : ((clsUpTo f i m cs).map Prod.snd).length = cs.length := by rw [List.length_map, clsUpTo_len]
theorem clsUpTo_yes (f : List Stp) (i m : Nat) (cs : Cls) (h : m < cs.length) (he : cs[m].1 = f) : (clsUpTo f i (m + 1) cs).map Prod.snd = ((clsUpTo f i m cs).map Prod.snd).set m (cs[m].2 ++ [i]) := by
  rw [clsUpTo_succ f i m cs h, List.map_set]
  simp [clsUp, he]
theorem clsUpTo_no (f : List Stp) (i m : Nat) (cs : Cls) (h : m < cs.length) (he : cs[m].1 ≠ f) : (clsUpTo f i (m + 1) cs).map Prod.snd = (clsUpTo f i m cs).map Prod.snd := by
  rw [clsUpTo_succ f i m cs h, List.map_set]
  have : (clsUp f i cs[m]).2 = cs[m].2 := by simp [clsUp, he]
  rw [this]
  apply List.ext_getElem?
  intro j
  by_cases e : m = j
  · subst e
    rw [List.getElem?_set_self (by rw [List.length_map, clsUpTo_len]; exact h), List.getElem?_map, clsUpTo_get f i m cs h]
    rfl
  · rw [List.getElem?_set_ne e]
theorem CR.slot {B : Nat} {w w' : World} {g n cap : Nat} {hs : List Value} {ls : List (List Nat)} (h : CR B w (.slice (some ⟨g, 0, none⟩) n cap) hs ls) {k : Nat} {hd : Value} (hk : hs[k]? = some hd) (hg : w.grownBy w' hd.ownBlock) :
    w'.cell? ⟨g, k, none⟩ = some hd ∧ w'.frozen? ⟨g, k, none⟩ = false := by
  have ho : w'.ownsRow B 22 1 (.slice (some ⟨g, 0, none⟩) n cap) hs.length hs := h.oo.kept hg (.inr fun e => h.dj k hd g hk e.symm rfl)
  have hnn : n = hs.length := by
    rcases h.oo.2 with ⟨h0, _⟩ | ⟨g', cap', cur, h0, _⟩
    · simp at h0
    · simp at h0; exact h0.2.1
  subst hnn
  have hkl := (List.getElem?_eq_some_iff.1 hk).1
  exact ⟨(ho.cellAt k (by omega)).trans hk, ho.frozenAt k⟩
theorem CR.hd {B : Nat} {w : World} {vo : Value} {hs : List Value} {ls : List (List Nat)} (h : CR B w vo hs ls) {j : Nat} {l : List Nat} (hl : ls[j]? = some l) : ∃ hd, hs[j]? = some hd ∧ w.ownsRow B 3 1 hd l.length (iv (natI l)) := by
  have hjl := (List.getElem?_eq_some_iff.1 hl).1
  have hjh : j < hs.length := by rw [h.len]; exact hjl
  have hx : hs[j]? = some (hs[j]'hjh) := List.getElem?_eq_getElem hjh
  exact ⟨_, hx, h.row j _ l hx hl⟩

theorem clsUp_none (f : List Stp) (i : Nat) (cs : Cls) (h : clsHas f cs = false) : (cs.map (clsUp f i)).map Prod.snd = cs.map Prod.snd := by
  rw [List.map_map]
  refine List.map_congr_left fun p hp => ?_
  have : p.1 ≠ f := fun e => by
    have h2 : clsHas f cs = true := (clsHas_mem f cs).2 (List.mem_map.2 ⟨p, hp, e⟩)
    rw [h] at h2
    cases h2
  simp [clsUp, this]
theorem clsL_yes (F : List (List Stp)) (k : Nat) (hk : k < F.length) (h : clsHas F[k] (clsL F k) = true) : (clsL F (k + 1)).map Prod.snd = ((clsL F k).map (clsUp F[k] k)).map Prod.snd := by
  rw [clsL_succ F k hk, clsS, if_pos h]
theorem clsL_no (F : List (List Stp)) (k : Nat) (hk : k < F.length) (h : clsHas F[k] (clsL F k) = false) : (clsL F (k + 1)).map Prod.snd = (clsL F k).map Prod.snd ++ [[k]] := by
  rw [clsL_succ F k hk, clsS, if_neg (by rw [h]; simp)]
  simp

set_option maxHeartbeats 8000000 in
set_option maxRecDepth 100000 in
theorem refClasses (runs : List (List Stp)) (v : Value) (w : World) (hr : RunsSl w v runs) (hn : runs.length ≤ 6) (hok : ∀ r ∈ runs, RunOk r) :
    Calls Try.prog 23 #[v] w fun e w' => ∃ u, e = .returned u ∧ ClsSl w' u ((clsL (runs.map normS) runs.length).map Prod.snd) ∧ Below w.heap.size w w' := by
  obtain ⟨ka, ca, rfl, hml⟩ := hr.open
  obtain ⟨F, hF⟩ : ∃ F, F = runs.map normS := ⟨_, rfl⟩
  have hFl : F.length = runs.length := by rw [hF, List.length_map]
  have hFk : ∀ (k : Nat) (h1 : k < runs.length) (h2 : k < F.length), F[k] = normS runs[k] := fun k h1 h2 => by subst hF; simp
  rw [← hF]
  have HFk := Lib.hid hFk
  have HFl := Lib.hid hFl
  have Hok := Lib.hid hok
  clear hF hFk hFl hok
  go_enter Try.func23, Try.ntmps23
  go_wp2_with fail
  go_loopw [3, 4] (fun vo p wr => ∃ (k : Nat) (hs : List Value), k ≤ runs.length ∧ p = .int .i64 k ∧ Hid (CR w.heap.size wr vo hs ((clsL F k).map Prod.snd)) ∧ Below w.heap.size w wr) (fun _ p _ => runs.length - (intOf p).toNat)
  case atStart => exact ⟨0, [], by omega, rfl, Lib.hid (CR.start _ _), Below.refl _ _⟩
  case round =>
    obtain ⟨k, hs, hk, rfl, HC, hB⟩ := hrel
    by_cases hlt : k < runs.length
    · have hltF : k < F.length := by rw [HFl.out]; exact hlt
      obtain ⟨cs, hcs⟩ : ∃ cs, cs = clsL F k := ⟨_, rfl⟩
      obtain ⟨fk, hfk⟩ : ∃ f, f = F[k] := ⟨_, rfl⟩
      have hcl : cs.length ≤ k := by rw [hcs]; exact clsL_len F k
      have hhd : ∀ p ∈ cs, ∃ h t, p.2 = h :: t ∧ h < k ∧ F[h]? = some p.1 := by rw [hcs]; exact clsL_head F k (by omega)
      have hll : ∀ p ∈ cs, p.2.length ≤ k := by rw [hcs]; exact fun p hp => (clsL_lt F k p hp).1
      rw [← hcs] at HC
      obtain ⟨fa, fc, rfl, _⟩ := (Flat.of_owns HC.out.oo).open
      have hlen : hs.length = cs.length := by have := HC.out.len; rwa [List.length_map] at this
      have HC0 := Lib.hid (show CR w.heap.size wr (.slice fa hs.length fc) hs ((clsUpTo fk k 0 cs).map Prod.snd) by rw [clsUpTo_zero]; exact HC.out)
      rw [hlen] at HC0 ⊢
      have Hcs := Lib.hid hcs
      have Hfk := Lib.hid hfk
      have Hhd := Lib.hid hhd
      have Hll := Lib.hid hll
      clear hcs hfk hhd hll HC hlen
      go_wp2_with fail
      obtain ⟨wo, rfl⟩ : ∃ wo : World, wo = wr := ⟨_, rfl⟩
      go_loopw [5, 6] (fun q p wr => ∃ (m : Nat) (hs' : List Value), m ≤ cs.length ∧ p = .int .i64 m ∧ q = .bool (hasTo fk m cs) ∧ Hid (CR w.heap.size wr (.slice fa cs.length fc) hs' ((clsUpTo fk k m cs).map Prod.snd)) ∧ Below w.heap.size w wr) (fun _ p _ => cs.length - (intOf p).toNat)
      case atStart => exact ⟨0, hs, by omega, rfl, rfl, HC0, hB⟩
      case round =>
        clear HC0 hB
        obtain ⟨m, hs', hm, rfl, rfl, HC, hB⟩ := hrel
        by_cases hlt2 : m < cs.length
        · have hlen' : hs'.length = cs.length := by have := HC.out.len; rwa [clsUpTo_snd_len] at this
          have hml2 : ((clsUpTo fk k m cs).map Prod.snd)[m]? = some cs[m].2 := by rw [List.getElem?_map, clsUpTo_get fk k m cs hlt2]; rfl
          obtain ⟨hd, hjd, hrow⟩ := HC.out.hd hml2
          obtain ⟨h0, t0, hp2, hh0, hF0⟩ := Hhd.out cs[m] (List.getElem_mem hlt2)
          have hl2 := Hll.out cs[m] (List.getElem_mem hlt2)
          obtain ⟨go, co, e, hgo, _⟩ := HC.out.oo.form (by omega)
          simp only [Value.slice.injEq] at e
          obtain ⟨rfl, e2, rfl⟩ := e
          clear e2
          obtain ⟨gh, ch, rfl, _, _⟩ := hrow.form (by rw [hp2]; simp)
          have hF0' : F[h0]? = some (normS (runs[h0]'(by omega))) := by
            have h1 : h0 < F.length := by rw [HFl.out]; omega
            rw [List.getElem?_eq_getElem h1, HFk.out h0 (by omega) h1]
          have hform : cs[m].1 = normS (runs[h0]'(by omega)) := by
            rw [hF0] at hF0'
            exact Option.some.inj hF0'
          obtain ⟨b, o, x1, rfl, hx1, hs1⟩ := (hr.kept hB (Nat.le_refl _)).at (k := h0) (r := runs[h0]'(by omega)) (by simp)
          obtain ⟨b', o', x2, hab, hx2, hs2⟩ := (hr.kept hB (Nat.le_refl _)).at (k := k) (r := runs[k]) (by simp [hlt])
          simp at hab
          obtain ⟨rfl, rfl⟩ := hab
          have heq := refEquivalent (runs[h0]'(by omega)) runs[k] x1 x2 wr.drew (hs1.kept (Below.refl _ _).drew (Nat.le_refl _)) (hs2.kept (Below.refl _ _).drew (Nat.le_refl _)) (Hok.out _ (List.getElem_mem _)) (Hok.out _ (List.getElem_mem _))
          rw [← hform, ← HFk.out k hlt hltF, ← Hfk.out] at heq
          have Heq := Lib.hid heq
          obtain ⟨y1, d1, rfl, _⟩ := hs1.open
          obtain ⟨y2, d2, rfl, _⟩ := hs2.open
          have c0 : wr.cell? ⟨go, m, none⟩ = some (.slice (some ⟨gh, 0, none⟩) cs[m].2.length ch) := HC.out.cell hjd
          have c1 : wr.cell? ⟨gh, 0, none⟩ = some (I h0) := (hrow.cellAt 0 (by rw [hp2]; simp)).trans (by rw [hp2]; rfl)
          have hpos : 0 < cs[m].2.length := by rw [hp2]; simp
          have b0 : (0 : Int) ≤ (m : Int) := by omega
          have b1 : (m : Int) < (cs.length : Int) := by omega
          have b2 : (0 : Int) ≤ (h0 : Int) := by omega
          have b3 : (h0 : Int) < (runs.length : Int) := by omega
          have b4 : (0 : Int) ≤ (k : Int) := by omega
          have b5 : (k : Int) < (runs.length : Int) := by omega
          have b6 : (0 : Int) < (cs[m].2.length : Int) := by omega
          have Hjd := Lib.hid hjd
          have Hrow := Lib.hid hrow
          have Hml2 := Lib.hid hml2
          have Hlen' := Lib.hid hlen'
          clear heq hs1 hs2 hform hF0' hF0 hp2 hjd hrow hml2 hlen'
          obtain ⟨L, hL⟩ : ∃ L, L = cs[m].2.length := ⟨_, rfl⟩
          rw [← hL] at c0 b6 hl2 hpos
          have HL := Lib.hid hL
          clear hL
          go_wp2_with fail
          refine wp_region_ordN 13 [(0, true), (1, true), (2, true), (3, true), (4, true), (5, true), (6, true), (7, true), (8, true), (9, true), (10, true), (11, true), (12, true)] (fun w' => w'.cell? ⟨go, m, none⟩ = some (.slice (some ⟨gh, 0, none⟩) L ch) ∧ w'.cell? ⟨gh, 0, none⟩ = some (I h0) ∧ w'.cell? ⟨b, o + h0, none⟩ = some (.slice y1 (runs[h0]'(by omega)).length d1) ∧ w'.cell? ⟨b, o + k, none⟩ = some (.slice y2 runs[k].length d2)) (by kernel_rfl) rfl rfl (by kernel_rfl) ⟨c0, c1, hx1, hx2⟩ ?_
          iterate 13 (refine wpOrd_take ?_ (by rfl) ?_ ?_; rotate_left; (intro w hSw; (try dsimp only at hSw); go_simp; try with_reducible rfl); (try simp only [Act.put, List.setIfInBounds_toArray, List.set_cons_zero, List.set_cons_succ]))
          refine wpOrd_nil ?_
          go_wp2_with fail
          refine Heq.out.mono ?_
          rintro e w1 ⟨rfl, hB1⟩
          have hA1 : Below wr.heap.size wr w1 := (Below.refl wr.heap.size wr).drew.trans hB1
          have hBw1 := hB.trans (hA1.mono hB.size)
          have HC1 := Lib.hid (HC.out.below hA1)
          have k0 := cell_below hA1 (Nat.le_refl _) c0
          have hsucc := hasTo_succ fk m cs hlt2
          have HA1 := Lib.hid hA1
          clear c0 c1 hx1 hx2 HC hA1 hB1 Heq
          by_cases he : cs[m].1 = fk
          · rw [decide_eq_true he] at hsucc ⊢
            rw [Bool.or_true] at hsucc
            have Hsucc := Lib.hid hsucc
            have He := Lib.hid he
            have hzz := hBw1.size
            have hA2 : Below w1.heap.size w1 (w1.alloc (.cells #[I k] 3)) := (Below.refl _ _).alloc (Nat.le_refl _) _
            have HC2 := Lib.hid (HC1.out.below hA2)
            have Hrow2 := Lib.hid ((owns_below Hrow.out HA1.out).alloc (.cells #[I k] 3))
            have HA2 := Lib.hid hA2
            rw [← HL.out] at Hrow2
            clear hsucc he hA2 HC1
            go_wp2_with fail
            refine NoPanic.normal ?_
            go_wp2_with (at_builtin; go_must (refine wpList_appB rfl _ _ 22 rfl 3 _ 1 8 Try.underlying22 info3 rfl (by omega) (by omega) w.heap.size (.slice (some ⟨gh, 0, none⟩) L ch) L (iv (natI cs[m].2)) rfl Hrow2.out w1.heap.size 1 1 #[I k] 3 rfl (heap_alloc_new _ _) rfl rfl (by omega) (by omega) (by rw [World.size_alloc]; omega) ?_); intro g5 cap5 w5 hg1 hg2 hg3 ho5 hgr5 hB5; obtain ⟨c5, f5⟩ := HC2.out.slot Hjd.out hgr5)
            have ho5' : w5.ownsRow w.heap.size 3 1 (.slice (some ⟨g5, 0, none⟩) (L + 1) cap5) (cs[m].2 ++ [k]).length (iv (natI (cs[m].2 ++ [k]))) := by
              rw [natI_snoc, List.length_append, ← HL.out]
              exact ho5
            have hC5 := HC2.out.put (i := k) (hd' := .slice (some ⟨g5, 0, none⟩) (L + 1) cap5) Hjd.out Hml2.out hgr5 ho5' (fun b hb => by
              have e : g5 = b := by simpa [Value.ownBlock] using hb
              subst e
              rcases hg3 with h | h
              · exact .inl h
              · exact .inr (Nat.le_of_eq h.symm))
            rw [← clsUpTo_yes fk k m cs hlt2 He.out] at hC5
            have HC5 := Lib.hid hC5
            have hBw5 := ((hBw1.trans (HA2.out.mono hzz)).trans hB5).setCell (p := ⟨go, m, none⟩) hgo (.slice (some ⟨g5, 0, none⟩) (L + 1) cap5)
            have HBw5 := Lib.hid hBw5
            clear hC5 hBw5 ho5 ho5' hgr5 hB5 hg1 hg2 hg3 k0 c5 f5
            go_roundw
            case rel => exact ⟨m + 1, _, by omega, by go_num, by rw [Hsucc.out], HC5, HBw5.out⟩
            case measure => simp [intOf]; omega
          · rw [decide_eq_false he] at hsucc ⊢
            rw [Bool.or_false] at hsucc
            have Hsucc := Lib.hid hsucc
            have HC5 := Lib.hid (show CR w.heap.size w1 (.slice (some ⟨go, 0, none⟩) cs.length fc) hs' ((clsUpTo fk k (m + 1) cs).map Prod.snd) by rw [clsUpTo_no fk k m cs hlt2 he]; exact HC1.out)
            clear hsucc he k0 HC1
            go_wp2_with fail
            refine NoPanic.normal ?_
            go_wp2_with fail
            go_roundw
            case rel => exact ⟨m + 1, _, by omega, by go_num, by rw [Hsucc.out], HC5, hBw1⟩
            case measure => simp [intOf]; omega
        · have hme : m = cs.length := by omega
          have hht : hasTo fk m cs = clsHas fk cs := by rw [hme, hasTo, List.take_length]
          have hup : (clsUpTo fk k m cs).map Prod.snd = (cs.map (clsUp fk k)).map Prod.snd := by rw [hme, clsUpTo_end]
          rw [hup] at HC
          rw [hht]
          have hlen' : hs'.length = cs.length := by have := HC.out.len; simpa using this
          have Hlen' := Lib.hid hlen'
          clear hme hht hup hlen'
          cases hb : clsHas fk cs with
          | true =>
            have hnext : (clsL F (k + 1)).map Prod.snd = (cs.map (clsUp fk k)).map Prod.snd := by
              rw [Hcs.out, Hfk.out] at hb ⊢
              exact clsL_yes F k hltF hb
            rw [← hnext] at HC
            clear hnext hb
            go_wp2_with fail
            go_roundw
            case rel => exact ⟨k + 1, _, by omega, by go_num, HC, hB⟩
            case measure => simp [intOf]; omega
          | false =>
            have hnext : (clsL F (k + 1)).map Prod.snd = (cs.map (clsUp fk k)).map Prod.snd ++ [[k]] := by
              rw [clsUp_none fk k cs hb]
              rw [Hcs.out, Hfk.out] at hb
              rw [Hcs.out]
              exact clsL_no F k hltF hb
            have Hnext := Lib.hid hnext
            have hzz := hB.size
            clear hnext hb
            have hA2 : Below wr.heap.size wr ((wr.alloc (.cells #[I k] 3)).alloc (.cells #[.slice (some ⟨wr.heap.size, 0, none⟩) 1 1] 22)) := ((Below.refl _ _).alloc (Nat.le_refl _) _).alloc (by rw [World.size_alloc]; omega) _
            have HC2 := Lib.hid (HC.out.below hA2)
            have HA2 := Lib.hid hA2
            have Hfr := Lib.hid (HC.out.fresh wr.heap.size (Nat.le_refl _))
            clear hA2 HC
            go_wp2_with (at_builtin; go_must (refine wpList_appB rfl _ _ 34 rfl 22 _ 1 24 Try.underlying34 info22' rfl (by omega) (by omega) w.heap.size _ hs'.length hs' rfl HC2.out.oo (wr.heap.size + 1) 1 1 #[.slice (some ⟨wr.heap.size, 0, none⟩) 1 1] 22 rfl (heap_alloc2_new _ _ _) rfl rfl (by omega) (by have := Hlen'.out; omega) (by rw [World.size_alloc, World.size_alloc]; omega) ?_); intro g5 cap5 w5 hg1 hg2 hg3 ho5 hgr5 hB5)
            have hrow : ((wr.alloc (.cells #[I k] 3)).alloc (.cells #[.slice (some ⟨wr.heap.size, 0, none⟩) 1 1] 22)).ownsRow w.heap.size 3 1 (.slice (some ⟨wr.heap.size, 0, none⟩) 1 1) [k].length (iv (natI [k])) := owns_of_block (n := 1) (cs := #[I k]) (heap_alloc2_old _ _ _) hzz rfl (by omega)
            have hC5 := HC2.out.push (l := [k]) hrow (fun b hb => by
              have e : wr.heap.size = b := by simpa [Value.ownBlock] using hb
              subst e
              exact Hfr.out) hgr5 ho5 (fun b hb => by
              have e : g5 = b := by simpa [Value.ownBlock] using hb
              subst e
              rcases hg3 with h | h
              · exact .inl h
              · exact .inr (Nat.le_of_eq h.symm))
            rw [← Hnext.out] at hC5
            have HC5 := Lib.hid hC5
            have hBw5 := (hB.trans (HA2.out.mono hzz)).trans hB5
            clear hC5 ho5 hgr5 hB5 hg1 hg2 hg3 hrow
            go_roundw
            case rel => exact ⟨k + 1, _, by omega, by go_num, HC5, hBw5⟩
            case measure => simp [intOf]; omega
    · have hke : k = runs.length := by omega
      have hsl := HC.out.sl
      rw [hke] at hsl
      have Hsl := Lib.hid hsl
      clear hsl HC
      go_wp2_with fail
      go_ret
      exact ⟨_, rfl, Hsl.out, hB⟩

end Go.Proofs.Ytaedfidfcoigoaa
