/- tape.Normal. -/
import Derived.Test.YtjdhcdbjfbhogaaG10
import Derived.Test.YtjdhcdbjfbhogaaF1
namespace Go.Proofs.Ytjdhcdbjfbhogaa
open Go.RowKit Go.Maps

theorem grown_set (w : World) (a : Addr) (v : Value) : w.grownBy (w.setCell a v) (some a.block) := ⟨rfl, rfl, rfl, by simp, fun k _ hne => by
  simp only [World.setCell, Array.getElem?_modify]
  rw [if_neg (fun h => hne (by rw [h]))]⟩
theorem grown_below {w w' : World} (h : Below w.heap.size w w') (row : Option Nat) : w.grownBy w' row := ⟨h.os, h.tape, h.output, h.size, fun k hk _ => h.block k hk⟩
/-- A row that may have moved leaves the blocks of another base alone. -/
theorem Flat.grown {w w' : World} {k n b o m c : Nat} {xs : List Value} {row : Option Nat} (h : Flat w k (.slice (some ⟨b, o, none⟩) m c) n xs) (hg : w.grownBy w' row) (hne : some b ≠ row) : Flat w' k (.slice (some ⟨b, o, none⟩) m c) n xs := by
  obtain ⟨hl, hm, a, c', hv, hr⟩ := h
  refine ⟨hl, hm, a, c', hv, fun j u hu => ?_⟩
  obtain ⟨b', o', ha, hc⟩ := hr j u hu
  simp at hv
  obtain ⟨rfl, _⟩ := hv
  simp at ha
  obtain ⟨rfl, rfl⟩ := ha
  exact ⟨_, _, rfl, hg.cell hc hne⟩
theorem owns_weaken {w : World} {B B' n k : Nat} {e : TypeId} {v : Value} {xs : List Value} (h : w.ownsRow B e k v n xs) (hB : B' ≤ B) : w.ownsRow B' e k v n xs := by
  obtain ⟨h1, h2 | ⟨g, cap, cur, hv, hb, r⟩⟩ := h
  · exact ⟨h1, .inl h2⟩
  · exact ⟨h1, .inr ⟨g, cap, cur, hv, by omega, r⟩⟩
def atQ (l : List Ans) (ys : List Qn) : List Ans := ys.map fun q => ⟨q, getA l q⟩
theorem atQ_snoc (l : List Ans) (ys : List Qn) (k : Nat) (h : k < ys.length) : ((atQ l (ys.take (k + 1))).flatMap ac) = (atQ l (ys.take k)).flatMap ac ++ [I ys[k].node, I ys[k].handler, I ys[k].count, I ys[k].kind, I ys[k].index, I (getA l ys[k])] := by
  rw [List.take_succ_eq_append_getElem h, atQ, List.map_append, List.flatMap_append]
  simp [atQ, ac, Ans.ints, iv]
theorem atQ_length (l : List Ans) (ys : List Qn) : (atQ l ys).length = ys.length := by simp [atQ]
section
variable {ops : Array Oper} {Q : Exit → Act → World → Prop} {rest : List Oper} {o : Oper} {a : Act} {w : World}
theorem wpList_load66 (hgd : o.guard = none) (x : Operand) (ho : o.op = .load 66 x) (b off : Nat) (cs : List Value) (hl : cs.length = 5) (hx : a.eval x = .pointer (some ⟨b, off, none⟩)) (hc : w.rangeAt b off cs)
    (h : wpList Try.prog ops Q rest (a.put o.dst (.agg cs.toArray)) w) : wpList Try.prog ops Q (o :: rest) a w :=
  wpList_load_mid hgd 66 x ho b off hx cs _ hc Try.underlying66 rfl (by rw [hl]; exact size66) h
end
theorem ownsMap_size {w : World} {b n : Nat} {D : DataW Unit} (h : w.ownsMap (H := Unit) Try.prog 66 (plainElem Try.prog 3) b n D) : Maps.size D ≤ n := by
  obtain ⟨es, clock, hb, F, hs, rfl⟩ := h
  show (List.foldr DataW.insert [] _).length ≤ n
  rw [length_sorted]
  simpa using hs
theorem zero3 (w : World) : (zeroValue 3).run Try.prog w = .ok (I 0) w := Try.zeroValue3 w

set_option maxHeartbeats 4000000 in
set_option maxRecDepth 100000 in
theorem normalF (evs : List Ev) (l : List Ans) (ve va : Value) (w : World) (he : EvSl w ve evs) (ha : AnsSl w va l) (hok : ∀ a ∈ l, a.ok) (hle : evs.length ≤ 1000000) (hl : l.length ≤ 1000000) :
    Calls Try.prog 26 #[.agg #[ve, va]] w fun e w' => ∃ ue ua, e = .returned (.agg #[ue, ua]) ∧ w'.ownsRow w.heap.size 56 8 ue evs.length (evs.flatMap ec) ∧ w'.ownsRow w.heap.size 75 6 ua (normA l).length ((normA l).flatMap ac) ∧ Below w.heap.size w w' := by
  have Hans := Lib.hid (fun W (hB : Below w.heap.size w W) => answersF l ve va W (ha.kept hB (Nat.le_refl _)) hok hl)
  have Hclo := Lib.hid (fun W (hB : Below w.heap.size w W) => cloneEv evs ve W (he.kept hB (Nat.le_refl _)) hle)
  have hk0 : Kp2 w #[ve, va] #[.slice none 0 0, .slice none 0 0] ((w.alloc (.cells #[ve, va] 26)).alloc (.cells #[.slice none 0 0, .slice none 0 0] 26)) := Kp2.start w _ _ 26
  have hac := hk0.1.cell
  have Hok := Lib.hid hok
  clear hok he ha
  go_enter Try.func26, Try.ntmps26
  go_upto_region 2 with (go_at_call 61; refine (Hans.out _ hk0.2.2.1).mono ?_; rintro e w1 ⟨b, D, rfl, hb, hmap, hMA, hB1⟩)
  have kp1 := hk0.call hB1
  have hac1 := kp1.1.cell
  have hzb : w.heap.size + 2 ≤ b := by have := hk0.2.2.2; omega
  have Hmap := Lib.hid hmap
  have HMA := Lib.hid hMA
  clear hmap hMA hac hB1 hb hk0 Hans
  go_upto_region 3 with (go_at_call 62; refine (Hclo.out _ kp1.2.2.1).mono ?_; rintro e w2 ⟨ue, rfl, hown2, hB2⟩; obtain ⟨ke, ce, rfl, _⟩ := (Flat.of_owns hown2).open)
  have kp2 := kp1.call hB2
  have Hmap2 := Lib.hid (Hmap.out.kept (grown_below hB2 none) (by simp))
  have Hown2 := Lib.hid (owns_weaken hown2 kp1.2.2.2)
  have hlt2 : ∀ k', (Value.slice ke evs.length ce).ownBlock = some k' → k' < w2.heap.size := fun k' hk' => (hown2.lt k' hk').2
  have Hlt2 := Lib.hid hlt2
  have hbl := Hmap2.out.lt
  have hsz2 := kp2.2.2.2
  clear hown2 Hclo hac1 hB2 hlt2
  have kp3 : Below w2.heap.size w2 (w2.alloc (.cells #[.slice ke evs.length ce, .slice none 0 0] 26)) := (Below.refl _ _).alloc (Nat.le_refl _) _
  have hmap4 : ((w2.alloc (.cells #[.slice ke evs.length ce, .slice none 0 0] 26)).alloc (.cells #[.map (some b)] 102)).ownsMap (H := Unit) Try.prog 66 (plainElem Try.prog 3) b l.length D := (Hmap2.out.alloc _).alloc _
  have Hkeys := Lib.hid (sortedF (w2.heap.size + 1) b l.length D ((w2.alloc (.cells #[.slice ke evs.length ce, .slice none 0 0] 26)).alloc (.cells #[.map (some b)] 102)) (by simp) hmap4 (Nat.le_trans (ownsMap_size hmap4) hl) fun xs hxs => Nat.le_trans (keysD_size hxs HMA.out l (fun q hq => getA_mem hq) rfl) hl)
  clear hmap4
  go_wp2_with (first | (go_at_call 64; refine (keysF b _).mono ?_; rintro e w3 ⟨rfl, rfl⟩) | (go_at_call 63; refine Hkeys.out.mono ?_; rintro e w4 ⟨u4, ys, rfl, hkd, hord, hfl4, hfr4, hB4⟩; obtain ⟨k4, c4, rfl, _⟩ := hfl4.open))
  have Hkd := Lib.hid hkd
  have Hord := Lib.hid hord
  have hyl : ys.length ≤ 1000000 := Nat.le_trans (keysD_size hkd HMA.out l (fun q hq => getA_mem hq) rfl) hl
  have hz4 := hB4.size
  simp only [World.size_alloc] at hz4 hfr4
  have hblk4 : Blk w4 w2.heap.size #[.slice ke evs.length ce, .slice none 0 0] := ((Blk.new _ _ _).alloc _).kept hB4 (by simp; omega)
  have hmap4 : w4.ownsMap (H := Unit) Try.prog 66 (plainElem Try.prog 3) b l.length D := ((Hmap2.out.alloc _).alloc _).kept (grown_below hB4 none) (by simp)
  have Hmap4 := Lib.hid hmap4
  have Hown4 := Lib.hid (((Hown2.out.alloc _).alloc _).kept (grown_below hB4 none) (by cases (Value.slice ke evs.length ce).ownBlock <;> simp))
  have Hfl4 := Lib.hid hfl4
  have Hfr4 := Lib.hid hfr4
  have hB24 : Below w2.heap.size w2 w4 := (((Below.refl _ _).alloc (Nat.le_refl _) _).alloc (by simp) _).trans (hB4.mono (by simp; omega))
  have kp4 := kp2.call hB24
  clear hkd hord hB4 hmap4 hfl4 hfr4 Hkeys Hmap Hmap2 Hown2 kp1 kp2 kp3
  go_loopw [17] (fun i wr => ∃ (k : Nat) (v : Value), k ≤ ys.length ∧ i = .int .i64 k ∧ Hid (wr.ownsRow w4.heap.size 75 6 v k ((atQ l (ys.take k)).flatMap ac)) ∧ Blk wr w2.heap.size #[.slice ke evs.length ce, v] ∧ Hid (w4.grownBy wr (some w2.heap.size))) (fun i _ => ys.length - (intOf i).toNat)
  case atStart => exact ⟨0, _, by omega, rfl, Lib.hid (World.ownsRow_nil _ _ _ _), hblk4, Lib.hid (World.grownBy.refl _ _)⟩
  case round =>
    obtain ⟨k, v, hk, rfl, Hv, hblk, Hg⟩ := hrel
    have hzr := Hg.out.size
    by_cases hlt : k < ys.length
    · obtain ⟨b5, o5, rfl, hr⟩ := flat_at qc_length (by omega) Hfl4.out (i := k) (x := ys[k]) (by simp [hlt])
      have hb5 : w2.heap.size + 1 + 1 ≤ b5 := Hfr4.out b5 rfl
      have Hr := Lib.hid (show wr.rangeAt b5 (o5 + k * 5) [I ys[k].node, I ys[k].handler, I ys[k].count, I ys[k].kind, I ys[k].index] from fun j u hu => Hg.out.cell (hr j u hu) (by simp; omega))
      have hqo : ys[k].ok := ((Hkd.out.2 ys[k]).1 (List.getElem_mem hlt)).1
      have Hq := Lib.hid hqo
      clear hr hqo
      go_upto_region 6 with ((with_reducible refine wpList_load66 rfl _ rfl b5 (o5 + k * 5) [I ys[k].node, I ys[k].handler, I ys[k].count, I ys[k].kind, I ys[k].index] rfl ?_ ?_ ?_); (rfl); (exact Hr.out))
      have hgq : Blk (wr.alloc (.cells #[I ys[k].node, I ys[k].handler, I ys[k].count, I ys[k].kind, I ys[k].index] 66)) wr.heap.size #[I ys[k].node, I ys[k].handler, I ys[k].count, I ys[k].kind, I ys[k].index] := Blk.new _ _ _
      have hblkq := hblk.alloc (.cells #[I ys[k].node, I ys[k].handler, I ys[k].count, I ys[k].kind, I ys[k].index] 66)
      have hvq := Hv.out.alloc (.cells #[I ys[k].node, I ys[k].handler, I ys[k].count, I ys[k].kind, I ys[k].index] 66)
      have hGq := Hg.out.trans (World.grownBy_alloc wr (.cells #[I ys[k].node, I ys[k].handler, I ys[k].count, I ys[k].kind, I ys[k].index] 66) (some w2.heap.size))
      have hsq : (wr.alloc (.cells #[I ys[k].node, I ys[k].handler, I ys[k].count, I ys[k].kind, I ys[k].index] 66)).heap.size = wr.heap.size + 1 := World.size_alloc _ _
      generalize wr.alloc (.cells #[I ys[k].node, I ys[k].handler, I ys[k].count, I ys[k].kind, I ys[k].index] 66) = wq at hgq hblkq hvq hGq hsq ⊢
      have hgN : w2.heap.size < wr.heap.size := by omega
      obtain ⟨c, hrun, hat, _⟩ := World.ownsMap.lookup_int (w := wq.drew) (Hmap4.out.kept hGq (by simp; omega)).drew law66 Try.underlying102 Try.underlying3 (zero3 _) (keyQ ys[k] Hq.out)
      have hcv : c = getA l ys[k] := by
        rw [HMA.out.at_ ys[k] Hq.out] at hat
        simpa using hat.symm
      subst hcv
      have Hvq := Lib.hid hvq
      have HGq := Lib.hid hGq
      clear hvq hGq hat
      obtain ⟨ka, ca, rfl, _⟩ := (Flat.of_owns Hv.out).open
      have S0 : (∀ j, wq.cell? ⟨w2.heap.size, j, none⟩ = (#[.slice ke evs.length ce, .slice ka k ca] : Array Value)[j]?) ∧ (∀ j, wq.cell? ⟨wr.heap.size, j, none⟩ = (#[I ys[k].node, I ys[k].handler, I ys[k].count, I ys[k].kind, I ys[k].index] : Array Value)[j]?) := ⟨hblkq.cell, hgq.cell⟩
      simp only [Qn.val] at hrun
      refine wp_region_ordN 9 [(0, true), (1, true), (2, true), (3, true), (4, true), (5, false), (6, true), (7, false), (8, false)] (fun w' => (∀ j, w'.cell? ⟨w2.heap.size, j, none⟩ = (#[.slice ke evs.length ce, .slice ka k ca] : Array Value)[j]?) ∧ (∀ j, w'.cell? ⟨wr.heap.size, j, none⟩ = (#[I ys[k].node, I ys[k].handler, I ys[k].count, I ys[k].kind, I ys[k].index] : Array Value)[j]?)) (by kernel_rfl) rfl rfl (by kernel_rfl) S0 ?_
      iterate 5 (refine wpOrd_take ?_ (by rfl) ?_ ?_; rotate_left; (intro w hSw; (try dsimp only at hSw); go_simp; try with_reducible rfl); (try simp only [Act.put, List.setIfInBounds_toArray, List.set_cons_zero, List.set_cons_succ]))
      refine wpOrd_move (fun K hK => ?_)
      go_simp
      refine hK.out _ _ S0 ?_
      clear hK K
      (try simp only [Act.put, List.setIfInBounds_toArray, List.set_cons_zero, List.set_cons_succ])
      (refine wpOrd_take ?_ (by rfl) ?_ ?_; rotate_left; (intro w hSw; (try dsimp only at hSw); go_simp; try with_reducible rfl); (try simp only [Act.put, List.setIfInBounds_toArray, List.set_cons_zero, List.set_cons_succ]))
      refine wpOrd_move (fun K hK => ?_)
      go_simp
      refine hK.out _ _ ⟨(hblkq.alloc _).cell, (hgq.alloc _).cell⟩ ?_
      clear hK K
      (try simp only [Act.put, List.setIfInBounds_toArray, List.set_cons_zero, List.set_cons_succ])
      have hvB : ∀ k', (Value.slice ka k ca).ownBlock = some k' → w4.heap.size ≤ k' ∧ k' < wr.heap.size := Hv.out.lt
      refine step_appB (by rfl) _ _ 24 (by rfl) 75 _ 6 48 Try.underlying24 info75 rfl (by omega) (by omega) w4.heap.size (.slice ka k ca) k _ (by rfl) (Hvq.out.drew.alloc _) wq.heap.size 1 1 #[I ys[k].node, I ys[k].handler, I ys[k].count, I ys[k].kind, I ys[k].index, I (getA l ys[k])] 75 (by simp only [hsq]; rfl) (heap_alloc_new wq.drew _) rfl rfl (by omega) (by omega) (by simp; omega) ?_
      intro g6 cap6 w6 hg6a hg6b hg6c ho6 hgr6 hB6
      have hblk6 : Blk w6 w2.heap.size #[.slice ke evs.length ce, .slice ka k ca] := (hblkq.drew.alloc _).grown hgr6 (fun e => by have := hvB _ e; omega)
      have hgq6 : Blk w6 wr.heap.size #[I ys[k].node, I ys[k].handler, I ys[k].count, I ys[k].kind, I ys[k].index] := (hgq.drew.alloc _).grown hgr6 (fun e => by have := hvB _ e; omega)
      refine ⟨⟨hblk6.cell, hgq6.cell⟩, ?_⟩
      have hGd : wq.grownBy (wq.drew.alloc (.cells #[I ys[k].node, I ys[k].handler, I ys[k].count, I ys[k].kind, I ys[k].index, I (getA l ys[k])] 75)) (some w2.heap.size) := by
        have h := World.grownBy_alloc wq.drew (.cells #[I ys[k].node, I ys[k].handler, I ys[k].count, I ys[k].kind, I ys[k].index, I (getA l ys[k])] 75) (some w2.heap.size)
        exact ⟨h.os, h.tape, h.output, h.size, h.block⟩
      have hG6 : w4.grownBy w6 (some w2.heap.size) := World.grownBy.andThen (HGq.out.trans hGd) hgr6 (fun j hj => .inl (hvB j hj).1)
      have hS6 := hblk6.set 1 (.slice (some ⟨g6, 0, none⟩) (k + 1) cap6)
      have ho6' := ho6.kept (grown_set w6 ⟨w2.heap.size, 1, none⟩ (.slice (some ⟨g6, 0, none⟩) (k + 1) cap6)) (.inr (by simp [Value.ownBlock]; omega))
      have hG6' := hG6.trans (grown_set w6 ⟨w2.heap.size, 1, none⟩ (.slice (some ⟨g6, 0, none⟩) (k + 1) cap6))
      have Ho6 := Lib.hid ho6'
      have HS6 := Lib.hid hS6
      have HG6 := Lib.hid hG6'
      have c61 := hblk6.cell 1
      have f61 := hblk6.frozen 1
      clear ho6' hS6 hG6' hG6 ho6 hgr6 hB6 hvB hrun S0
      (try simp only [Act.put, List.setIfInBounds_toArray, List.set_cons_zero, List.set_cons_succ])
      refine wpOrd_nil ?_
      go_wp2_with fail
      refine NoPanic.normal ?_
      go_wp2_with fail
      go_roundw
      case rel => exact ⟨k + 1, _, by omega, by go_num, Lib.hid (by rw [atQ_snoc l ys k hlt]; exact Ho6.out), HS6.out, HG6⟩
      case measure => simp [intOf]; omega
    · obtain rfl : k = ys.length := by omega
      obtain ⟨ka, ca, rfl, _⟩ := (Flat.of_owns Hv.out).open
      have hres : Blk wr (w.heap.size + 1) #[.slice none 0 0, .slice none 0 0] := kp4.2.1.grown Hg.out (by simp; omega)
      have c0 := hblk.cell 0
      have c1 := hblk.cell 1
      have r0 := hres.cell 0
      have r1 := hres.cell 1
      have fr0 := hres.frozen 0
      have fr1 := hres.frozen 1
      have Hres := Lib.hid hres
      clear hres hblk
      go_wp2_with fail
      have hfin : Blk ((wr.setCell ⟨w.heap.size + 1, 0, none⟩ (.slice ke evs.length ce)).setCell ⟨w.heap.size + 1, 1, none⟩ (.slice ka ys.length ca)) (w.heap.size + 1) #[.slice ke evs.length ce, .slice ka ys.length ca] := (Hres.out.set 0 _).set 1 _
      have hgs : wr.grownBy ((wr.setCell ⟨w.heap.size + 1, 0, none⟩ (.slice ke evs.length ce)).setCell ⟨w.heap.size + 1, 1, none⟩ (.slice ka ys.length ca)) (some (w.heap.size + 1)) := (grown_set wr ⟨w.heap.size + 1, 0, none⟩ _).trans (grown_set _ ⟨w.heap.size + 1, 1, none⟩ _)
      have hua := Hv.out.kept hgs (by
        cases hv : (Value.slice ka ys.length ca).ownBlock with
        | none => exact .inl rfl
        | some g => exact .inr (fun e => by have := (Hv.out.lt g hv).1; simp at e; omega))
      have hue := (Hown4.out.kept Hg.out (by
        cases hv : (Value.slice ke evs.length ce).ownBlock with
        | none => exact .inl rfl
        | some g => exact .inr (fun e => by have := Hlt2.out g hv; simp at e; omega))).kept hgs (by
        cases hv : (Value.slice ke evs.length ce).ownBlock with
        | none => exact .inl rfl
        | some g => exact .inr (fun e => by have := (Hown4.out.lt g hv).1; simp at e; omega))
      have hB5 : Below w.heap.size w ((wr.setCell ⟨w.heap.size + 1, 0, none⟩ (.slice ke evs.length ce)).setCell ⟨w.heap.size + 1, 1, none⟩ (.slice ka ys.length ca)) :=
        ((kp4.2.2.1.grown Hg.out (by omega) (fun g hg => by cases hg; omega)).grown hgs (by omega) (fun g hg => by cases hg; omega))
      have hnorm : atQ l ys = normA l := (isNorm_of Hord.out Hkd.out.1 fun q => by
        rw [Hkd.out.2 q]
        constructor
        · rintro ⟨h1, h2⟩
          rw [HMA.out.has_ q h1] at h2
          exact of_decide_eq_true h2
        · intro h
          obtain ⟨a, ha, e⟩ := getA_mem h
          have h1 : q.ok := e ▸ (Hok.out a ha).1
          exact ⟨h1, by rw [HMA.out.has_ q h1]; exact decide_eq_true h⟩).eq
      rw [List.take_of_length_le (by omega), hnorm] at hua
      have hlen : (normA l).length = ys.length := by rw [← hnorm, atQ_length]
      rw [← hlen] at hua hfin hgs hue hB5 ⊢
      generalize ((wr.setCell ⟨w.heap.size + 1, 0, none⟩ (.slice ke evs.length ce)).setCell ⟨w.heap.size + 1, 1, none⟩ (.slice ka (normA l).length ca)) = W5 at hfin hgs hua hue hB5 ⊢
      obtain ⟨t5, ht5⟩ := hfin
      have hr : ∀ tmps : Array Value, tmps.getD 2 undef = .pointer (some ⟨w.heap.size + 1, 0, none⟩) → (results Try.f26 tmps).run Try.prog W5 = .ok (.agg #[.slice ke evs.length ce, .slice ka (normA l).length ca]) W5 := fun tmps hp => results_cell_row Try.results26 tmps W5 (w.heap.size + 1) t5 _ (0, 0) _ hp ht5 Try.underlying26 rfl (by kernel_rfl)
      refine bodyPost_ret (hr _ rfl) rfl ?_
      exact ⟨_, _, rfl, owns_weaken hue (by omega), owns_weaken hua (by omega), hB5⟩

end Go.Proofs.Ytjdhcdbjfbhogaa
