import Derived.Test.YtljmonfobefiiaaGreatDoorUTS1
import Derived.Test.YtljmonfobefiiaaGreatDoorUTF1
import Derived.Test.YtljmonfobefiiaaGreatDoorUOT
import Derived.Test.YtljmonfobefiiaaGreatDoorUTG6
import Derived.Test.YtljmonfobefiiaaGreatDoorUS3
import Derived.Test.YtljmonfobefiiaaGreatDoorUO
/- tape.Normal. -/
namespace Go.Proofs.YtljmonfobefiiaaGreatDoor
open Go.RowKit Go.Maps

theorem grown_set (w : World) (a : Addr) (v : Value) : w.grownBy (w.setCell a v) (some a.block) := ⟨rfl, rfl, rfl, by simp, fun k _ hne => by
  simp only [World.setCell, Array.getElem?_modify]
  rw [if_neg (fun h => hne (by rw [h]))]⟩
theorem grown_below {w w' : World} (h : Below w.heap.size w w') (row : Option Nat) : w.grownBy w' row := ⟨h.os, h.tape, h.output, h.size, fun k hk _ => h.block k hk⟩
/-- A row that may have moved leaves the blocks of another base alone. -/
theorem Flat.grown {w w' : World} {k n b o m c : Nat} {xs : List Value} {row : Option Nat} (h : Flat w k (.slice (some ⟨b, o, none⟩) m c) n xs) (hg : w.grownBy w' row) (hne : some b ≠ row) : Flat w' k (.slice (some ⟨b, o, none⟩) m c) n xs := by
  obtain ⟨hl, hm, a, c', hv, hr⟩ := h
  refine ⟨hl, hm, a, c', hv, fun j u hu => ?_⟩
  obtain ⟨b', o', ha, hc⟩ := hr j u hu
  simp at hv
  obtain ⟨rfl, _⟩ := hv
  simp at ha
  obtain ⟨rfl, rfl⟩ := ha
  exact ⟨_, _, rfl, hg.cell hc hne⟩
theorem owns_weaken {w : World} {B B' n k : Nat} {e : TypeId} {v : Value} {xs : List Value} (h : w.ownsRow B e k v n xs) (hB : B' ≤ B) : w.ownsRow B' e k v n xs := by
  obtain ⟨h1, h2 | ⟨g, cap, cur, hv, hb, r⟩⟩ := h
  · exact ⟨h1, .inl h2⟩
  · exact ⟨h1, .inr ⟨g, cap, cur, hv, by omega, r⟩⟩
def atQ (l : List Ans) (ys : List Qn) : List Ans := ys.map fun q => ⟨q, getA l q⟩
theorem atQ_snoc (l : List Ans) (ys : List Qn) (k : Nat) (h : k < ys.length) : ((atQ l (ys.take (k + 1))).flatMap ac) = (atQ l (ys.take k)).flatMap ac ++ [I ys[k].node, I ys[k].handler, I ys[k].count, I ys[k].kind, I ys[k].index, I (getA l ys[k])] := by
  rw [List.take_succ_eq_append_getElem h, atQ, List.map_append, List.flatMap_append]
  simp [atQ, ac, Ans.ints, iv]
theorem atQ_length (l : List Ans) (ys : List Qn) : (atQ l ys).length = ys.length := by simp [atQ]
section
variable {ops : Array Oper} {Q : Exit → Act → World → Prop} {rest : List Oper} {o : Oper} {a : Act} {w : World}
theorem wpList_load66 (hgd : o.guard = none) (x : Operand) (ho : o.op = .load 58 x) (b off : Nat) (cs : List Value) (hl : cs.length = 5) (hx : a.eval x = .pointer (some ⟨b, off, none⟩)) (hc : w.rangeAt b off cs)
    (h : wpList Tryz.prog ops Q rest (a.put o.dst (.agg cs.toArray)) w) : wpList Tryz.prog ops Q (o :: rest) a w :=
  wpList_load_mid hgd 58 x ho b off hx cs _ hc Tryz.underlying58 rfl (by rw [hl]; exact size66) h
end
theorem ownsMap_size {w : World} {b n : Nat} {D : DataW Unit} (h : w.ownsMap (H := Unit) Tryz.prog 58 (plainElem Tryz.prog 3) b n D) : Maps.size D ≤ n := by
  obtain ⟨es, clock, hb, F, hs, rfl⟩ := h
  show (List.foldr DataW.insert [] _).length ≤ n
  rw [length_sorted]
  simpa using hs
theorem zero_int (w : World) : (zeroValue 3).run Tryz.prog w = .ok (I 0) w := Tryz.zeroValue3 w

set_option maxHeartbeats 4000000 in
set_option maxRecDepth 100000 in
theorem normalF (evs : List Ev) (l : List Ans) (ve va : Value) (w : World) (he : EvSl w ve evs) (ha : AnsSl w va l) (hok : ∀ a ∈ l, a.ok) (hle : evs.length ≤ 1000000) (hl : l.length ≤ 1000000) :
    Calls Tryz.prog 24 #[.agg #[ve, va]] w fun e w' => ∃ ue ua, e = .returned (.agg #[ue, ua]) ∧ w'.ownsRow w.heap.size 49 8 ue evs.length (evs.flatMap ec) ∧ w'.ownsRow w.heap.size 78 6 ua (normA l).length ((normA l).flatMap ac) ∧ Below w.heap.size w w' := by
  have Hans := Lib.hid (fun W (hB : Below w.heap.size w W) => answersF l ve va W (ha.kept hB (Nat.le_refl _)) hok hl)
  have Hclo := Lib.hid (fun W (hB : Below w.heap.size w W) => cloneEv evs ve W (he.kept hB (Nat.le_refl _)) hle)
  have hk0 : Kp2 w #[ve, va] #[.slice none 0 0, .slice none 0 0] ((w.alloc (.cells #[ve, va] 32)).alloc (.cells #[.slice none 0 0, .slice none 0 0] 32)) := Kp2.start w _ _ 32
  have hac := hk0.1.cell
  have Hok := Lib.hid hok
  clear hok he ha
  go_enter Tryz.func24, Tryz.ntmps24
  go_upto_region 2 with (go_at_call 51; refine (Hans.out _ hk0.2.2.1).mono ?_; rintro e w1 ⟨b, D, rfl, hb, hmap, hMA, hB1⟩)
  have kp1 := hk0.call hB1
  have hac1 := kp1.1.cell
  have hzb : w.heap.size + 2 ≤ b := by have := hk0.2.2.2; omega
  have Hmap := Lib.hid hmap
  have HMA := Lib.hid hMA
  clear hmap hMA hac hB1 hb hk0 Hans
  go_upto_region 3 with (go_at_call 52; refine (Hclo.out _ kp1.2.2.1).mono ?_; rintro e w2 ⟨ue, rfl, hown2, hB2⟩; obtain ⟨ke, ce, rfl, _⟩ := (Flat.of_owns hown2).open)
  have kp2 := kp1.call hB2
  have Hmap2 := Lib.hid (Hmap.out.kept (grown_below hB2 none) (by simp))
  have Hown2 := Lib.hid (owns_weaken hown2 kp1.2.2.2)
  have hlt2 : ∀ k', (Value.slice ke evs.length ce).ownBlock = some k' → k' < w2.heap.size := fun k' hk' => (hown2.lt k' hk').2
  have Hlt2 := Lib.hid hlt2
  have hbl := Hmap2.out.lt
  have hsz2 := kp2.2.2.2
  clear hown2 Hclo hac1 hB2 hlt2
  have kp3 : Below w2.heap.size w2 (w2.alloc (.cells #[.slice ke evs.length ce, .slice none 0 0] 32)) := (Below.refl _ _).alloc (Nat.le_refl _) _
  have hmap4 : ((w2.alloc (.cells #[.slice ke evs.length ce, .slice none 0 0] 32)).alloc (.cells #[.map (some b)] 99)).ownsMap (H := Unit) Tryz.prog 58 (plainElem Tryz.prog 3) b l.length D := (Hmap2.out.alloc _).alloc _
  have Hkeys := Lib.hid (sortedF (w2.heap.size + 1) b l.length D ((w2.alloc (.cells #[.slice ke evs.length ce, .slice none 0 0] 32)).alloc (.cells #[.map (some b)] 99)) (by simp) hmap4 (Nat.le_trans (ownsMap_size hmap4) hl) fun xs hxs => Nat.le_trans (keysD_size hxs HMA.out l (fun q hq => getA_mem hq) rfl) hl)
  clear hmap4
  go_wp2_with (first | (go_at_call 54; refine (keysF b _).mono ?_; rintro e w3 ⟨rfl, rfl⟩) | (go_at_call 53; refine Hkeys.out.mono ?_; rintro e w4 ⟨u4, ys, rfl, hkd, hord, hfl4, hfr4, hB4⟩; obtain ⟨k4, c4, rfl, _⟩ := hfl4.open))
  have Hkd := Lib.hid hkd
  have Hord := Lib.hid hord
  have hyl : ys.length ≤ 1000000 := Nat.le_trans (keysD_size hkd HMA.out l (fun q hq => getA_mem hq) rfl) hl
  have hz4 := hB4.size
  simp only [World.size_alloc] at hz4 hfr4
  have hblk4 : Blk w4 w2.heap.size #[.slice ke evs.length ce, .slice none 0 0] := ((Blk.new _ _ _).alloc _).kept hB4 (by simp; omega)
  have hmap4 : w4.ownsMap (H := Unit) Tryz.prog 58 (plainElem Tryz.prog 3) b l.length D := ((Hmap2.out.alloc _).alloc _).kept (grown_below hB4 none) (by simp)
  have Hmap4 := Lib.hid hmap4
  have Hown4 := Lib.hid (((Hown2.out.alloc _).alloc _).kept (grown_below hB4 none) (by cases (Value.slice ke evs.length ce).ownBlock <;> simp))
  have Hfl4 := Lib.hid hfl4
  have Hfr4 := Lib.hid hfr4
  have hB24 : Below w2.heap.size w2 w4 := (((Below.refl _ _).alloc (Nat.le_refl _) _).alloc (by simp) _).trans (hB4.mono (by simp; omega))
  have kp4 := kp2.call hB24
  clear hkd hord hB4 hmap4 hfl4 hfr4 Hkeys Hmap Hmap2 Hown2 kp1 kp2 kp3
  go_loopw [17] (fun i wr => ∃ (k : Nat) (v : Value), k ≤ ys.length ∧ i = .int .i64 k ∧ Hid (wr.ownsRow w4.heap.size 78 6 v k ((atQ l (ys.take k)).flatMap ac)) ∧ Blk wr w2.heap.size #[.slice ke evs.length ce, v] ∧ Hid (w4.grownBy wr (some w2.heap.size))) (fun i _ => ys.length - (intOf i).toNat)
  case atStart => exact ⟨0, _, by omega, rfl, Lib.hid (World.ownsRow_nil _ _ _ _), hblk4, Lib.hid (World.grownBy.refl _ _)⟩
  case round =>
    obtain ⟨k, v, hk, rfl, Hv, hblk, Hg⟩ := hrel
    have hzr := Hg.out.size
    by_cases hlt : k < ys.length
    · obtain ⟨b5, o5, rfl, hr⟩ := flat_at qc_length (by omega) Hfl4.out (i := k) (x := ys[k]) (by simp [hlt])
      have hb5 : w2.heap.size + 1 + 1 ≤ b5 := Hfr4.out b5 rfl
      have Hr := Lib.hid (show wr.rangeAt b5 (o5 + k * 5) [I ys[k].node, I ys[k].handler, I ys[k].count, I ys[k].kind, I ys[k].index] from fun j u hu => Hg.out.cell (hr j u hu) (by simp; omega))
      have hqo : ys[k].ok := ((Hkd.out.2 ys[k]).1 (List.getElem_mem hlt)).1
      have Hq := Lib.hid hqo
      clear hr hqo
      go_upto_region 6 with ((with_reducible refine wpList_load66 rfl _ rfl b5 (o5 + k * 5) [I ys[k].node, I ys[k].handler, I ys[k].count, I ys[k].kind, I ys[k].index] rfl ?_ ?_ ?_); (rfl); (exact Hr.out))
      have hgq : Blk (wr.alloc (.cells #[I ys[k].node, I ys[k].handler, I ys[k].count, I ys[k].kind, I ys[k].index] 58)) wr.heap.size #[I ys[k].node, I ys[k].handler, I ys[k].count, I ys[k].kind, I ys[k].index] := Blk.new _ _ _
      have hblkq := hblk.alloc (.cells #[I ys[k].node, I ys[k].handler, I ys[k].count, I ys[k].kind, I ys[k].index] 58)
      have hvq := Hv.out.alloc (.cells #[I ys[k].node, I ys[k].handler, I ys[k].count, I ys[k].kind, I ys[k].index] 58)
      have hGq := Hg.out.trans (World.grownBy_alloc wr (.cells #[I ys[k].node, I ys[k].handler, I ys[k].count, I ys[k].kind, I ys[k].index] 58) (some w2.heap.size))
      have hsq : (wr.alloc (.cells #[I ys[k].node, I ys[k].handler, I ys[k].count, I ys[k].kind, I ys[k].index] 58)).heap.size = wr.heap.size + 1 := World.size_alloc _ _
      generalize wr.alloc (.cells #[I ys[k].node, I ys[k].handler, I ys[k].count, I ys[k].kind, I ys[k].index] 58) = wq at hgq hblkq hvq hGq hsq ⊢
      have hgN : w2.heap.size < wr.heap.size := by omega
      obtain ⟨c, hrun, hat, _⟩ := World.ownsMap.lookup_int (w := wq.drew) (Hmap4.out.kept hGq (by simp; omega)).drew law_Question Tryz.underlying99 Tryz.underlying3 (zero_int _) (keyQ ys[k] Hq.out)
      have hcv : c = getA l ys[k] := by
        rw [HMA.out.at_ ys[k] Hq.out] at hat
        simpa using hat.symm
      subst hcv
      have Hvq := Lib.hid hvq
      have HGq := Lib.hid hGq
      clear hvq hGq hat
      obtain ⟨ka, ca, rfl, _⟩ := (Flat.of_owns Hv.out).open
      have S0 : (∀ j, wq.cell? ⟨w2.heap.size, j, none⟩ = (#[.slice ke evs.length ce, .slice ka k ca] : Array Value)[j]?) ∧ (∀ j, wq.cell? ⟨wr.heap.size, j, none⟩ = (#[I ys[k].node, I ys[k].handler, I ys[k].count, I ys[k].kind, I ys[k].index] : Array Value)[j]?) := ⟨hblkq.cell, hgq.cell⟩
      simp only [Qn.val] at hrun
      refine wp_region_ordN 9 [(0, true), (1, true), (2, true), (3, true), (4, true), (5, false), (6, true), (7, false), (8, false)] (fun w' => (∀ j, w'.cell? ⟨w2.heap.size, j, none⟩ = (#[.slice ke evs.length ce, .slice ka k ca] : Array Value)[j]?) ∧ (∀ j, w'.cell? ⟨wr.heap.size, j, none⟩ = (#[I ys[k].node, I ys[k].handler, I ys[k].count, I ys[k].kind, I ys[k].index] : Array Value)[j]?)) (by kernel_rfl) rfl rfl (by kernel_rfl) S0 ?_
      iterate 5 (refine wpOrd_take ?_ (by rfl) ?_ ?_; rotate_left; (intro w hSw; (try dsimp only at hSw); go_simp; try with_reducible rfl); (try simp only [Act.put, List.setIfInBounds_toArray, List.set_cons_zero, List.set_cons_succ]))
      refine wpOrd_move (fun K hK => ?_)
      go_simp
      refine hK.out _ _ S0 ?_
      clear hK K
      (try simp only [Act.put, List.setIfInBounds_toArray, List.set_cons_zero, List.set_cons_succ])
      (refine wpOrd_take ?_ (by rfl) ?_ ?_; rotate_left; (intro w hSw; (try dsimp only at hSw); go_simp; try with_reducible rfl); (try simp only [Act.put, List.setIfInBounds_toArray, List.set_cons_zero, List.set_cons_succ]))
      refine wpOrd_move (fun K hK => ?_)
      go_simp
      refine hK.out _ _ ⟨(hblkq.alloc _).cell, (hgq.alloc _).cell⟩ ?_
      clear hK K
      (try simp only [Act.put, List.setIfInBounds_toArray, List.set_cons_zero, List.set_cons_succ])
      have hvB : ∀ k', (Value.slice ka k ca).ownBlock = some k' → w4.heap.size ≤ k' ∧ k' < wr.heap.size := Hv.out.lt
      refine step_appB (by rfl) _ _ 30 (by rfl) 78 _ 6 48 Tryz.underlying30 info_Answer rfl (by omega) (by omega) w4.heap.size (.slice ka k ca) k _ (by rfl) (Hvq.out.drew.alloc _) wq.heap.size 1 1 #[I ys[k].node, I ys[k].handler, I ys[k].count, I ys[k].kind, I ys[k].index, I (getA l ys[k])] 78 (by simp only [hsq]; rfl) (heap_alloc_new wq.drew _) rfl rfl (by omega) (by omega) (by simp; omega) ?_
      intro g6 cap6 w6 hg6a hg6b hg6c ho6 hgr6 hB6
      have hblk6 : Blk w6 w2.heap.size #[.slice ke evs.length ce, .slice ka k ca] := (hblkq.drew.alloc _).grown hgr6 (fun e => by have := hvB _ e; omega)
      have hgq6 : Blk w6 wr.heap.size #[I ys[k].node, I ys[k].handler, I ys[k].count, I ys[k].kind, I ys[k].index] := (hgq.drew.alloc _).grown hgr6 (fun e => by have := hvB _ e; omega)
      refine ⟨⟨hblk6.cell, hgq6.cell⟩, ?_⟩
      have hGd : wq.grownBy (wq.drew.alloc (.cells #[I ys[k].node, I ys[k].handler, I ys[k].count, I ys[k].kind, I ys[k].index, I (getA l ys[k])] 78)) (some w2.heap.size) := by
        have h := World.grownBy_alloc wq.drew (.cells #[I ys[k].node, I ys[k].handler, I ys[k].count, I ys[k].kind, I ys[k].index, I (getA l ys[k])] 78) (some w2.heap.size)
        exact ⟨h.os, h.tape, h.output, h.size, h.block⟩
      have hG6 : w4.grownBy w6 (some w2.heap.size) := World.grownBy.andThen (HGq.out.trans hGd) hgr6 (fun j hj => .inl (hvB j hj).1)
      have hS6 := hblk6.set 1 (.slice (some ⟨g6, 0, none⟩) (k + 1) cap6)
      have ho6' := ho6.kept (grown_set w6 ⟨w2.heap.size, 1, none⟩ (.slice (some ⟨g6, 0, none⟩) (k + 1) cap6)) (.inr (by simp [Value.ownBlock]; omega))
      have hG6' := hG6.trans (grown_set w6 ⟨w2.heap.size, 1, none⟩ (.slice (some ⟨g6, 0, none⟩) (k + 1) cap6))
      have Ho6 := Lib.hid ho6'
      have HS6 := Lib.hid hS6
      have HG6 := Lib.hid hG6'
      have c61 := hblk6.cell 1
      have f61 := hblk6.frozen 1
      clear ho6' hS6 hG6' hG6 ho6 hgr6 hB6 hvB hrun S0
      (try simp only [Act.put, List.setIfInBounds_toArray, List.set_cons_zero, List.set_cons_succ])
      refine wpOrd_nil ?_
      go_wp2_with fail
      refine NoPanic.normal ?_
      go_wp2_with fail
      go_roundw
      case rel => exact ⟨k + 1, _, by omega, by go_num, Lib.hid (by rw [atQ_snoc l ys k hlt]; exact Ho6.out), HS6.out, HG6⟩
      case measure => simp [intOf]; omega
    · obtain rfl : k = ys.length := by omega
      obtain ⟨ka, ca, rfl, _⟩ := (Flat.of_owns Hv.out).open
      have hres : Blk wr (w.heap.size + 1) #[.slice none 0 0, .slice none 0 0] := kp4.2.1.grown Hg.out (by simp; omega)
      have c0 := hblk.cell 0
      have c1 := hblk.cell 1
      have r0 := hres.cell 0
      have r1 := hres.cell 1
      have fr0 := hres.frozen 0
      have fr1 := hres.frozen 1
      have Hres := Lib.hid hres
      clear hres hblk
      go_wp2_with fail
      have hfin : Blk ((wr.setCell ⟨w.heap.size + 1, 0, none⟩ (.slice ke evs.length ce)).setCell ⟨w.heap.size + 1, 1, none⟩ (.slice ka ys.length ca)) (w.heap.size + 1) #[.slice ke evs.length ce, .slice ka ys.length ca] := (Hres.out.set 0 _).set 1 _
      have hgs : wr.grownBy ((wr.setCell ⟨w.heap.size + 1, 0, none⟩ (.slice ke evs.length ce)).setCell ⟨w.heap.size + 1, 1, none⟩ (.slice ka ys.length ca)) (some (w.heap.size + 1)) := (grown_set wr ⟨w.heap.size + 1, 0, none⟩ _).trans (grown_set _ ⟨w.heap.size + 1, 1, none⟩ _)
      have hua := Hv.out.kept hgs (by
        cases hv : (Value.slice ka ys.length ca).ownBlock with
        | none => exact .inl rfl
        | some g => exact .inr (fun e => by have := (Hv.out.lt g hv).1; simp at e; omega))
      have hue := (Hown4.out.kept Hg.out (by
        cases hv : (Value.slice ke evs.length ce).ownBlock with
        | none => exact .inl rfl
        | some g => exact .inr (fun e => by have := Hlt2.out g hv; simp at e; omega))).kept hgs (by
        cases hv : (Value.slice ke evs.length ce).ownBlock with
        | none => exact .inl rfl
        | some g => exact .inr (fun e => by have := (Hown4.out.lt g hv).1; simp at e; omega))
      have hB5 : Below w.heap.size w ((wr.setCell ⟨w.heap.size + 1, 0, none⟩ (.slice ke evs.length ce)).setCell ⟨w.heap.size + 1, 1, none⟩ (.slice ka ys.length ca)) :=
        ((kp4.2.2.1.grown Hg.out (by omega) (fun g hg => by cases hg; omega)).grown hgs (by omega) (fun g hg => by cases hg; omega))
      have hnorm : atQ l ys = normA l := (isNorm_of Hord.out Hkd.out.1 fun q => by
        rw [Hkd.out.2 q]
        constructor
        · rintro ⟨h1, h2⟩
          rw [HMA.out.has_ q h1] at h2
          exact of_decide_eq_true h2
        · intro h
          obtain ⟨a, ha, e⟩ := getA_mem h
          have h1 : q.ok := e ▸ (Hok.out a ha).1
          exact ⟨h1, by rw [HMA.out.has_ q h1]; exact decide_eq_true h⟩).eq
      rw [List.take_of_length_le (by omega), hnorm] at hua
      have hlen : (normA l).length = ys.length := by rw [← hnorm, atQ_length]
      rw [← hlen] at hua hfin hgs hue hB5 ⊢
      generalize ((wr.setCell ⟨w.heap.size + 1, 0, none⟩ (.slice ke evs.length ce)).setCell ⟨w.heap.size + 1, 1, none⟩ (.slice ka (normA l).length ca)) = W5 at hfin hgs hua hue hB5 ⊢
      obtain ⟨t5, ht5⟩ := hfin
      have hr : ∀ tmps : Array Value, tmps.getD 2 undef = .pointer (some ⟨w.heap.size + 1, 0, none⟩) → (results Tryz.f24 tmps).run Tryz.prog W5 = .ok (.agg #[.slice ke evs.length ce, .slice ka (normA l).length ca]) W5 := fun tmps hp => results_cell_row Tryz.results24 tmps W5 (w.heap.size + 1) t5 _ (0, 0) _ hp ht5 Tryz.underlying32 rfl (by kernel_rfl)
      refine bodyPost_ret (hr _ rfl) rfl ?_
      exact ⟨_, _, rfl, owns_weaken hue (by omega), owns_weaken hua (by omega), hB5⟩

end Go.Proofs.YtljmonfobefiiaaGreatDoor

/- tape.Get. -/
namespace Go.Proofs.YtljmonfobefiiaaGreatDoor
open Go.RowKit Go.Maps

end Go.Proofs.YtljmonfobefiiaaGreatDoor

/- tape.With. (Printed by mkG13.py, then gen.py.) -/
namespace Go.Proofs.YtljmonfobefiiaaGreatDoor
open Go.RowKit Go.Maps

end Go.Proofs.YtljmonfobefiiaaGreatDoor

/- tape.Encode. -/
namespace Go.Proofs.YtljmonfobefiiaaGreatDoor
open Go.RowKit

section
variable {ops : Array Oper} {Q : Exit → Act → World → Prop} {rest : List Oper} {o : Oper} {a : Act} {w : World}
end
theorem EvSl.at {w : World} {a : Option Addr} {n c : Nat} {l : List Ev} (h : EvSl w (.slice a n c) l) {i : Nat} {x : Ev} (hi : l[i]? = some x) :
    ∃ b o, a = some ⟨b, o, none⟩ ∧ w.rangeAt b (o + i * 8) [I x.kind, I x.node, I x.arg, I x.msg.node, I x.msg.handler, I x.msg.count, I x.msg.index, I x.msg.copy] := by
  obtain ⟨b, o, ha, hc⟩ := flat_at (f := fun a : Ev => iv a.ints) (fun _ => rfl) (by omega) h hi
  exact ⟨b, o, ha, fun j v hv => hc j v hv⟩

end Go.Proofs.YtljmonfobefiiaaGreatDoor

/- tape.Decode. (Printed by mkW8.py, then gen.py.) -/
namespace Go.Proofs.YtljmonfobefiiaaGreatDoor
open Go.RowKit

theorem Flat.keep {w w' : World} {k n m c : Nat} {a : Option Addr} {xs : List Value} {S : Nat → Prop} (h : Flat w k (.slice a m c) n xs) (hg : Keep S w w') (hne : ∀ x, a = some x → ¬ S x.block) : Flat w' k (.slice a m c) n xs := by
  obtain ⟨hl, hm, a', c', hv, hr⟩ := h
  refine ⟨hl, hm, a', c', hv, fun j u hu => ?_⟩
  obtain ⟨b', o', ha, hc⟩ := hr j u hu
  simp at hv
  obtain ⟨rfl, _⟩ := hv
  refine ⟨_, _, ha, ?_⟩
  have h2 := World.block_lt_of_cell? _ _ hc
  simp only [World.cell?] at hc ⊢
  rw [hg.block b' h2 (hne _ ha)]
  exact hc
theorem Rd.count_le (s : Rd) (most : Nat) : (s.count most).1 ≤ most := by
  unfold Rd.count
  split
  · exact Nat.zero_le _
  · omega
end Go.Proofs.YtljmonfobefiiaaGreatDoor

/- names.within, eventWords, questionWords; parseDotted at one, three and five numbers; ParseQuestion. -/
namespace Go.Proofs.YtljmonfobefiiaaGreatDoor
open Go.RowKit

set_option maxRecDepth 100000 in
theorem withinC (a b c h : Nat) (w : World) : Calls Tryz.prog 87 #[.agg #[I a, I b, I c], I h] w fun e w' => e = .returned (.bool (decide (a < 12 ∧ b < h))) ∧ Below w.heap.size w w' := by
  have e : decide (a < 12 ∧ b < h) = (decide ((a : Int) < 12) && decide ((b : Int) < (h : Int))) := by
    rw [Bool.eq_iff_iff]
    simp
    omega
  have hm : (0 : Int) ≤ min (a : Int) (b : Int) := by omega
  have hm2 : decide ((0 : Int) ≤ min (a : Int) (b : Int)) = true := decide_eq_true hm
  rw [e]
  clear e
  have hB : Below w.heap.size w (w.alloc (.cells #[I a, I b, I c] 45)) := (Below.refl _ _).alloc (Nat.le_refl _) _
  by_cases h1 : (a : Int) < 12
  · by_cases h2 : (b : Int) < (h : Int)
    · go_enter Tryz.func87, Tryz.ntmps87
      go_wp2_with fail
      go_ret
      exact ⟨by simp [h1, h2], hB⟩
    · go_enter Tryz.func87, Tryz.ntmps87
      go_wp2_with fail
      go_ret
      exact ⟨by simp; omega, hB⟩
  · go_enter Tryz.func87, Tryz.ntmps87
    go_wp2_with fail
    go_ret
    exact ⟨by simp; omega, hB⟩

theorem evWordsC (w : World) : Calls Tryz.prog 85 #[] w fun e w' => e = .returned (.slice (some ⟨w.heap.size, 0, none⟩) 8 8) ∧ StrRow w' w.heap.size evWords ∧ Below w.heap.size w w' ∧ w'.heap.size = w.heap.size + 1 := by
  go_enter Tryz.func85, Tryz.ntmps85
  go_wp2_with fail
  go_ret
  exact ⟨rfl, heap_alloc_new _ _, (Below.refl _ _).alloc (Nat.le_refl _) _, World.size_alloc _ _⟩
theorem quWordsC (w : World) : Calls Tryz.prog 106 #[] w fun e w' => e = .returned (.slice (some ⟨w.heap.size, 0, none⟩) 4 4) ∧ StrRow w' w.heap.size quWords ∧ Below w.heap.size w w' ∧ w'.heap.size = w.heap.size + 1 := by
  go_enter Tryz.func106, Tryz.ntmps106
  go_wp2_with fail
  go_ret
  exact ⟨rfl, heap_alloc_new _ _, (Below.refl _ _).alloc (Nat.le_refl _) _, World.size_alloc _ _⟩

theorem dot_length {s : Str} {m : Nat} {l : List Nat} (h : dotted? s m = some l) : l.length = m := by
  unfold dotted? at h
  split at h
  · rename_i hl
    rw [mapM_length h, hl]
  · cases h
theorem dotC (s : Str) (many : Nat) (w : World) (hg : Gl w) (hs : s.length ≤ 4000000000) (hm0 : 1 ≤ many) (hm : many ≤ 100) :
    Calls Tryz.prog 86 #[sv s, I many] w fun e w' => ((dotted? s many = none ∧ e = .returned (.slice none 0 0)) ∨ (∃ l g c, dotted? s many = some l ∧ e = .returned (.slice (some ⟨g, 0, none⟩) many c) ∧ w.heap.size ≤ g ∧ g < w'.heap.size ∧ ∀ i x, l[i]? = some x → w'.cell? ⟨g, i, none⟩ = some (I (x : Nat)))) ∧ Below w.heap.size w w' := by
  refine (parseDottedC s many w hg hs hm0 hm).mono ?_
  rintro e w' ⟨⟨v, rfl, hv⟩, hb⟩
  refine ⟨?_, hb⟩
  cases hd : dotted? s many with
  | none =>
    rw [hd] at hv
    exact .inl ⟨rfl, by rw [show v = _ from hv]⟩
  | some l =>
    rw [hd] at hv
    obtain ⟨g, c, rfl, hgB, hsl⟩ := hv
    have hl := dot_length hd
    have hcell : ∀ i x, l[i]? = some x → w'.cell? ⟨g, i, none⟩ = some (I (x : Nat)) := fun i x hi => by
      obtain ⟨b, o, e, hc⟩ := IntSl.at (i := i) (x := (x : Int)) (by simpa using hsl) (by simp [hi])
      injection e with e
      injection e with e1 e2
      subst e1 e2
      simpa using hc
    refine .inr ⟨l, g, c, rfl, by rw [hl], hgB, ?_, hcell⟩
    have h0 : 0 < l.length := by omega
    exact Lib.lt_of_cell (hcell 0 l[0] (by simp [h0]))
theorem dotAny (s : Str) (m : Nat) (w : World) (hg : Gl w) (hs : s.length ≤ 4000000000) (h1 : 1 ≤ m) (h2 : m ≤ 100) :
    Calls Tryz.prog 86 #[sv s, I m] w fun e w' => (∃ a n c, e = .returned (.slice a n c)) ∧ Below w.heap.size w w' := by
  refine (dotC s m w hg hs h1 h2).mono ?_
  rintro e w' ⟨⟨_, rfl⟩ | ⟨l, g, c, h1, rfl, h3, h4, h5⟩, hb⟩
  · exact ⟨⟨_, _, _, rfl⟩, hb⟩
  · exact ⟨⟨_, _, _, rfl⟩, hb⟩
theorem dotNo {s : Str} {m : Nat} (h : dotted? s m = none) (w : World) (hg : Gl w) (hs : s.length ≤ 4000000000) (h1 : 1 ≤ m) (h2 : m ≤ 100) :
    Calls Tryz.prog 86 #[sv s, I m] w fun e w' => e = .returned (.slice none 0 0) ∧ Below w.heap.size w w' := by
  refine (dotC s m w hg hs h1 h2).mono ?_
  rintro e w' ⟨⟨_, rfl⟩ | ⟨l, g, c, h1, rfl, h3, h4, h5⟩, hb⟩
  · exact ⟨rfl, hb⟩
  · rw [h] at h1; cases h1
theorem dotYes {s : Str} {m : Nat} {l : List Nat} (h : dotted? s m = some l) (w : World) (hg : Gl w) (hs : s.length ≤ 4000000000) (h1 : 1 ≤ m) (h2 : m ≤ 100) :
    Calls Tryz.prog 86 #[sv s, I m] w fun e w' => (∃ g c, e = .returned (.slice (some ⟨g, 0, none⟩) m c) ∧ w.heap.size ≤ g ∧ g < w'.heap.size ∧ ∀ i x, l[i]? = some x → w'.cell? ⟨g, i, none⟩ = some (I (x : Nat))) ∧ Below w.heap.size w w' := by
  refine (dotC s m w hg hs h1 h2).mono ?_
  rintro e w' ⟨⟨h', rfl⟩ | ⟨l', g, c, h1, rfl, h3, h4, h5⟩, hb⟩
  · rw [h] at h'; cases h'
  · rw [h] at h1; injection h1 with h1; subst h1
    exact ⟨⟨g, c, rfl, h3, h4, h5⟩, hb⟩
def kindTo (words : List Str) (w : Str) (n : Nat) : Nat := (List.range n).foldl (fun k i => if 0 < i ∧ w = words.getD i [] then i else k) 0
theorem kindTo_succ (words : List Str) (w : Str) (n : Nat) : kindTo words w (n + 1) = if 0 < n ∧ w = words.getD n [] then n else kindTo words w n := by
  unfold kindTo
  rw [List.range_succ, List.foldl_append]
  rfl
theorem kindTo_le (words : List Str) (w : Str) (n : Nat) : kindTo words w n ≤ n - 1 := by
  induction n with
  | zero => exact Nat.le_refl 0
  | succ n ih =>
    rw [kindTo_succ]
    split <;> omega

/-- Two results, the first of them in a cell. -/
theorem results_c2 {fn : Func} {ty : TypeId} (h : fn.results = #[.cell 2 ty, .tmp 3]) (tmps : Array Value) (w : World) (g : Nat) (cs : Array Value) (hL : (loadVar ty ⟨g, 0, none⟩).run Tryz.prog w = .ok (.agg cs) w)
    (hp : tmps.getD 2 undef = .pointer (some ⟨g, 0, none⟩)) : (results fn tmps).run Tryz.prog w = .ok (.tuple #[.agg cs, tmps.getD 3 undef]) w := by
  rw [results_cell_tmp h, hp]
  simp only [asAddr, Sem.run_pure, Result.andThen_ok, hL]
theorem loadEv {w : World} {g : Nat} {cs : Array Value} (hb : Blk w g cs) (hl : cs.size = 8) : (loadVar 49 ⟨g, 0, none⟩).run Tryz.prog w = .ok (.agg cs) w := by
  obtain ⟨t, ht⟩ := hb
  exact run_loadVar_row w g t 49 cs (0, 0) _ ht Tryz.underlying49 rfl (by rw [hl]; kernel_rfl)
theorem loadQu {w : World} {g : Nat} {cs : Array Value} (hb : Blk w g cs) (hl : cs.size = 5) : (loadVar 58 ⟨g, 0, none⟩).run Tryz.prog w = .ok (.agg cs) w := by
  obtain ⟨t, ht⟩ := hb
  exact run_loadVar_row w g t 58 cs (0, 0) _ ht Tryz.underlying58 rfl (by rw [hl]; kernel_rfl)

end Go.Proofs.YtljmonfobefiiaaGreatDoor
