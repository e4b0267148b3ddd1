/- A run that grows by copies of steps; depend.Swap. (Printed by mkK5.py, then gen.py.) -/
import Derived.Test.YtaedfidfcoigoaaK4
import Derived.Test.YtaedfidfcoigoaaOT
namespace Go.Proofs.Ytaedfidfcoigoaa
open Go.RowKit

/-- vo is a row of the call's own that holds the steps l; what their slices hold lies in the blocks of P. -/
structure GR (w wr : World) (vo : Value) (l : List Stp) (xs : List Value) (P : Nat → Prop) : Prop where
  oo : wr.ownsRow w.heap.size 55 11 vo l.length xs
  sc : StpCellsP P wr l xs
  pl : ∀ b, P b → b < wr.heap.size ∧ vo.ownBlock ≠ some b
  be : Below w.heap.size w wr
theorem GR.start (w : World) : GR w w (.slice none 0 0) [] [] (fun _ => False) := ⟨World.ownsRow_nil _ _ _ _, rfl, fun _ h => h.elim, Below.refl _ _⟩
theorem GR.next {w wr w3 w4 : World} {vo vo' va vs : Value} {l : List Stp} {s : Stp} {xs : List Value} {P : Nat → Prop} (hR : GR w wr vo l xs P) (h13 : Below wr.heap.size wr w3)
    (hva : w3.ownsRow wr.heap.size 59 7 va s.asks.length (s.asks.flatMap Ask.cells)) (hvs : w3.ownsRow wr.heap.size 50 5 vs s.sent.length (s.sent.flatMap Msg.cells))
    (ho : w4.ownsRow w.heap.size 55 11 vo' (l.length + 1) (xs ++ s.row va vs)) (hgr : w3.grownBy w4 vo.ownBlock) (hn : ∀ b, vo'.ownBlock = some b → vo.ownBlock = some b ∨ b = w3.heap.size) (hb : Below w.heap.size w3 w4) :
    ∃ P', GR w w4 vo' (l ++ [s]) (xs ++ s.row va vs) P' := by
  have hz := h13.size
  have hwz := hR.be.size
  have hvo : ∀ b, vo.ownBlock = some b → b < wr.heap.size := fun b hb => (hR.oo.lt b hb).2
  have hS : Same (fun b => b < w3.heap.size ∧ vo.ownBlock ≠ some b) w3 w4 := Same.grown hgr fun b hb => ⟨hb.1, fun e => hb.2 e.symm⟩
  refine ⟨fun b => P b ∨ va.ownBlock = some b ∨ vs.ownBlock = some b, by rw [List.length_append]; exact ho, ?_, ?_, (hR.be.trans (h13.mono hwz)).trans hb⟩
  · have h1 := (hR.sc.kept (Same.below h13 fun b hb => (hR.pl b hb).1)).kept (hS.weak fun b hb => ⟨Nat.lt_of_lt_of_le (hR.pl b hb).1 hz, (hR.pl b hb).2⟩)
    have ha := hS.own hva fun b hb => ⟨(hva.lt b hb).2, fun e => by have := hvo b e; have := (hva.lt b hb).1; omega⟩
    have hs := hS.own hvs fun b hb => ⟨(hvs.lt b hb).2, fun e => by have := hvo b e; have := (hvs.lt b hb).1; omega⟩
    exact (h1.weak fun b hb => .inl hb).snoc (s := s) ⟨Flat.of_owns ha, own_inP ha fun b hb => .inr (.inl hb)⟩ ⟨Flat.of_owns hs, own_inP hs fun b hb => .inr (.inr hb)⟩
  · have h4 := hgr.size
    intro b hb
    rcases hb with hb | hb | hb
    · have h1 := hR.pl b hb
      exact ⟨by omega, fun e => by
        rcases hn b e with h2 | h2
        · exact h1.2 h2
        · omega⟩
    · have h1 := hva.lt b hb
      exact ⟨by omega, fun e => by
        rcases hn b e with h2 | h2
        · have := hvo b h2; omega
        · omega⟩
    · have h1 := hvs.lt b hb
      exact ⟨by omega, fun e => by
        rcases hn b e with h2 | h2
        · have := hvo b h2; omega
        · omega⟩
theorem GR.sl {w wr : World} {vo : Value} {l : List Stp} {xs : List Value} {P : Nat → Prop} (h : GR w wr vo l xs P) : StpSl wr vo l := ⟨xs, h.sc.cells, Flat.of_owns h.oo⟩

theorem StpCellsP.at {P : Nat → Prop} {w : World} : ∀ {l : List Stp} {xs : List Value} {i : Nat} {s : Stp}, StpCellsP P w l xs → l[i]? = some s →
    ∃ va vs, (AskSl w va s.asks ∧ InP P va) ∧ (MsgSl w vs s.sent ∧ InP P vs) ∧ ∀ j u, (s.row va vs)[j]? = some u → xs[i * 11 + j]? = some u
  | [], _, _, _, _, h => by simp at h
  | t :: l, xs, 0, s, ⟨va, vs, zs, hx, h1, h2, h3⟩, h => by
    simp at h
    subst h
    refine ⟨va, vs, h1, h2, fun j u hu => ?_⟩
    have hj := (List.getElem?_eq_some_iff.1 hu).1
    rw [hx, Nat.zero_mul, Nat.zero_add, List.getElem?_append_left hj]
    exact hu
  | t :: l, xs, i + 1, s, ⟨va, vs, zs, hx, h1, h2, h3⟩, h => by
    have h' : l[i]? = some s := by simpa using h
    obtain ⟨va', vs', g1, g2, g3⟩ := h3.at h'
    refine ⟨va', vs', g1, g2, fun j u hu => ?_⟩
    have := g3 j u hu
    have e : (i + 1) * 11 + j = 11 + (i * 11 + j) := by omega
    have hl : (t.row va vs).length = 11 := rfl
    rw [hx, e, List.getElem?_append_right (by omega), hl, Nat.add_sub_cancel_left]
    exact this
theorem GR.row {w wr : World} {vo : Value} {l : List Stp} {xs : List Value} {P : Nat → Prop} {g : Nat} {cur : Array Value} (h : GR w wr vo l xs P) (hblk : Blk wr g cur) (hcur : cur.toList.take (l.length * 11) = xs) {i : Nat} {s : Stp} (hi : l[i]? = some s) :
    ∃ qa ca qs cs, (AskSl wr (.slice qa s.asks.length ca) s.asks ∧ InP P (.slice qa s.asks.length ca)) ∧ (MsgSl wr (.slice qs s.sent.length cs) s.sent ∧ InP P (.slice qs s.sent.length cs)) ∧ wr.rangeAt g (i * 11) [I s.ev.kind, I s.ev.node, I s.ev.arg, I s.ev.msg.node, I s.ev.msg.handler, I s.ev.msg.count, I s.ev.msg.index, I s.ev.msg.copy, .slice qa s.asks.length ca, .bool s.obs, .slice qs s.sent.length cs] := by
  obtain ⟨va, vs, g1, g2, g3⟩ := h.sc.at hi
  have hlt := (List.getElem?_eq_some_iff.1 hi).1
  obtain ⟨qa, ca, rfl, _⟩ := g1.1.open
  obtain ⟨qs, cs, rfl, _⟩ := g2.1.open
  refine ⟨qa, ca, qs, cs, g1, g2, fun j u hu => ?_⟩
  have hj : j < 11 := (List.getElem?_eq_some_iff.1 hu).1
  have := g3 j u hu
  rw [← hcur, List.getElem?_take_of_lt (by omega), Array.getElem?_toList] at this
  rw [hblk.cell]
  exact this

section
variable {ops : Array Oper} {Q : Exit → Act → World → Prop} {S : World → Prop}
theorem wpT_load55 {F : Act → World → Prop} {l : List Oper} {i : Nat} {t : OT} {a : Act} {w : World} {o : Oper} (ho : l[i]? = some o) (x : Operand) (hop : o.op = .load 55 x) (b off : Nat) (cs : List Value) (hl : cs.length = 11) (hx : a.eval x = .pointer (some ⟨b, off, none⟩))
    (hw : Region.wanted o (yielded ops a.tmps) = true) (hS : S w) (hc : w.rangeAt b off cs) (h : wpT Try.prog ops Q S F l t (a.put o.dst (.agg cs.toArray)) w) : wpT Try.prog ops Q S F l (.move i t) a w :=
  wpT_move ho fun K hK => by
    rw [if_pos hw]
    exact wp_load_mid 55 x hop b off hx cs _ hc Try.underlying55 rfl (by rw [hl]; exact size55) (hK.out _ _ hS h)
theorem wpT_store55 {F : Act → World → Prop} {l : List Oper} {i : Nat} {t : OT} {a : Act} {w : World} {o : Oper} (ho : l[i]? = some o) (x y : Operand) (hop : o.op = .store 55 x y) (b off : Nat) (cs : List Value) (hl : cs.length = 11) (hx : a.eval x = .pointer (some ⟨b, off, none⟩)) (hy : a.eval y = .agg cs.toArray)
    (hw : Region.wanted o (yielded ops a.tmps) = true) (ht : w.there b off 11) (h1 : ∀ v ∈ cs, v.oneCell' = true) (hS : S (setRow w b off cs)) (hd : o.dst = none) (h : wpT Try.prog ops Q S F l t a (setRow w b off cs)) : wpT Try.prog ops Q S F l (.move i t) a w :=
  wpT_move ho fun K hK => by
    rw [if_pos hw]
    exact wp_store55 x y hop b off cs hl hx hy ht h1 (hK.out _ _ hS (by rw [hd]; exact h))
end

set_option maxHeartbeats 4000000 in
set_option maxRecDepth 100000 in
theorem depSwap (run : List Stp) (i : Nat) (v : Value) (w : World) (hrun : StpSl w v run) (hi : i + 1 < run.length) (hok : RunOk run) :
    Calls Try.prog 25 #[v, I i] w fun e w' => ∃ u c, e = .returned (.tuple #[u, I c]) ∧ Below w.heap.size w w' ∧ ((c = 0 ∧ depB run[i] run[i + 1] = false ∧ StpSl w' u (swapL run i)) ∨ c = 5) := by
  obtain ⟨ka, ca, rfl, hml⟩ := hrun.open
  have Hrun := Lib.hid hrun
  obtain ⟨b, o, qa0, ca0, qs0, cs0, rfl, hva, hvs, hr0⟩ := hrun.row (i := i) (s := run[i]) (by simp)
  obtain ⟨b', o', qa1, ca1, qs1, cs1, hab, hua, hus, hr1⟩ := hrun.row (i := i + 1) (s := run[i + 1]) (by simp)
  simp at hab
  obtain ⟨rfl, rfl⟩ := hab
  have hdep := pdependent run[i] run[i + 1] (run[i].val (.slice qa0 run[i].asks.length ca0) (.slice qs0 run[i].sent.length cs0)) (run[i + 1].val (.slice qa1 run[i + 1].asks.length ca1) (.slice qs1 run[i + 1].sent.length cs1)) w.drew
    ⟨_, _, rfl, hva.kept (Below.refl _ _).drew (Nat.le_refl _), hvs.kept (Below.refl _ _).drew (Nat.le_refl _)⟩ ⟨_, _, rfl, hua.kept (Below.refl _ _).drew (Nat.le_refl _), hus.kept (Below.refl _ _).drew (Nat.le_refl _)⟩
  simp only [Stp.val, Stp.row] at hdep
  have Hdep := Lib.hid hdep
  have Hr0 := Lib.hid hr0
  have Hr1 := Lib.hid hr1
  have Hok := Lib.hid hok
  have h64 := hok.len
  clear hdep hr0 hr1 hok hrun
  have b0 : (0 : Int) ≤ (i : Int) := by omega
  have b1 : (i : Int) < (run.length : Int) := by omega
  have b2 : (0 : Int) ≤ (i : Int) + 1 := by omega
  have b3 : (i : Int) + 1 < (run.length : Int) := by omega
  have b4 : IntKind.i64.wrap ((i : Int) + 1) = (i : Int) + 1 := by rw [IntKind.wrap_i64]; omega
  have b5 : ((i : Int) + 1).toNat = i + 1 := by omega
  have b7 : ¬ ((run.length : Int) - 2 < (i : Int)) := by omega
  have b8 : ¬ ((i : Int) < 0) := by omega
  go_enter Try.func25, Try.ntmps25
  go_wp2_with fail
  refine wp_region_ordN 9 [(0, true), (1, true), (2, true), (3, true), (4, true), (5, true), (6, true), (7, true), (8, true)] (fun w' => w'.rangeAt b (o + i * 11) [I run[i].ev.kind, I run[i].ev.node, I run[i].ev.arg, I run[i].ev.msg.node, I run[i].ev.msg.handler, I run[i].ev.msg.count, I run[i].ev.msg.index, I run[i].ev.msg.copy, .slice qa0 run[i].asks.length ca0, .bool run[i].obs, .slice qs0 run[i].sent.length cs0] ∧ w'.rangeAt b (o + (i + 1) * 11) [I run[i + 1].ev.kind, I run[i + 1].ev.node, I run[i + 1].ev.arg, I run[i + 1].ev.msg.node, I run[i + 1].ev.msg.handler, I run[i + 1].ev.msg.count, I run[i + 1].ev.msg.index, I run[i + 1].ev.msg.copy, .slice qa1 run[i + 1].asks.length ca1, .bool run[i + 1].obs, .slice qs1 run[i + 1].sent.length cs1]) (by kernel_rfl) rfl rfl (by kernel_rfl) ⟨Hr0.out, Hr1.out⟩ ?_
  iterate 3 (refine wpOrd_take ?_ (by rfl) ?_ ?_; rotate_left; (intro w hSw; (try dsimp only at hSw); go_simp; try with_reducible rfl); (try simp only [Act.put, List.setIfInBounds_toArray, List.set_cons_zero, List.set_cons_succ]))
  (refine wpOrd_load55 _ rfl b (o + i * 11) [I run[i].ev.kind, I run[i].ev.node, I run[i].ev.arg, I run[i].ev.msg.node, I run[i].ev.msg.handler, I run[i].ev.msg.count, I run[i].ev.msg.index, I run[i].ev.msg.copy, .slice qa0 run[i].asks.length ca0, .bool run[i].obs, .slice qs0 run[i].sent.length cs0] rfl rfl rfl (fun w h => h.1) ?_; (try simp only [Act.put, List.setIfInBounds_toArray, List.set_cons_zero, List.set_cons_succ]))
  iterate 4 (refine wpOrd_take ?_ (by rfl) ?_ ?_; rotate_left; (intro w hSw; (try dsimp only at hSw); go_simp; try with_reducible rfl); (try simp only [Act.put, List.setIfInBounds_toArray, List.set_cons_zero, List.set_cons_succ]))
  (refine wpOrd_load55 _ rfl b (o + (i + 1) * 11) [I run[i + 1].ev.kind, I run[i + 1].ev.node, I run[i + 1].ev.arg, I run[i + 1].ev.msg.node, I run[i + 1].ev.msg.handler, I run[i + 1].ev.msg.count, I run[i + 1].ev.msg.index, I run[i + 1].ev.msg.copy, .slice qa1 run[i + 1].asks.length ca1, .bool run[i + 1].obs, .slice qs1 run[i + 1].sent.length cs1] rfl rfl rfl (fun w h => h.2) ?_; (try simp only [Act.put, List.setIfInBounds_toArray, List.set_cons_zero, List.set_cons_succ]))
  refine wpOrd_nil ?_
  go_wp2_with fail
  refine Hdep.out.mono ?_
  rintro e w1 ⟨rfl, hB1⟩
  have hBw1 : Below w.heap.size w w1 := Below.then (w := w) (by repeat (first | exact Below.refl _ _ | assumption | refine Below.drew ?_ | refine below_drewN ?_ _ | refine Below.alloc ?_ (by simp <;> omega) _ | refine Below.setCell ?_ (by simp <;> omega) _)) hB1
  go_wp2_with fail
  refine NoPanic.normal ?_
  by_cases hd : depB run[i] run[i + 1] = true
  · rw [hd]
    go_wp2_with fail
    go_ret2
    exact ⟨_, 5, rfl, hBw1, .inr rfl⟩
  · have hd' : depB run[i] run[i + 1] = false := by simpa using hd
    rw [hd']
    have Hd := Lib.hid hd'
    clear hd hd'
    go_wp2_with fail
    have hg0 : GR w1 w1 (.slice none 0 0) [] [] (fun _ => False) := GR.start w1
    have Hg0 := Lib.hid hg0
    clear hg0
    have Hrun1 := Lib.hid (Hrun.out.kept hBw1 (Nat.le_refl _))
    go_loopw [6, 32] (fun vo p wr => ∃ (k : Nat) (xs : List Value) (P : Nat → Prop), k ≤ run.length ∧ p = .int .i64 k ∧ Hid (GR w1 wr vo (run.take k) xs P)) (fun _ p _ => run.length - (intOf p).toNat)
    case atStart => exact ⟨0, [], _, by omega, rfl, Lib.hid Hg0.out⟩
    case round =>
      obtain ⟨k, xs, P, hk, rfl, HG⟩ := hrel
      obtain ⟨vo, rfl⟩ : ∃ vo : Value, vo = u6 := ⟨_, rfl⟩
      have hBr := HG.out.be
      have hkl : (run.take k).length = k := by rw [List.length_take]; omega
      have Hkl := Lib.hid hkl
      clear hkl
      by_cases hlt : k < run.length
      · obtain ⟨b2', o2', qa, ca2, qs, cs2, hab, hva2, hvs2, hr2⟩ := (Hrun1.out.kept hBr (Nat.le_refl _)).row (i := k) (s := run[k]) (by simp [hlt])
        simp at hab
        obtain ⟨rfl, rfl⟩ := hab
        have hown := (fun W (hW : Below wr.heap.size wr W) => depOwn run[k] (run[k].val (.slice qa run[k].asks.length ca2) (.slice qs run[k].sent.length cs2)) W ⟨_, _, rfl, hva2.kept hW (Nat.le_refl _), hvs2.kept hW (Nat.le_refl _)⟩ (Hok.out.asks _ (List.getElem_mem hlt)) (Hok.out.sent _ (List.getElem_mem hlt)))
        simp only [Stp.val, Stp.row] at hown
        have Hown := Lib.hid hown
        have Hr2 := Lib.hid hr2
        clear hva2 hvs2 hr2 hown
        go_upto_region 9 with ((with_reducible refine wpList_load55 rfl _ rfl b (o + k * 11) [I run[k].ev.kind, I run[k].ev.node, I run[k].ev.arg, I run[k].ev.msg.node, I run[k].ev.msg.handler, I run[k].ev.msg.count, I run[k].ev.msg.index, I run[k].ev.msg.copy, .slice qa run[k].asks.length ca2, .bool run[k].obs, .slice qs run[k].sent.length cs2] rfl ?_ ?_ ?_); (rfl); (exact Hr2.out))
        go_wp2_with fail
        refine (Hown.out _ ((Below.refl _ _).alloc (Nat.le_refl _) _)).mono ?_
        rintro e w3 ⟨va3, vs3, rfl, ha3, hs3, hB3⟩
        obtain ⟨a1, d1, rfl, _⟩ := (Flat.of_owns ha3).open
        obtain ⟨a2, d2, rfl, _⟩ := (Flat.of_owns hs3).open
        have hB0 : Below wr.heap.size wr w3 := ((Below.refl wr.heap.size wr).alloc (Nat.le_refl _) _).trans (hB3.mono (by rw [World.size_alloc]; omega))
        have Ha3 := Lib.hid (own_base ha3 (B' := wr.heap.size) (by rw [World.size_alloc]; omega))
        have Hs3 := Lib.hid (own_base hs3 (B' := wr.heap.size) (by rw [World.size_alloc]; omega))
        have HB0 := Lib.hid hB0
        have HO3 := Lib.hid (owns_below HG.out.oo hB0)
        have hz3 : w1.heap.size ≤ w3.heap.size := Nat.le_trans hBr.size hB0.size
        clear ha3 hs3 hB3 hB0
        go_wp2_with (at_builtin; go_must (refine wpList_appB rfl _ _ 23 rfl 55 _ 11 120 Try.underlying23 info55 rfl (by omega) (by omega) w1.heap.size vo (run.take k).length xs rfl (HO3.out.alloc _) w3.heap.size 1 1 #[I run[k].ev.kind, I run[k].ev.node, I run[k].ev.arg, I run[k].ev.msg.node, I run[k].ev.msg.handler, I run[k].ev.msg.count, I run[k].ev.msg.index, I run[k].ev.msg.copy, .slice a1 run[k].asks.length d1, .bool run[k].obs, .slice a2 run[k].sent.length d2] 55 rfl (heap_alloc_new _ _) rfl rfl (by omega) (by have := Hkl.out; omega) (by rw [World.size_alloc]; omega) ?_); intro g cap w4 hg1 hg2 hg3 ho4 hgr4 hB4)
        obtain ⟨P', hG'⟩ := GR.next (s := run[k]) (va := .slice a1 run[k].asks.length d1) (vs := .slice a2 run[k].sent.length d2) HG.out (HB0.out.alloc HB0.out.size _) (Ha3.out.alloc _) (Hs3.out.alloc _) ho4 hgr4 (fun b hb => by
          have e : g = b := by simpa [Value.ownBlock] using hb
          subst e
          exact hg3) hB4
        have e : run.take k ++ [run[k]] = run.take (k + 1) := by rw [List.take_succ_eq_append_getElem hlt]
        rw [e, Hkl.out] at hG'
        have HG' := Lib.hid hG'
        clear ho4 hgr4 hB4 hg1 hg2 hg3 hG' e
        go_roundw
        case rel => exact ⟨k + 1, _, P', by omega, by go_num, HG'⟩
        case measure => simp [intOf]; omega
      · have hke : run.take k = run := List.take_of_length_le (by omega)
        have hG := HG.out
        rw [hke] at hG
        obtain ⟨g, cap, cur, rfl, hg, hblk, hsz, hcur⟩ := own_blk hG.oo (by omega)
        obtain ⟨qa2, ca2, qs2, cs2, ⟨ha0, hp0⟩, ⟨hs0, hq0⟩, hr0⟩ := hG.row hblk hcur (i := i) (s := run[i]) (by simp)
        obtain ⟨qa3, ca3, qs3, cs3, ⟨ha1, hp1⟩, ⟨hs1, hq1⟩, hr1⟩ := hG.row hblk hcur (i := i + 1) (s := run[i + 1]) (by simp)
        have hgP : ¬ P g := fun hp => (hG.pl g hp).2 rfl
        have hsc := hG.sc
        have HA := Lib.hid (show _ ∧ _ ∧ _ ∧ _ from ⟨fun W (h : Same P wr W) => Flat.sameP ha0 hp0 h, fun W (h : Same P wr W) => Flat.sameP hs0 hq0 h, fun W (h : Same P wr W) => Flat.sameP ha1 hp1 h, fun W (h : Same P wr W) => Flat.sameP hs1 hq1 h⟩)
        have Hr0' := Lib.hid hr0
        have Hr1' := Lib.hid hr1
        have Hblk := Lib.hid hblk
        have Hcur := Lib.hid hcur
        have Hsc := Lib.hid hsc
        have HgP := Lib.hid hgP
        clear hke hG hblk hcur hr0 hr1 HG ha0 hp0 hs0 hq0 ha1 hp1 hs1 hq1 hgP hsc
        go_wp2_with fail
        refine wp_region_T 16 (.take 0 (.take 1 (.take 2 (.take 3 (.take 4 (.take 5 (.take 6 (.take 7 (.take 8 (.take 10 (.take 11 (.take 12 (.fork 9 13 (.move 13 (.take 14 (.move 15 .nil))) (.move 9 (.take 14 (.move 15 .nil)))))))))))))))) (fun _ => True) (by kernel_rfl) rfl (by kernel_rfl) trivial ?_
        iterate 12 (refine wpT_take rfl ?_ (by rfl) ?_ ?_; rotate_left; (intro w hSw; (try dsimp only at hSw); go_simp; try with_reducible rfl); (try simp only [Act.put, List.setIfInBounds_toArray, List.set_cons_zero, List.set_cons_succ]))
        have there0 : wr.drew.there g (i * 11) 11 := blk_there Hblk.out (by omega)
        refine wpT_fork ?_ ?_
        rotate_left
        (refine wpT_load55 rfl _ rfl g (i * 11) [I run[i].ev.kind, I run[i].ev.node, I run[i].ev.arg, I run[i].ev.msg.node, I run[i].ev.msg.handler, I run[i].ev.msg.count, I run[i].ev.msg.index, I run[i].ev.msg.copy, .slice qa2 run[i].asks.length ca2, .bool run[i].obs, .slice qs2 run[i].sent.length cs2] rfl rfl rfl trivial Hr0'.out ?_; (try simp only [Act.put, List.setIfInBounds_toArray, List.set_cons_zero, List.set_cons_succ]))
        (refine wpT_load55 rfl _ rfl g ((i + 1) * 11) [I run[i + 1].ev.kind, I run[i + 1].ev.node, I run[i + 1].ev.arg, I run[i + 1].ev.msg.node, I run[i + 1].ev.msg.handler, I run[i + 1].ev.msg.count, I run[i + 1].ev.msg.index, I run[i + 1].ev.msg.copy, .slice qa3 run[i + 1].asks.length ca3, .bool run[i + 1].obs, .slice qs3 run[i + 1].sent.length cs3] rfl rfl rfl trivial Hr1'.out ?_; (try simp only [Act.put, List.setIfInBounds_toArray, List.set_cons_zero, List.set_cons_succ]))
        rotate_left
        (refine wpT_load55 rfl _ rfl g ((i + 1) * 11) [I run[i + 1].ev.kind, I run[i + 1].ev.node, I run[i + 1].ev.arg, I run[i + 1].ev.msg.node, I run[i + 1].ev.msg.handler, I run[i + 1].ev.msg.count, I run[i + 1].ev.msg.index, I run[i + 1].ev.msg.copy, .slice qa3 run[i + 1].asks.length ca3, .bool run[i + 1].obs, .slice qs3 run[i + 1].sent.length cs3] rfl rfl rfl trivial Hr1'.out ?_; (try simp only [Act.put, List.setIfInBounds_toArray, List.set_cons_zero, List.set_cons_succ]))
        (refine wpT_load55 rfl _ rfl g (i * 11) [I run[i].ev.kind, I run[i].ev.node, I run[i].ev.arg, I run[i].ev.msg.node, I run[i].ev.msg.handler, I run[i].ev.msg.count, I run[i].ev.msg.index, I run[i].ev.msg.copy, .slice qa2 run[i].asks.length ca2, .bool run[i].obs, .slice qs2 run[i].sent.length cs2] rfl rfl rfl trivial Hr0'.out ?_; (try simp only [Act.put, List.setIfInBounds_toArray, List.set_cons_zero, List.set_cons_succ]))
        all_goals
          (refine wpT_take rfl ?_ (by rfl) ?_ ?_; rotate_left; (intro w hSw; (try dsimp only at hSw); go_simp; try with_reducible rfl); (try simp only [Act.put, List.setIfInBounds_toArray, List.set_cons_zero, List.set_cons_succ]))
          (refine wpT_store55 rfl _ _ rfl g (i * 11) [I run[i + 1].ev.kind, I run[i + 1].ev.node, I run[i + 1].ev.arg, I run[i + 1].ev.msg.node, I run[i + 1].ev.msg.handler, I run[i + 1].ev.msg.count, I run[i + 1].ev.msg.index, I run[i + 1].ev.msg.copy, .slice qa3 run[i + 1].asks.length ca3, .bool run[i + 1].obs, .slice qs3 run[i + 1].sent.length cs3] rfl rfl rfl rfl there0 (row_one run[i + 1] _ _ rfl rfl) trivial rfl ?_)
          refine wpT_nil ?_
          generalize hw5 : setRow wr.drew g (i * 11) [I run[i + 1].ev.kind, I run[i + 1].ev.node, I run[i + 1].ev.arg, I run[i + 1].ev.msg.node, I run[i + 1].ev.msg.handler, I run[i + 1].ev.msg.count, I run[i + 1].ev.msg.index, I run[i + 1].ev.msg.copy, .slice qa3 run[i + 1].asks.length ca3, .bool run[i + 1].obs, .slice qs3 run[i + 1].sent.length cs3] = w5
          have hb5 : Blk w5 g (setArr cur (i * 11) [I run[i + 1].ev.kind, I run[i + 1].ev.node, I run[i + 1].ev.arg, I run[i + 1].ev.msg.node, I run[i + 1].ev.msg.handler, I run[i + 1].ev.msg.count, I run[i + 1].ev.msg.index, I run[i + 1].ev.msg.copy, .slice qa3 run[i + 1].asks.length ca3, .bool run[i + 1].obs, .slice qs3 run[i + 1].sent.length cs3]) := hw5 ▸ setRow_blk Hblk.out.drew _
          have hB5 : Below w1.heap.size w1 w5 := hw5 ▸ setRow_below hBr.drew hg _
          have hS5 : Same P wr w5 := hw5 ▸ (Same.refl P wr).drew.trans (setRow_same P HgP.out _)
          have hs5 : (setArr cur (i * 11) [I run[i + 1].ev.kind, I run[i + 1].ev.node, I run[i + 1].ev.arg, I run[i + 1].ev.msg.node, I run[i + 1].ev.msg.handler, I run[i + 1].ev.msg.count, I run[i + 1].ev.msg.index, I run[i + 1].ev.msg.copy, .slice qa3 run[i + 1].asks.length ca3, .bool run[i + 1].obs, .slice qs3 run[i + 1].sent.length cs3]).size = cur.size := setArr_size _ _ _
          have Hb5 := Lib.hid hb5
          have HS5 := Lib.hid hS5
          have Hs5 := Lib.hid hs5
          clear hw5 hb5 hS5 hs5
          go_wp2_with ((with_reducible refine wpList_store55 rfl _ _ rfl g ((i + 1) * 11) [I run[i].ev.kind, I run[i].ev.node, I run[i].ev.arg, I run[i].ev.msg.node, I run[i].ev.msg.handler, I run[i].ev.msg.count, I run[i].ev.msg.index, I run[i].ev.msg.copy, .slice qa2 run[i].asks.length ca2, .bool run[i].obs, .slice qs2 run[i].sent.length cs2] rfl ?_ ?_ ?_ ?_ rfl ?_); (rfl); (rfl); (exact blk_there Hb5.out (by rw [Hs5.out]; omega)); (exact row_one run[i] _ _ rfl rfl))
          refine NoPanic.normal ?_
          have hb6 := setRow_blk (o := (i + 1) * 11) Hb5.out [I run[i].ev.kind, I run[i].ev.node, I run[i].ev.arg, I run[i].ev.msg.node, I run[i].ev.msg.handler, I run[i].ev.msg.count, I run[i].ev.msg.index, I run[i].ev.msg.copy, .slice qa2 run[i].asks.length ca2, .bool run[i].obs, .slice qs2 run[i].sent.length cs2]
          have hB6 := setRow_below (o := (i + 1) * 11) hB5 hg [I run[i].ev.kind, I run[i].ev.node, I run[i].ev.arg, I run[i].ev.msg.node, I run[i].ev.msg.handler, I run[i].ev.msg.count, I run[i].ev.msg.index, I run[i].ev.msg.copy, .slice qa2 run[i].asks.length ca2, .bool run[i].obs, .slice qs2 run[i].sent.length cs2]
          have hS6 : Same P wr (setRow w5 g ((i + 1) * 11) [I run[i].ev.kind, I run[i].ev.node, I run[i].ev.arg, I run[i].ev.msg.node, I run[i].ev.msg.handler, I run[i].ev.msg.count, I run[i].ev.msg.index, I run[i].ev.msg.copy, .slice qa2 run[i].asks.length ca2, .bool run[i].obs, .slice qs2 run[i].sent.length cs2]) := HS5.out.trans (setRow_same P HgP.out _)
          have hsl := swap_sl (cap := cap) hi (by omega) hsz (by rw [Hcur.out]; exact (Hsc.out.kept hS6).cells) (HA.out.1 _ hS6) (HA.out.2.1 _ hS6) (HA.out.2.2.1 _ hS6) (HA.out.2.2.2 _ hS6) hb6 (Below.refl _ _)
          have Hsl := Lib.hid hsl
          have HB6 := Lib.hid (hBw1.trans (hB6.mono hBw1.size))
          clear hsl hb6 hS6 hB6
          generalize setRow w5 g ((i + 1) * 11) [I run[i].ev.kind, I run[i].ev.node, I run[i].ev.arg, I run[i].ev.msg.node, I run[i].ev.msg.handler, I run[i].ev.msg.count, I run[i].ev.msg.index, I run[i].ev.msg.copy, .slice qa2 run[i].asks.length ca2, .bool run[i].obs, .slice qs2 run[i].sent.length cs2] = w6 at Hsl HB6 ⊢
          go_wp2_with fail
          go_ret2
          exact ⟨_, 0, rfl, HB6.out, .inl ⟨rfl, Hd.out, Hsl.out⟩⟩

end Go.Proofs.Ytaedfidfcoigoaa
