/- depend.own: a step's own copy. (Printed by mkK4.py, then gen.py.) -/
import Derived.Test.YtaedfidfcoigoaaK3
import Derived.Test.YtaedfidfcoigoaaN12
namespace Go.Proofs.Ytaedfidfcoigoaa
open Go.RowKit

theorem blk_range {W : World} {g : Nat} {cs : Array Value} (h : Blk W g cs) : W.rangeAt g 0 cs.toList := fun j v hv => by
  rw [Nat.zero_add, h.cell]
  simpa using hv

theorem setArr_all {cs : Array Value} {vs : List Value} (h : cs.size = vs.length) : setArr cs 0 vs = vs.toArray := by
  apply Array.ext_getElem?
  intro j
  by_cases hj : j < vs.length
  · have := setArr_in cs 0 vs j hj (by omega)
    rw [Nat.zero_add] at this
    rw [this]
    simp
  · rw [setArr_out _ _ _ _ (by omega)]
    simp
    rw [List.getElem?_eq_none (by omega), Array.getElem?_eq_none (by omega)]

theorem own_base {w : World} {B B' k n : Nat} {e : TypeId} {v : Value} {xs : List Value} (h : w.ownsRow B e k v n xs) (hB : B' ≤ B) : w.ownsRow B' e k v n xs := by
  refine ⟨h.1, ?_⟩
  rcases h.2 with h0 | ⟨g, cap, cur, rfl, h1, h2⟩
  · exact .inl h0
  · exact .inr ⟨g, cap, cur, rfl, Nat.le_trans hB h1, h2⟩

set_option maxHeartbeats 2000000 in
set_option maxRecDepth 100000 in
theorem depOwn (s : Stp) (v : Value) (w : World) (hs : s.In w v) (ha : s.asks.length ≤ 1000000) (hm : s.sent.length ≤ 1000000) :
    Calls Try.prog 46 #[v] w fun e w' => ∃ va vs, e = .returned (s.val va vs) ∧ w'.ownsRow w.heap.size 59 7 va s.asks.length (s.asks.flatMap Ask.cells) ∧ w'.ownsRow w.heap.size 50 5 vs s.sent.length (s.sent.flatMap Msg.cells) ∧ Below w.heap.size w w' := by
  obtain ⟨va, vs, rfl, hva, hvs⟩ := hs
  obtain ⟨qa, da, rfl, _⟩ := hva.open
  obtain ⟨qs, ds, rfl, _⟩ := hvs.open
  have hqa : ∀ W, Below w.heap.size w W → Calls Try.prog 60 #[.slice qa s.asks.length da] W fun e w' => ∃ u, e = .returned u ∧ w'.ownsRow W.heap.size 59 7 u s.asks.length (s.asks.flatMap Ask.cells) ∧ Below W.heap.size W w' :=
    fun W hW => cloneAsk _ _ _ (hva.kept hW (Nat.le_refl _)) ha
  have hqs : ∀ W, Below w.heap.size w W → Calls Try.prog 61 #[.slice qs s.sent.length ds] W fun e w' => ∃ u, e = .returned u ∧ w'.ownsRow W.heap.size 50 5 u s.sent.length (s.sent.flatMap Msg.cells) ∧ Below W.heap.size W w' :=
    fun W hW => cloneMsg _ _ _ (hvs.kept hW (Nat.le_refl _)) hm
  have Hqa := Lib.hid hqa
  have Hqs := Lib.hid hqs
  clear hqa hqs hva hvs ha hm
  simp only [Stp.val, Stp.row]
  go_enter Try.func46, Try.ntmps46
  go_wp2_with fail
  generalize hW0 : World.alloc (World.alloc w _) _ = W0
  have hB0 : Below w.heap.size w W0 := by rw [← hW0]; exact (by repeat (first | exact Below.refl _ _ | assumption | refine Below.drew ?_ | refine below_drewN ?_ _ | refine Below.alloc ?_ (by simp <;> omega) _ | refine Below.setCell ?_ (by simp <;> omega) _))
  have hz0 : W0.heap.size = w.heap.size + 2 := by rw [← hW0]; simp
  have hb0 : Blk W0 w.heap.size #[I s.ev.kind, I s.ev.node, I s.ev.arg, I s.ev.msg.node, I s.ev.msg.handler, I s.ev.msg.count, I s.ev.msg.index, I s.ev.msg.copy, .slice qa s.asks.length da, .bool s.obs, .slice qs s.sent.length ds] := by rw [← hW0]; exact (two_new' w _ _).1
  have hb1 : Blk W0 (w.heap.size + 1) #[I 0, I 0, I 0, I 0, I 0, I 0, I 0, I 0, .slice none 0 0, .bool false, .slice none 0 0] := by rw [← hW0]; exact (two_new' w _ _).2
  have c8 : W0.cell? ⟨w.heap.size, 8, none⟩ = some (.slice qa s.asks.length da) := hb0.cell 8
  have c10 : W0.cell? ⟨w.heap.size, 10, none⟩ = some (.slice qs s.sent.length ds) := hb0.cell 10
  have Hb0 := Lib.hid hb0
  have Hb1 := Lib.hid hb1
  have Hz0 := Lib.hid hz0
  clear hW0 hb0 hb1 hz0
  go_region_with (first
    | (go_at_call 60; refine (Hqa.out _ hB0.drew).mono ?_; rintro e w2 ⟨ua, rfl, hoa, hB2⟩
       obtain ⟨a1, d1, rfl, hm1⟩ := (Flat.of_owns hoa).open
       have hz2 := hB2.size
       have c10' : w2.cell? ⟨w.heap.size, 10, none⟩ = some (.slice qs s.sent.length ds) := cell_below hB2 (Nat.le_refl _) c10
       have hBr2 : Below w.heap.size w w2 := hB0.drew.trans (hB2.mono hB0.drew.size)
       have f8 : w2.frozen? ⟨w.heap.size, 8, none⟩ = false := (Hb0.out.drew.kept hB2 Hb0.out.lt).frozen 8)
    | (go_at_call 61; refine (Hqs.out _ hBr2).mono ?_; rintro e w3 ⟨us, rfl, hos, hB3⟩
       obtain ⟨a2, d2, rfl, hm2⟩ := (Flat.of_owns hos).open
       have Hb3 := Lib.hid ((Hb0.out.drew.kept hB2 Hb0.out.lt).kept hB3 (Nat.lt_of_lt_of_le Hb0.out.lt hz2))
       have c8'' : w3.cell? ⟨w.heap.size, 8, none⟩ = some (.slice qa s.asks.length da) := Hb3.out.cell 8
       have c10'' : w3.cell? ⟨w.heap.size, 10, none⟩ = some (.slice qs s.sent.length ds) := Hb3.out.cell 10
       have f8'' := Hb3.out.frozen 8
       have f10'' := Hb3.out.frozen 10
       have Hb13 := Lib.hid ((Hb1.out.drew.kept hB2 Hb1.out.lt).kept hB3 (Nat.lt_of_lt_of_le Hb1.out.lt hz2))))
  all_goals
    generalize hW5 : World.setCell (World.setCell w3 _ _) _ _ = W5
    have hb5 : Blk W5 w.heap.size #[I s.ev.kind, I s.ev.node, I s.ev.arg, I s.ev.msg.node, I s.ev.msg.handler, I s.ev.msg.count, I s.ev.msg.index, I s.ev.msg.copy, .slice a1 s.asks.length d1, .bool s.obs, .slice a2 s.sent.length d2] := by rw [← hW5]; exact (Hb3.out.set 8 _).set 10 _
    have hb15 : Blk W5 (w.heap.size + 1) #[I 0, I 0, I 0, I 0, I 0, I 0, I 0, I 0, .slice none 0 0, .bool false, .slice none 0 0] := by rw [← hW5]; exact (Hb13.out.setOther _ _ (by simp)).setOther _ _ (by simp)
    have hB05 : Below w.heap.size w W5 := by rw [← hW5]; exact ((hBr2.trans (hB3.mono hBr2.size)).setCell (Nat.le_refl _) _).setCell (Nat.le_refl _) _
    have hS5 : Same (fun b => w.heap.size + 2 ≤ b) w3 W5 := by rw [← hW5]; exact ((Same.refl _ w3).set _ _ (by simp)).set _ _ (by simp)
    have Hb5 := Lib.hid hb5
    have Hb15 := Lib.hid hb15
    have HS5 := Lib.hid hS5
    clear hb5 hb15 hS5 hW5 c8 c10 c8'' c10'' f8 f8'' f10'' c10'
    go_wp2_with (first
      | ((with_reducible refine wpList_load55 rfl _ rfl w.heap.size 0 [I s.ev.kind, I s.ev.node, I s.ev.arg, I s.ev.msg.node, I s.ev.msg.handler, I s.ev.msg.count, I s.ev.msg.index, I s.ev.msg.copy, .slice a1 s.asks.length d1, .bool s.obs, .slice a2 s.sent.length d2] rfl ?_ ?_ ?_); (rfl); (exact blk_range Hb5.out))
      | ((with_reducible refine wpList_store55 rfl _ _ rfl (w.heap.size + 1) 0 [I s.ev.kind, I s.ev.node, I s.ev.arg, I s.ev.msg.node, I s.ev.msg.handler, I s.ev.msg.count, I s.ev.msg.index, I s.ev.msg.copy, .slice a1 s.asks.length d1, .bool s.obs, .slice a2 s.sent.length d2] rfl ?_ ?_ ?_ ?_ rfl ?_); (rfl); (rfl); (exact blk_there Hb15.out (by simp)); (exact row_one s _ _ rfl rfl)))
    have hb6 := setRow_blk (o := 0) Hb15.out [I s.ev.kind, I s.ev.node, I s.ev.arg, I s.ev.msg.node, I s.ev.msg.handler, I s.ev.msg.count, I s.ev.msg.index, I s.ev.msg.copy, .slice a1 s.asks.length d1, .bool s.obs, .slice a2 s.sent.length d2]
    rw [setArr_all (vs := [I s.ev.kind, I s.ev.node, I s.ev.arg, I s.ev.msg.node, I s.ev.msg.handler, I s.ev.msg.count, I s.ev.msg.index, I s.ev.msg.copy, .slice a1 s.asks.length d1, .bool s.obs, .slice a2 s.sent.length d2]) (by rfl)] at hb6
    have hB6 := setRow_below (o := 0) hB05 (Nat.le_succ _) [I s.ev.kind, I s.ev.node, I s.ev.arg, I s.ev.msg.node, I s.ev.msg.handler, I s.ev.msg.count, I s.ev.msg.index, I s.ev.msg.copy, .slice a1 s.asks.length d1, .bool s.obs, .slice a2 s.sent.length d2]
    have hS6 : Same (fun b => w.heap.size + 2 ≤ b) w3 (setRow W5 (w.heap.size + 1) 0 [I s.ev.kind, I s.ev.node, I s.ev.arg, I s.ev.msg.node, I s.ev.msg.handler, I s.ev.msg.count, I s.ev.msg.index, I s.ev.msg.copy, .slice a1 s.asks.length d1, .bool s.obs, .slice a2 s.sent.length d2]) := HS5.out.trans (setRow_same _ (by simp) _)
    generalize setRow W5 (w.heap.size + 1) 0 [I s.ev.kind, I s.ev.node, I s.ev.arg, I s.ev.msg.node, I s.ev.msg.handler, I s.ev.msg.count, I s.ev.msg.index, I s.ev.msg.copy, .slice a1 s.asks.length d1, .bool s.obs, .slice a2 s.sent.length d2] = W6 at hb6 hB6 hS6 ⊢
    have hW2 : w.heap.size + 2 ≤ W0.heap.size := by rw [Hz0.out]; exact Nat.le_refl _
    have hoa' := hS6.own (owns_below hoa hB3) (fun g hg => Nat.le_trans hW2 (hoa.lt g hg).1)
    have hos' := hS6.own hos (fun g hg => Nat.le_trans hW2 (Nat.le_trans hz2 (hos.lt g hg).1))
    obtain ⟨t6, ht6⟩ := hb6
    have hr : ∀ tmps : Array Value, tmps.getD 2 undef = .pointer (some ⟨w.heap.size + 1, 0, none⟩) → (results Try.f46 tmps).run Try.prog W6 = .ok (.agg #[I s.ev.kind, I s.ev.node, I s.ev.arg, I s.ev.msg.node, I s.ev.msg.handler, I s.ev.msg.count, I s.ev.msg.index, I s.ev.msg.copy, .slice a1 s.asks.length d1, .bool s.obs, .slice a2 s.sent.length d2]) W6 := fun tmps hp => results_cell_row Try.results46 tmps W6 (w.heap.size + 1) t6 _ (0, 0) _ hp ht6 Try.underlying55 rfl size55
    refine bodyPost_ret (hr _ rfl) rfl ?_
    exact ⟨_, _, rfl, own_base hoa' (Nat.le_trans (Nat.le_add_right _ _) hW2), own_base hos' (Nat.le_trans (Nat.le_trans (Nat.le_add_right _ _) hW2) hz2), hB6⟩

end Go.Proofs.Ytaedfidfcoigoaa
