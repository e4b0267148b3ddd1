import Derived.Test.YtljmonfobefiiaaGreatDoorUTG6
import Derived.Deep.CutRange
import Derived.Test.YtljmonfobefiiaaGreatDoorUTG11
import Derived.Deep.CutBlock
/- The generators of events and questions: small, CauseOf, EventOf, Question. -/
namespace Go.Proofs.YtljmonfobefiiaaGreatDoor
open Go.RowKit

theorem blk_put8 {w : World} {q : Nat} {a0 a1 a2 a3 a4 a5 a6 a7 : Value} (h : Blk w q #[a0, a1, a2, a3, a4, a5, a6, a7]) (b0 b1 b2 b3 b4 b5 b6 b7 : Value) : Blk ((((((((w.setCell ⟨q, 0, none⟩ b0).setCell ⟨q, 1, none⟩ b1).setCell ⟨q, 2, none⟩ b2).setCell ⟨q, 3, none⟩ b3).setCell ⟨q, 4, none⟩ b4).setCell ⟨q, 5, none⟩ b5).setCell ⟨q, 6, none⟩ b6).setCell ⟨q, 7, none⟩ b7) q #[b0, b1, b2, b3, b4, b5, b6, b7] ∧ w.grownBy ((((((((w.setCell ⟨q, 0, none⟩ b0).setCell ⟨q, 1, none⟩ b1).setCell ⟨q, 2, none⟩ b2).setCell ⟨q, 3, none⟩ b3).setCell ⟨q, 4, none⟩ b4).setCell ⟨q, 5, none⟩ b5).setCell ⟨q, 6, none⟩ b6).setCell ⟨q, 7, none⟩ b7) (some q) := by
  have h2 := ((((((((h.set 0 b0).set 1 b1).set 2 b2).set 3 b3).set 4 b4).set 5 b5).set 6 b6).set 7 b7)
  simp only [List.setIfInBounds_toArray, List.set_cons_zero, List.set_cons_succ] at h2
  exact ⟨h2, ((((((((grown_set' w ⟨q, 0, none⟩ _).trans (grown_set' _ ⟨q, 1, none⟩ _)).trans (grown_set' _ ⟨q, 2, none⟩ _)).trans (grown_set' _ ⟨q, 3, none⟩ _)).trans (grown_set' _ ⟨q, 4, none⟩ _)).trans (grown_set' _ ⟨q, 5, none⟩ _)).trans (grown_set' _ ⟨q, 6, none⟩ _)).trans (grown_set' _ ⟨q, 7, none⟩ _))⟩
end Go.Proofs.YtljmonfobefiiaaGreatDoor

/- The generator QuestionOf. -/
namespace Go.Proofs.YtljmonfobefiiaaGreatDoor
open Go.RowKit

theorem blk_put5 {w : World} {q : Nat} {a0 a1 a2 a3 a4 : Value} (h : Blk w q #[a0, a1, a2, a3, a4]) (b0 b1 b2 b3 b4 : Value) : Blk (((((w.setCell ⟨q, 0, none⟩ b0).setCell ⟨q, 1, none⟩ b1).setCell ⟨q, 2, none⟩ b2).setCell ⟨q, 3, none⟩ b3).setCell ⟨q, 4, none⟩ b4) q #[b0, b1, b2, b3, b4] ∧ w.grownBy (((((w.setCell ⟨q, 0, none⟩ b0).setCell ⟨q, 1, none⟩ b1).setCell ⟨q, 2, none⟩ b2).setCell ⟨q, 3, none⟩ b3).setCell ⟨q, 4, none⟩ b4) (some q) := by
  have h2 := (((((h.set 0 b0).set 1 b1).set 2 b2).set 3 b3).set 4 b4)
  simp only [List.setIfInBounds_toArray, List.set_cons_zero, List.set_cons_succ] at h2
  exact ⟨h2, (((((grown_set' w ⟨q, 0, none⟩ _).trans (grown_set' _ ⟨q, 1, none⟩ _)).trans (grown_set' _ ⟨q, 2, none⟩ _)).trans (grown_set' _ ⟨q, 3, none⟩ _)).trans (grown_set' _ ⟨q, 4, none⟩ _))⟩
end Go.Proofs.YtljmonfobefiiaaGreatDoor

/- names.ParseQuestion. -/
namespace Go.Proofs.YtljmonfobefiiaaGreatDoor
open Go.RowKit

theorem StrRow.below {w w' : World} {g : Nat} {l : List Str} (h : StrRow w g l) (hb : Below w.heap.size w w') : StrRow w' g l := by
  have hlt : g < w.heap.size := (Array.getElem?_eq_some_iff.1 h).1
  exact (hb.block g hlt).trans h
theorem StrRow.lt {w : World} {g : Nat} {l : List Str} (h : StrRow w g l) : g < w.heap.size := (Array.getElem?_eq_some_iff.1 h).1
theorem StrRow.grown {w w' : World} {g p : Nat} {l : List Str} (h : StrRow w g l) (hb : w.grownBy w' (some p)) (hne : g ≠ p) : StrRow w' g l :=
  (hb.block g h.lt (fun e => hne (Option.some.inj e))).trans h
theorem cellOther (w : World) (a : Addr) (v : Value) {b : Nat} (o : Nat) (h : b ≠ a.block) : (w.setCell a v).cell? ⟨b, o, none⟩ = w.cell? ⟨b, o, none⟩ := by
  simp only [World.cell?]
  rw [heap_setCell_other w a b v h]
def qva (q : Qn) : Array Value := #[I q.node, I q.handler, I q.count, I q.kind, I q.index]
def qcode (o : Option Qn) : Int := if o.isSome then 0 else 8
def QuR (s : Str) : Value := .tuple #[.agg (qva ((parseQn s).getD qnNil)), I (qcode (parseQn s))]

theorem quEnd {s : Str} {w W : World} {tmps : Array Value} (cs : Array Value) (hb : Blk W w.heap.size cs) (hl : cs.size = 5) (hB : Below w.heap.size w W)
    (h2 : tmps.getD 2 undef = .pointer (some ⟨w.heap.size, 0, none⟩)) (hR : QuR s = .tuple #[.agg cs, tmps.getD 3 undef]) :
    bodyPost Tryz.prog Tryz.f88 (fun e w' => e = .returned (QuR s) ∧ Below w.heap.size w w') .ret { tmps := tmps, defers := [] } W :=
  bodyPost_ret (results_c2 Tryz.results88 tmps W w.heap.size cs (loadQu hb hl) h2) rfl ⟨by rw [hR], hB⟩

set_option maxHeartbeats 8000000 in
set_option maxRecDepth 100000 in
theorem parseQnC (s : Str) (w : World) (hg : Gl w) (hs : s.length ≤ 4000000000) :
    Calls Tryz.prog 88 #[sv s] w fun e w' => e = .returned (QuR s) ∧ Below w.heap.size w w' := by
  have HG := Lib.hid hg
  have hb0 : Below w.heap.size w (w.alloc (.cells #[I 0, I 0, I 0, I 0, I 0] 58)) := (Below.refl _ _).alloc (Nat.le_refl _) _
  have Hb0 := Lib.hid hb0
  have Hsp := Lib.hid (splitCw s 32 (w.alloc (.cells #[I 0, I 0, I 0, I 0, I 0] 58)) (hg.below hb0) hs)
  have Hle := Lib.hid (splitC_le 32 s)
  have HR := Lib.hid (show parseQn s = (let ws := splitC 32 s; let k := kindTo quWords (ws.getD 0 []) 4; if k = 0 ∨ ws.length ≠ 3 then none else match dotted? (ws.getD 1 []) 3, dotted? (ws.getD 2 []) 1 with | some [a, b, c], some [i] => if a < 12 ∧ b < 41 then some ⟨a, b, c, k, i⟩ else none | _, _ => none) from rfl)
  have hne : 0 < (splitC 32 s).length := by rw [splitC_length]; omega
  generalize splitC 32 s = ws at *
  simp only [] at HR
  clear hg hb0
  obtain ⟨VR, hVR⟩ : ∃ V, V = QuR s := ⟨_, rfl⟩
  unfold sv at Hsp ⊢
  go_enter Tryz.func88, Tryz.ntmps88
  go_wp2_with (first
    | (go_at_call 22; refine Hsp.out.mono ?_; rintro e w1 ⟨rfl, hrow, hb1, hz1⟩)
    | (go_at_call 106; refine (quWordsC _).mono ?_; rintro e w2 ⟨rfl, hqw, hb2, hz2⟩))
  clear hVR
  have hE : w1.heap.size = w.heap.size + 1 + 1 := by rw [hz1, World.size_alloc]
  have hz2' : w2.heap.size = w1.heap.size + 1 + 1 := by rw [hz2, World.size_alloc]
  have hR0 : Blk w2 w.heap.size #[I 0, I 0, I 0, I 0, I 0] := (((Blk.new w _ _).kept hb1 (by rw [World.size_alloc]; omega)).alloc _).kept hb2 (by rw [World.size_alloc]; omega)
  have hE0 : Blk w2 w1.heap.size #[I 0, I 0, I 0, I 0, I 0] := (Blk.new w1 _ _).kept hb2 (by rw [World.size_alloc]; omega)
  have hrow2 : StrRow w2 (w.heap.size + 1) ws := by
    have h1 : StrRow (w1.alloc (.cells #[I 0, I 0, I 0, I 0, I 0] 58)) (w.heap.size + 1) ws := by
      rw [← World.size_alloc w (.cells #[I 0, I 0, I 0, I 0, I 0] 58)]
      exact hrow.below ((Below.refl _ _).alloc (Nat.le_refl _) _)
    exact h1.below hb2
  have hqw2 : StrRow w2 (w1.heap.size + 1) quWords := by rw [World.size_alloc] at hqw; exact hqw
  have hB2 : Below w.heap.size w w2 := ((Hb0.out.trans (hb1.mono (by rw [World.size_alloc]; omega))).alloc (by omega) _).trans (hb2.mono (by rw [World.size_alloc]; omega))
  have HR0 := Lib.hid hR0
  have HE0 := Lib.hid hE0
  have Hrow2 := Lib.hid hrow2
  have Hqw2 := Lib.hid hqw2
  have HB2 := Lib.hid hB2
  clear hR0 hE0 hrow2 hqw2 hB2 hb1 hb2 hrow hqw hz1 hz2
  generalize w1.heap.size = E at *
  subst hE
  obtain ⟨ws0, hws0⟩ : ∃ x, x = ws.getD 0 [] := ⟨_, rfl⟩
  have hw0 : ws[0]? = some ws0 := by rw [hws0]; simp [List.getD, hne]
  rw [← hws0] at HR
  clear hws0
  have Hw0 := Lib.hid hw0
  clear hw0
  go_loopw [14] (fun i wr => ∃ (k : Nat), i = .int .i64 k ∧ k ≤ 4 ∧ Hid (Blk wr (w.heap.size + 1 + 1) #[I 0, I 0, I 0, I (kindTo quWords ws0 k), I 0]) ∧ Hid (w2.grownBy wr (some (w.heap.size + 1 + 1)))) (fun i _ => 4 - (intOf i).toNat)
  case atStart => exact ⟨0, rfl, by omega, HE0, Lib.hid (World.grownBy.refl _ _)⟩
  case round =>
    obtain ⟨k, rfl, hk, Hb, Hgr⟩ := hrel
    by_cases hlt : k < 4
    · have hcell : wr.cell? ⟨w.heap.size + 1 + 1 + 1, k, none⟩ = some (sv (quWords.getD k [])) := by
        refine StrRow.cell (Hqw2.out.grown Hgr.out (by omega)) ?_
        have : k < quWords.length := hlt
        simp [List.getD, this]
      have hc0 : wr.cell? ⟨w.heap.size + 1, 0, none⟩ = some (sv ws0) := StrRow.cell (Hrow2.out.grown Hgr.out (by omega)) Hw0.out
      have hc3 := Hb.out.cell 3
      have hf3 := Hb.out.frozen 3
      have hks := kindTo_succ quWords ws0 k
      by_cases hst : 0 < k ∧ ws0 = quWords.getD k []
      · rw [if_pos hst] at hks
        obtain ⟨h0, heq⟩ := hst
        have hset := Hb.out.set 3 (I k)
        have Hset := Lib.hid (show Blk (wr.setCell ⟨w.heap.size + 1 + 1, 3, none⟩ (I k)) (w.heap.size + 1 + 1) #[I 0, I 0, I 0, I (kindTo quWords ws0 (k + 1)), I 0] by rw [hks]; exact hset)
        rw [← heq] at hcell
        have hbe : (ws0 == ws0) = true := beq_self_eq_true _
        clear hks heq hset
        unfold sv at hcell hc0
        go_wp2_with fail
        go_roundw
        case rel => exact ⟨k + 1, by go_num, by omega, Hset, Lib.hid (Hgr.out.trans (grownSet wr ⟨w.heap.size + 1 + 1, 3, none⟩ _))⟩
        case measure => simp [intOf]; omega
      · rw [if_neg hst] at hks
        have Hb2 := Lib.hid (show Blk wr (w.heap.size + 1 + 1) #[I 0, I 0, I 0, I (kindTo quWords ws0 (k + 1)), I 0] by rw [hks]; exact Hb.out)
        clear hks hc3 hf3
        by_cases h0 : 0 < k
        · have hbe : (ws0 == quWords.getD k []) = false := beq_eq_false_iff_ne.2 (fun e => hst ⟨h0, e⟩)
          generalize quWords.getD k [] = q at hcell hbe hst
          clear hst
          unfold sv at hcell hc0
          go_wp2_with fail
          go_roundw
          case rel => exact ⟨k + 1, by go_num, by omega, Hb2, Hgr⟩
          case measure => simp [intOf]; omega
        · obtain rfl : k = 0 := by omega
          clear hst
          unfold sv at hcell hc0
          go_wp2_with fail
          go_roundw
          case rel => exact ⟨0 + 1, by go_num, by omega, Hb2, Hgr⟩
          case measure => simp [intOf]
    · obtain rfl : k = 4 := by omega
      have hk3 := kindTo_le quWords ws0 4
      generalize kindTo quWords ws0 4 = kk at Hb HR hk3
      have hRr : Blk wr w.heap.size #[I 0, I 0, I 0, I 0, I 0] := HR0.out.grown Hgr.out (by intro e; injection e with e; omega)
      have hBr : Below w.heap.size w wr := HB2.out.grown Hgr.out (by omega) (by intro k e; injection e with e; omega)
      have Hfin := Lib.hid (show Blk (((((wr.setCell ⟨w.heap.size, 0, none⟩ (I 0)).setCell ⟨w.heap.size, 1, none⟩ (I 0)).setCell ⟨w.heap.size, 2, none⟩ (I 0)).setCell ⟨w.heap.size, 3, none⟩ (I 0)).setCell ⟨w.heap.size, 4, none⟩ (I 0)) w.heap.size #[I 0, I 0, I 0, I 0, I 0] ∧ Below w.heap.size w (((((wr.setCell ⟨w.heap.size, 0, none⟩ (I 0)).setCell ⟨w.heap.size, 1, none⟩ (I 0)).setCell ⟨w.heap.size, 2, none⟩ (I 0)).setCell ⟨w.heap.size, 3, none⟩ (I 0)).setCell ⟨w.heap.size, 4, none⟩ (I 0)) by
        obtain ⟨h1, h2⟩ := blk_put5 hRr (I 0) (I 0) (I 0) (I 0) (I 0)
        exact ⟨h1, hBr.grown h2 hBr.size (by intro k e; injection e with e; omega)⟩)
      have r0 := hRr.cell 0; have r1 := hRr.cell 1; have r2 := hRr.cell 2; have r3 := hRr.cell 3; have r4 := hRr.cell 4
      have g0 := hRr.frozen 0; have g1 := hRr.frozen 1; have g2 := hRr.frozen 2; have g3 := hRr.frozen 3; have g4 := hRr.frozen 4
      have e3 := Hb.out.cell 3
      have HRr := Lib.hid hRr
      have HBr := Lib.hid hBr
      clear hRr hBr
      by_cases h0 : kk = 0
      · subst h0
        have HQ := Lib.hid (show parseQn s = none by rw [HR.out, if_pos (.inl rfl)])
        go_wp2_with fail
        exact quEnd _ Hfin.out.1 rfl Hfin.out.2 rfl (by unfold QuR; rw [HQ.out]; rfl)
      · have h0' : ¬ (kk : Int) = 0 := by omega
        have hb0 : ((kk : Int) == 0) = false := beq_eq_false_iff_ne.2 h0'
        by_cases h3 : ws.length = 3
        · obtain ⟨y, hy⟩ : ∃ y, ws[1]? = some y := ⟨ws[1], by simp [h3]⟩
          obtain ⟨z, hz⟩ : ∃ z, ws[2]? = some z := ⟨ws[2], by simp [h3]⟩
          have hyl : y.length ≤ 4000000000 := Nat.le_trans (Hle.out _ (List.mem_of_getElem? hy)) hs
          have hzl : z.length ≤ 4000000000 := Nat.le_trans (Hle.out _ (List.mem_of_getElem? hz)) hs
          have HQ := Lib.hid (show parseQn s = match dotted? y 3, dotted? z 1 with | some [a, b, c], some [i] => if a < 12 ∧ b < 41 then some ⟨a, b, c, kk, i⟩ else none | _, _ => none by
            have e1 : ws.getD 1 [] = y := by simp [List.getD, hy]
            have e2 : ws.getD 2 [] = z := by simp [List.getD, hz]
            rw [HR.out, if_neg (by omega), e1, e2])
          have hcy : wr.cell? ⟨w.heap.size + 1, 1, none⟩ = some (sv y) := StrRow.cell (Hrow2.out.grown Hgr.out (by omega)) hy
          have hcz : wr.cell? ⟨w.heap.size + 1, 2, none⟩ = some (sv z) := StrRow.cell (Hrow2.out.grown Hgr.out (by omega)) hz
          have HGr := Lib.hid (HG.out.below HBr.out)
          have Hcells := Lib.hid (show ∀ X, Below wr.heap.size wr X → X.cell? ⟨w.heap.size + 1, 1, none⟩ = some (sv y) ∧ X.cell? ⟨w.heap.size + 1, 2, none⟩ = some (sv z) from fun X hX => ⟨(hX.cell (p := ⟨w.heap.size + 1, 1, none⟩) (Lib.lt_of_cell hcy)).trans hcy, (hX.cell (p := ⟨w.heap.size + 1, 2, none⟩) (Lib.lt_of_cell hcz)).trans hcz⟩)
          have HFX := Lib.hid (show ∀ X, Below wr.heap.size wr X → Blk X w.heap.size #[I 0, I 0, I 0, I 0, I 0] ∧ Blk (((((X.setCell ⟨w.heap.size, 0, none⟩ (I 0)).setCell ⟨w.heap.size, 1, none⟩ (I 0)).setCell ⟨w.heap.size, 2, none⟩ (I 0)).setCell ⟨w.heap.size, 3, none⟩ (I 0)).setCell ⟨w.heap.size, 4, none⟩ (I 0)) w.heap.size #[I 0, I 0, I 0, I 0, I 0] ∧ Below w.heap.size w (((((X.setCell ⟨w.heap.size, 0, none⟩ (I 0)).setCell ⟨w.heap.size, 1, none⟩ (I 0)).setCell ⟨w.heap.size, 2, none⟩ (I 0)).setCell ⟨w.heap.size, 3, none⟩ (I 0)).setCell ⟨w.heap.size, 4, none⟩ (I 0)) from fun X hX => by
            have hX0 := HRr.out.kept hX HRr.out.lt
            obtain ⟨h1, h2⟩ := blk_put5 hX0 (I 0) (I 0) (I 0) (I 0) (I 0)
            have hbx := HBr.out.trans (hX.mono HBr.out.size)
            exact ⟨hX0, h1, hbx.grown h2 hbx.size (by intro k e; injection e with e; omega)⟩)
          have qT : ∀ (w : World) (a : Option Addr) (n c n' c' : Nat), (binOp .eql 22 (.slice a n c) (.slice none n' c')).run Tryz.prog w = .ok (.bool a.isNone) w := fun w a n c n' c' => Lib.run_eql_slice_nil w _ _ a n c n' c' Tryz.underlying22
          have hEX := Lib.hid (show ∀ X, Below wr.heap.size wr X → Blk X (w.heap.size + 1 + 1) #[I 0, I 0, I 0, I kk, I 0] from fun X hX => Hb.out.kept hX Hb.out.lt)
          obtain ⟨hS1, hS2⟩ := Hcells.out wr (Below.refl _ _)
          clear hcy hcz hy hz Hb Hrow2 Hqw2 HE0 Hw0 Hle Hfin HR
          unfold sv at hS1 hS2
          cases hd3 : dotted? y 3 with
          | none =>
            have HQ2 := Lib.hid (show parseQn s = none by rw [HQ.out, hd3])
            have Hc3 := Lib.hid (fun X (hX : Below wr.heap.size wr X) => dotNo hd3 X (HGr.out.below hX) hyl (by omega) (by omega))
            have Hc1 := Lib.hid (fun X (hX : Below wr.heap.size wr X) => dotAny z 1 X (HGr.out.below hX) hzl (by omega) (by omega))
            clear hd3
            unfold sv at Hc3 Hc1
            go_upto_region 11 with fail
            refine wp_region_ordN 7 [(0, true), (1, true), (2, true), (4, true), (5, true), (6, true), (3, false)] (fun X => X.cell? ⟨w.heap.size + 1, 1, none⟩ = some (.string ⟨y.toArray⟩) ∧ X.cell? ⟨w.heap.size + 1, 2, none⟩ = some (.string ⟨z.toArray⟩)) (by kernel_rfl) rfl rfl (by kernel_rfl) ⟨hS1, hS2⟩ ?_
            iterate 6 (refine wpOrd_take ?_ (by rfl) ?_ ?_; rotate_left; (intro w hSw; (try dsimp only at hSw); go_simp; try with_reducible rfl); (try simp only [Act.put, List.setIfInBounds_toArray, List.set_cons_zero, List.set_cons_succ]))
            refine wpOrd_move (fun K hK => ?_)
            go_simp
            go_at_call 86
            refine (Hc3.out _ (Below.refl _ _).drew).mono ?_
            rintro e X1 ⟨rfl, D1⟩
            have D1 : Below wr.heap.size wr X1 := (Below.refl wr.heap.size wr).drew.trans D1
            refine hK.out _ _ ⟨by simpa [sv] using (Hcells.out X1 D1).1, by simpa [sv] using (Hcells.out X1 D1).2⟩ ?_
            clear hK K
            (try simp only [Act.put, List.setIfInBounds_toArray, List.set_cons_zero, List.set_cons_succ])
            refine wpOrd_nil ?_
            go_wp2_with (go_at_call 86; refine (Hc1.out _ (by first | exact D1 | exact D1.drew)).mono ?_; rintro e X2 ⟨⟨qa, qn, qc', rfl⟩, D2⟩)
            have D12 : Below wr.heap.size wr X2 := D1.trans (D2.mono D1.size)
            refine NoPanic.normal ?_
            obtain ⟨hF0, hF1, hF2⟩ := HFX.out X2 D12
            have r0 := hF0.cell 0; have r1 := hF0.cell 1; have r2 := hF0.cell 2; have r3 := hF0.cell 3; have r4 := hF0.cell 4
            have g0 := hF0.frozen 0; have g1 := hF0.frozen 1; have g2 := hF0.frozen 2; have g3 := hF0.frozen 3; have g4 := hF0.frozen 4
            have HF1 := Lib.hid hF1
            have HF2 := Lib.hid hF2
            clear hF0 hF1 hF2
            go_wp2_with fail
            exact quEnd _ HF1.out rfl HF2.out rfl (by unfold QuR; rw [HQ2.out]; rfl)
          | some l3 =>
            have hl3 := dot_length hd3
            obtain ⟨a, b, d, rfl⟩ : ∃ a b d, l3 = [a, b, d] := by
              match l3, hl3 with
              | [a, b, d], _ => exact ⟨a, b, d, rfl⟩
            have Hc3 := Lib.hid (fun X (hX : Below wr.heap.size wr X) => dotYes hd3 X (HGr.out.below hX) hyl (by omega) (by omega))
            clear hl3
            cases hd1 : dotted? z 1 with
            | none =>
              have HQ2 := Lib.hid (show parseQn s = none by rw [HQ.out, hd3, hd1])
              have Hc1 := Lib.hid (fun X (hX : Below wr.heap.size wr X) => dotNo hd1 X (HGr.out.below hX) hzl (by omega) (by omega))
              clear hd3 hd1
              unfold sv at Hc3 Hc1
              go_upto_region 11 with fail
              refine wp_region_ordN 7 [(0, true), (1, true), (2, true), (4, true), (5, true), (6, true), (3, false)] (fun X => X.cell? ⟨w.heap.size + 1, 1, none⟩ = some (.string ⟨y.toArray⟩) ∧ X.cell? ⟨w.heap.size + 1, 2, none⟩ = some (.string ⟨z.toArray⟩)) (by kernel_rfl) rfl rfl (by kernel_rfl) ⟨hS1, hS2⟩ ?_
              iterate 6 (refine wpOrd_take ?_ (by rfl) ?_ ?_; rotate_left; (intro w hSw; (try dsimp only at hSw); go_simp; try with_reducible rfl); (try simp only [Act.put, List.setIfInBounds_toArray, List.set_cons_zero, List.set_cons_succ]))
              refine wpOrd_move (fun K hK => ?_)
              go_simp
              go_at_call 86
              refine (Hc3.out _ (Below.refl _ _).drew).mono ?_
              rintro e X1 ⟨⟨ga, gc, rfl, hga, hgb, hgc⟩, D1⟩
              have D1 : Below wr.heap.size wr X1 := (Below.refl wr.heap.size wr).drew.trans D1
              refine hK.out _ _ ⟨by simpa [sv] using (Hcells.out X1 D1).1, by simpa [sv] using (Hcells.out X1 D1).2⟩ ?_
              clear hK K
              (try simp only [Act.put, List.setIfInBounds_toArray, List.set_cons_zero, List.set_cons_succ])
              refine wpOrd_nil ?_
              go_wp2_with (go_at_call 86; refine (Hc1.out _ (by first | exact D1 | exact D1.drew)).mono ?_; rintro e X2 ⟨rfl, D2⟩)
              have D12 : Below wr.heap.size wr X2 := D1.trans (D2.mono D1.size)
              refine NoPanic.normal ?_
              obtain ⟨hF0, hF1, hF2⟩ := HFX.out X2 D12
              have r0 := hF0.cell 0; have r1 := hF0.cell 1; have r2 := hF0.cell 2; have r3 := hF0.cell 3; have r4 := hF0.cell 4
              have g0 := hF0.frozen 0; have g1 := hF0.frozen 1; have g2 := hF0.frozen 2; have g3 := hF0.frozen 3; have g4 := hF0.frozen 4
              have HF1 := Lib.hid hF1
              have HF2 := Lib.hid hF2
              clear hF0 hF1 hF2
              go_wp2_with fail
              exact quEnd _ HF1.out rfl HF2.out rfl (by unfold QuR; rw [HQ2.out]; rfl)
            | some l1 =>
              have hl1 := dot_length hd1
              obtain ⟨ix, rfl⟩ : ∃ ix, l1 = [ix] := by
                match l1, hl1 with
                | [a], _ => exact ⟨a, rfl⟩
              have HQ2 := Lib.hid (show parseQn s = if a < 12 ∧ b < 41 then some ⟨a, b, d, kk, ix⟩ else none by rw [HQ.out, hd3, hd1])
              have Hc1 := Lib.hid (fun X (hX : Below wr.heap.size wr X) => dotYes hd1 X (HGr.out.below hX) hzl (by omega) (by omega))
              clear hd3 hd1 hl1
              unfold sv at Hc3 Hc1
              go_upto_region 11 with fail
              refine wp_region_ordN 7 [(0, true), (1, true), (2, true), (4, true), (5, true), (6, true), (3, false)] (fun X => X.cell? ⟨w.heap.size + 1, 1, none⟩ = some (.string ⟨y.toArray⟩) ∧ X.cell? ⟨w.heap.size + 1, 2, none⟩ = some (.string ⟨z.toArray⟩)) (by kernel_rfl) rfl rfl (by kernel_rfl) ⟨hS1, hS2⟩ ?_
              iterate 6 (refine wpOrd_take ?_ (by rfl) ?_ ?_; rotate_left; (intro w hSw; (try dsimp only at hSw); go_simp; try with_reducible rfl); (try simp only [Act.put, List.setIfInBounds_toArray, List.set_cons_zero, List.set_cons_succ]))
              refine wpOrd_move (fun K hK => ?_)
              go_simp
              go_at_call 86
              refine (Hc3.out _ (Below.refl _ _).drew).mono ?_
              rintro e X1 ⟨⟨ga, gc, rfl, hga, hgb, hgc⟩, D1⟩
              have D1 : Below wr.heap.size wr X1 := (Below.refl wr.heap.size wr).drew.trans D1
              refine hK.out _ _ ⟨by simpa [sv] using (Hcells.out X1 D1).1, by simpa [sv] using (Hcells.out X1 D1).2⟩ ?_
              clear hK K
              (try simp only [Act.put, List.setIfInBounds_toArray, List.set_cons_zero, List.set_cons_succ])
              refine wpOrd_nil ?_
              go_wp2_with (go_at_call 86; refine (Hc1.out _ (by first | exact D1 | exact D1.drew)).mono ?_; rintro e X2 ⟨⟨gi, gj, rfl, hgi, hgk, hgl⟩, D2⟩)
              have D12 : Below wr.heap.size wr X2 := D1.trans (D2.mono D1.size)
              refine NoPanic.normal ?_
              have hszX := D1.size
              have hsz2 := D2.size
              have c0 : X2.cell? ⟨ga, 0, none⟩ = some (I (a : Nat)) := (D2.cell (p := ⟨ga, 0, none⟩) hgb).trans (hgc 0 a rfl)
              have c1 : X2.cell? ⟨ga, 1, none⟩ = some (I (b : Nat)) := (D2.cell (p := ⟨ga, 1, none⟩) hgb).trans (hgc 1 b rfl)
              have c2 : X2.cell? ⟨ga, 2, none⟩ = some (I (d : Nat)) := (D2.cell (p := ⟨ga, 2, none⟩) hgb).trans (hgc 2 d rfl)
              have i0 : X2.cell? ⟨gi, 0, none⟩ = some (I (ix : Nat)) := hgl 0 ix rfl
              have hEb := hEX.out X2 D12
              have HEs := Lib.hid (show Blk ((((X2.setCell ⟨w.heap.size + 1 + 1, 0, none⟩ (I a)).setCell ⟨w.heap.size + 1 + 1, 1, none⟩ (I b)).setCell ⟨w.heap.size + 1 + 1, 2, none⟩ (I d)).setCell ⟨w.heap.size + 1 + 1, 4, none⟩ (I ix)) (w.heap.size + 1 + 1) #[I a, I b, I d, I kk, I ix] from (((hEb.set 0 (I a)).set 1 (I b)).set 2 (I d)).set 4 (I ix))
              have hElt := hEb.lt
              have hga : wr.heap.size ≤ ga := hga
              have hn1 : ga ≠ w.heap.size + 1 + 1 := by have := HRr.out.lt; have := (hEX.out wr (Below.refl _ _)).lt; omega
              have hn2 : gi ≠ w.heap.size + 1 + 1 := by have := (hEX.out wr (Below.refl _ _)).lt; omega
              have e0 := hEb.cell 0; have e1 := hEb.cell 1; have e2 := hEb.cell 2; have e4 := hEb.cell 4
              have f0 := hEb.frozen 0; have f1 := hEb.frozen 1; have f2 := hEb.frozen 2; have f4 := hEb.frozen 4
              clear hgc hgl hga hgi hEb
              go_upto_region 14 with fail
              refine wp_region_ordN 15 [(0, true), (1, true), (2, true), (3, true), (4, true), (5, true), (6, true), (7, true), (8, true), (9, true), (10, true), (11, true), (12, true), (13, true), (14, false)] (fun X => X.cell? ⟨ga, 0, none⟩ = some (I (a : Nat)) ∧ X.cell? ⟨ga, 1, none⟩ = some (I (b : Nat)) ∧ X.cell? ⟨ga, 2, none⟩ = some (I (d : Nat)) ∧ X.cell? ⟨gi, 0, none⟩ = some (I (ix : Nat))) (by kernel_rfl) rfl rfl (by kernel_rfl) ⟨c0, c1, c2, i0⟩ ?_
              iterate 14 (refine wpOrd_take ?_ (by rfl) ?_ ?_; rotate_left; (intro w hSw; (try dsimp only at hSw); go_simp; try with_reducible rfl); (try simp only [Act.put, List.setIfInBounds_toArray, List.set_cons_zero, List.set_cons_succ]))
              refine wpOrd_move (fun K hK => ?_)
              go_simp
              have hoth : ∀ (q o : Nat), q ≠ w.heap.size + 1 + 1 → (((X2.setCell ⟨w.heap.size + 1 + 1, 0, none⟩ (I a)).setCell ⟨w.heap.size + 1 + 1, 1, none⟩ (I b)).setCell ⟨w.heap.size + 1 + 1, 2, none⟩ (I d)).cell? ⟨q, o, none⟩ = X2.cell? ⟨q, o, none⟩ := fun q o h => by
                rw [cellOther _ _ _ _ h, cellOther _ _ _ _ h, cellOther _ _ _ _ h]
              refine hK.out _ _ ⟨(hoth ga 0 hn1).trans c0, (hoth ga 1 hn1).trans c1, (hoth ga 2 hn1).trans c2, (hoth gi 0 hn2).trans i0⟩ ?_
              clear hoth
              clear hK K
              (try simp only [Act.put, List.setIfInBounds_toArray, List.set_cons_zero, List.set_cons_succ])
              refine wpOrd_nil ?_
              go_wp2_with fail
              refine NoPanic.normal ?_
              clear e0 e1 e2 e4 f0 f1 f2 f4 c0 c1 c2 i0
              have hgY : X2.grownBy ((((X2.setCell ⟨w.heap.size + 1 + 1, 0, none⟩ (I a)).setCell ⟨w.heap.size + 1 + 1, 1, none⟩ (I b)).setCell ⟨w.heap.size + 1 + 1, 2, none⟩ (I d)).setCell ⟨w.heap.size + 1 + 1, 4, none⟩ (I ix)).drew (some (w.heap.size + 1 + 1)) := by
                have h := (((grownSet X2 ⟨w.heap.size + 1 + 1, 0, none⟩ (I a)).trans (grownSet _ ⟨w.heap.size + 1 + 1, 1, none⟩ (I b))).trans (grownSet _ ⟨w.heap.size + 1 + 1, 2, none⟩ (I d))).trans (grownSet _ ⟨w.heap.size + 1 + 1, 4, none⟩ (I ix))
                exact ⟨h.os, h.tape, h.output, h.size, h.block⟩
              have hEY := HEs.out.drew
              generalize ((((X2.setCell ⟨w.heap.size + 1 + 1, 0, none⟩ (I a)).setCell ⟨w.heap.size + 1 + 1, 1, none⟩ (I b)).setCell ⟨w.heap.size + 1 + 1, 2, none⟩ (I d)).setCell ⟨w.heap.size + 1 + 1, 4, none⟩ (I ix)).drew = Y at hgY hEY
              have hYR : Blk Y w.heap.size #[I 0, I 0, I 0, I 0, I 0] := (HFX.out X2 D12).1.grown hgY (by intro e; injection e with e; omega)
              have hBY : Below w.heap.size w Y := (HBr.out.trans (D12.mono HBr.out.size)).grown hgY (by have := HBr.out.size; have := D12.size; omega) (by intro k e; injection e with e; omega)
              have y0 := hEY.cell 0; have y1 := hEY.cell 1; have y2 := hEY.cell 2
              have HYE := Lib.hid hEY
              have HYR := Lib.hid hYR
              have HYB := Lib.hid hBY
              clear hEY hYR hBY hgY HEs
              have HW := Lib.hid (withinC a b d 41)
              by_cases hab : a < 12 ∧ b < 41
              · have HQ3 := Lib.hid (show parseQn s = some ⟨a, b, d, kk, ix⟩ by rw [HQ2.out, if_pos hab])
                have hdec : decide (a < 12 ∧ b < 41) = true := decide_eq_true hab
                rw [hdec] at HW
                go_wp2_with (go_at_call 87; refine (HW.out Y).mono ?_; rintro e Z ⟨rfl, D3⟩; have z0 := (HYE.out.kept D3 HYE.out.lt).cell 0; have z1 := (HYE.out.kept D3 HYE.out.lt).cell 1; have z2 := (HYE.out.kept D3 HYE.out.lt).cell 2; have z3 := (HYE.out.kept D3 HYE.out.lt).cell 3; have z4 := (HYE.out.kept D3 HYE.out.lt).cell 4; have zr := HYR.out.kept D3 HYR.out.lt; have r0 := zr.cell 0; have r1 := zr.cell 1; have r2 := zr.cell 2; have r3 := zr.cell 3; have r4 := zr.cell 4; have g0 := zr.frozen 0; have g1 := zr.frozen 1; have g2 := zr.frozen 2; have g3 := zr.frozen 3; have g4 := zr.frozen 4; have Zr := Lib.hid zr; clear zr)
                obtain ⟨h1, h2⟩ := blk_put5 Zr.out (I a) (I b) (I d) (I kk) (I ix)
                have hBZ : Below w.heap.size w Z := HYB.out.trans (D3.mono HYB.out.size)
                exact quEnd _ h1 rfl (hBZ.grown h2 hBZ.size (by intro k e; injection e with e; omega)) rfl (by unfold QuR; rw [HQ3.out]; rfl)
              · have HQ3 := Lib.hid (show parseQn s = none by rw [HQ2.out, if_neg hab])
                have hdec : decide (a < 12 ∧ b < 41) = false := decide_eq_false hab
                rw [hdec] at HW
                go_wp2_with (go_at_call 87; refine (HW.out Y).mono ?_; rintro e Z ⟨rfl, D3⟩; have zr := HYR.out.kept D3 HYR.out.lt; have r0 := zr.cell 0; have r1 := zr.cell 1; have r2 := zr.cell 2; have r3 := zr.cell 3; have r4 := zr.cell 4; have g0 := zr.frozen 0; have g1 := zr.frozen 1; have g2 := zr.frozen 2; have g3 := zr.frozen 3; have g4 := zr.frozen 4; have Zr := Lib.hid zr; clear zr)
                obtain ⟨h1, h2⟩ := blk_put5 Zr.out (I 0) (I 0) (I 0) (I 0) (I 0)
                have hBZ : Below w.heap.size w Z := HYB.out.trans (D3.mono HYB.out.size)
                exact quEnd _ h1 rfl (hBZ.grown h2 hBZ.size (by intro k e; injection e with e; omega)) rfl (by unfold QuR; rw [HQ3.out]; rfl)
        · have h3' : ¬ (ws.length : Int) = 3 := by omega
          have hb3 : ((ws.length : Int) == 3) = false := beq_eq_false_iff_ne.2 h3'
          have HQ := Lib.hid (show parseQn s = none by rw [HR.out, if_pos (.inr h3)])
          go_wp2_with fail
          exact quEnd _ Hfin.out.1 rfl Hfin.out.2 rfl (by unfold QuR; rw [HQ.out]; rfl)
end Go.Proofs.YtljmonfobefiiaaGreatDoor

/- names.ParseEvent. (Printed by mkS8.py.) -/
namespace Go.Proofs.YtljmonfobefiiaaGreatDoor
open Go.RowKit

def eva (e : Ev) : Array Value := #[I e.kind, I e.node, I e.arg, I e.msg.node, I e.msg.handler, I e.msg.count, I e.msg.index, I e.msg.copy]
def ecode (o : Option Ev) : Int := if o.isSome then 0 else 8
def EvR (s : Str) : Value := .tuple #[.agg (eva ((parseEv s).getD evNil)), I (ecode (parseEv s))]
theorem evFin {s : Str} {w W : World} {tmps : Array Value} (cs : Array Value) (hb : Blk W w.heap.size cs) (hl : cs.size = 8) (hB : Below w.heap.size w W)
    (h2 : tmps.getD 2 undef = .pointer (some ⟨w.heap.size, 0, none⟩)) (hR : EvR s = .tuple #[.agg cs, tmps.getD 3 undef]) :
    bodyPost Tryz.prog Tryz.f47 (fun e w' => e = .returned (EvR s) ∧ Below w.heap.size w w') .ret { tmps := tmps, defers := [] } W :=
  bodyPost_ret (results_c2 Tryz.results47 tmps W w.heap.size cs (loadEv hb hl) h2) rfl ⟨by rw [hR], hB⟩
/-- What stands while ParseEvent goes on: the result's cell, the words, the event so far. -/
structure EvAt (w X : World) (ws : List Str) (e : Array Value) : Prop where
  res : Blk X w.heap.size #[I 0, I 0, I 0, I 0, I 0, I 0, I 0, I 0]
  row : StrRow X (w.heap.size + 1) ws
  ev : Blk X (w.heap.size + 1 + 1) e
  bel : Below w.heap.size w X
theorem EvAt.kept {w X X' : World} {ws : List Str} {e : Array Value} (h : EvAt w X ws e) (hb : Below X.heap.size X X') : EvAt w X' ws e :=
  ⟨h.res.kept hb h.res.lt, h.row.below hb, h.ev.kept hb h.ev.lt, h.bel.trans (hb.mono h.bel.size)⟩
theorem EvAt.drew {w X : World} {ws : List Str} {e : Array Value} (h : EvAt w X ws e) : EvAt w X.drew ws e := h.kept (Below.refl _ _).drew
theorem EvAt.set {w X : World} {ws : List Str} {e : Array Value} (h : EvAt w X ws e) (i : Nat) (v : Value) : EvAt w (X.setCell ⟨w.heap.size + 1 + 1, i, none⟩ v) ws (e.setIfInBounds i v) :=
  ⟨h.res.grown (grownSet X ⟨w.heap.size + 1 + 1, i, none⟩ v) (fun e => by have h := Option.some.inj e; change w.heap.size + 1 + 1 = w.heap.size at h; omega), h.row.grown (grownSet X ⟨w.heap.size + 1 + 1, i, none⟩ v) (by show w.heap.size + 1 ≠ w.heap.size + 1 + 1; omega), h.ev.set i v,
    h.bel.grown (grownSet X ⟨w.heap.size + 1 + 1, i, none⟩ v) h.bel.size (fun k e => by have h := Option.some.inj e; change w.heap.size + 1 + 1 = k at h; omega)⟩

theorem parseEv_eq (s : Str) (ws : List Str) (h : splitC 32 s = ws) (kk : Nat) (hk : kindTo evWords (ws.getD 0 []) 8 = kk) : parseEv s = if kk = 0 ∨ ws.length ≠ (if kk = 7 then 2 else 3) then none
  else match dotted? (ws.getD 1 []) 1 with
    | some [nd] =>
      if 12 ≤ nd then none
      else if kk = 3 ∨ kk = 5 ∨ kk = 6 then
        match dotted? (ws.getD 2 []) 5 with
        | some [a, b, c, d, e] => if a < 12 ∧ b < 40 then some ⟨kk, nd, 0, ⟨a, b, c, d, e⟩⟩ else none
        | _ => none
      else if kk = 7 then some ⟨7, nd, 0, ⟨0, 0, 0, 0, 0⟩⟩
      else match dotted? (ws.getD 2 []) 1 with
        | some [r] => some ⟨kk, nd, r, ⟨0, 0, 0, 0, 0⟩⟩
        | _ => none
    | _ => none := by
  subst h hk
  rfl

set_option maxHeartbeats 16000000 in
set_option maxRecDepth 100000 in
theorem parseEvC (s : Str) (w : World) (hg : Gl w) (hs : s.length ≤ 4000000000) :
    Calls Tryz.prog 47 #[sv s] w fun e w' => e = .returned (EvR s) ∧ Below w.heap.size w w' := by
  have HG := Lib.hid hg
  have hb0 : Below w.heap.size w (w.alloc (.cells #[I 0, I 0, I 0, I 0, I 0, I 0, I 0, I 0] 49)) := (Below.refl _ _).alloc (Nat.le_refl _) _
  have Hb0 := Lib.hid hb0
  have Hsp := Lib.hid (splitCw s 32 (w.alloc (.cells #[I 0, I 0, I 0, I 0, I 0, I 0, I 0, I 0] 49)) (hg.below hb0) hs)
  have Hle := Lib.hid (splitC_le 32 s)
  have HR0 := Lib.hid (parseEv_eq s)
  have hne : 0 < (splitC 32 s).length := by rw [splitC_length]; omega
  generalize splitC 32 s = ws at *
  have HR := Lib.hid (HR0.out ws rfl)
  clear hg hb0 HR0
  unfold sv at Hsp ⊢
  go_enter Tryz.func47, Tryz.ntmps47
  go_wp2_with (first
    | (go_at_call 22; refine Hsp.out.mono ?_; rintro e w1 ⟨rfl, hrow, hb1, hz1⟩)
    | (go_at_call 85; refine (evWordsC _).mono ?_; rintro e w2 ⟨rfl, hqw, hb2, hz2⟩))
  have hE : w1.heap.size = w.heap.size + 1 + 1 := by rw [hz1, World.size_alloc]
  have hR0 : Blk w2 w.heap.size #[I 0, I 0, I 0, I 0, I 0, I 0, I 0, I 0] := (((Blk.new w _ _).kept hb1 (by rw [World.size_alloc]; omega)).alloc _).kept hb2 (by rw [World.size_alloc]; omega)
  have hE0 : Blk w2 w1.heap.size #[I 0, I 0, I 0, I 0, I 0, I 0, I 0, I 0] := (Blk.new w1 _ _).kept hb2 (by rw [World.size_alloc]; omega)
  have hrow2 : StrRow w2 (w.heap.size + 1) ws := by
    have h1 : StrRow (w1.alloc (.cells #[I 0, I 0, I 0, I 0, I 0, I 0, I 0, I 0] 49)) (w.heap.size + 1) ws := by
      rw [← World.size_alloc w (.cells #[I 0, I 0, I 0, I 0, I 0, I 0, I 0, I 0] 49)]
      exact hrow.below ((Below.refl _ _).alloc (Nat.le_refl _) _)
    exact h1.below hb2
  have hqw2 : StrRow w2 (w1.heap.size + 1) evWords := by rw [World.size_alloc] at hqw; exact hqw
  have hB2 : Below w.heap.size w w2 := ((Hb0.out.trans (hb1.mono (by rw [World.size_alloc]; omega))).alloc (by omega) _).trans (hb2.mono (by rw [World.size_alloc]; omega))
  have Hqw2 := Lib.hid hqw2
  obtain ⟨ws0, hws0⟩ : ∃ x, x = ws.getD 0 [] := ⟨_, rfl⟩
  have hw0 : ws[0]? = some ws0 := by rw [hws0]; simp [List.getD, hne]
  rw [← hws0] at HR
  clear hws0
  have Hw0 := Lib.hid hw0
  clear hw0
  clear hqw2 hb1 hb2 hrow hqw hz1 hz2
  generalize w1.heap.size = E at *
  subst hE
  have HA2 := Lib.hid (EvAt.mk (w := w) (X := w2) (ws := ws) (e := #[I 0, I 0, I 0, I 0, I 0, I 0, I 0, I 0]) hR0 hrow2 hE0 hB2)
  clear hR0 hE0 hrow2 hB2
  go_loopw [16] (fun i wr => ∃ (k : Nat), i = .int .i64 k ∧ k ≤ 8 ∧ Hid (EvAt w wr ws #[I (kindTo evWords ws0 k), I 0, I 0, I 0, I 0, I 0, I 0, I 0]) ∧ Hid (StrRow wr (w.heap.size + 1 + 1 + 1) evWords)) (fun i _ => 8 - (intOf i).toNat)
  case atStart => exact ⟨0, rfl, by omega, HA2, Hqw2⟩
  case round =>
    obtain ⟨k, rfl, hk, Hb, Hq⟩ := hrel
    by_cases hlt : k < 8
    · have hcell : wr.cell? ⟨w.heap.size + 1 + 1 + 1, k, none⟩ = some (sv (evWords.getD k [])) := by
        refine StrRow.cell Hq.out ?_
        have : k < evWords.length := hlt
        simp [List.getD, this]
      have hc0 : wr.cell? ⟨w.heap.size + 1, 0, none⟩ = some (sv ws0) := StrRow.cell Hb.out.row Hw0.out
      have hc3 := Hb.out.ev.cell 0
      have hf3 := Hb.out.ev.frozen 0
      have hks := kindTo_succ evWords ws0 k
      by_cases hst : 0 < k ∧ ws0 = evWords.getD k []
      · rw [if_pos hst] at hks
        obtain ⟨h0, heq⟩ := hst
        have hset := Hb.out.set 0 (I k)
        have Hset := Lib.hid (show EvAt w (wr.setCell ⟨w.heap.size + 1 + 1, 0, none⟩ (I k)) ws #[I (kindTo evWords ws0 (k + 1)), I 0, I 0, I 0, I 0, I 0, I 0, I 0] by rw [hks]; exact hset)
        have Hq2 := Lib.hid (Hq.out.grown (grownSet wr ⟨w.heap.size + 1 + 1, 0, none⟩ (I k)) (by show w.heap.size + 1 + 1 + 1 ≠ w.heap.size + 1 + 1; omega))
        rw [← heq] at hcell
        have hbe : (ws0 == ws0) = true := beq_self_eq_true _
        clear hks heq hset
        unfold sv at hcell hc0
        go_wp2_with fail
        go_roundw
        case rel => exact ⟨k + 1, by go_num, by omega, Hset, Hq2⟩
        case measure => simp [intOf]; omega
      · rw [if_neg hst] at hks
        have Hb2 := Lib.hid (show EvAt w wr ws #[I (kindTo evWords ws0 (k + 1)), I 0, I 0, I 0, I 0, I 0, I 0, I 0] by rw [hks]; exact Hb.out)
        clear hks hc3 hf3
        by_cases h0 : 0 < k
        · have hbe : (ws0 == evWords.getD k []) = false := beq_eq_false_iff_ne.2 (fun e => hst ⟨h0, e⟩)
          generalize evWords.getD k [] = q at hcell hbe hst
          clear hst
          unfold sv at hcell hc0
          go_wp2_with fail
          go_roundw
          case rel => exact ⟨k + 1, by go_num, by omega, Hb2, Hq⟩
          case measure => simp [intOf]; omega
        · obtain rfl : k = 0 := by omega
          clear hst
          unfold sv at hcell hc0
          go_wp2_with fail
          go_roundw
          case rel => exact ⟨0 + 1, by go_num, by omega, Hb2, Hq⟩
          case measure => simp [intOf]
    · obtain rfl : k = 8 := by omega
      have hk7 := kindTo_le evWords ws0 8
      have HR := Lib.hid (HR.out _ rfl)
      generalize kindTo evWords ws0 8 = kk at Hb HR hk7
      have e0 := Hb.out.ev.cell 0
      have qT : ∀ (w : World) (a : Option Addr) (n c n' c' : Nat), (binOp .eql 22 (.slice a n c) (.slice none n' c')).run Tryz.prog w = .ok (.bool a.isNone) w := fun w a n c n' c' => Lib.run_eql_slice_nil w _ _ a n c n' c' Tryz.underlying22
      clear Hqw2 HA2 Hq
      by_cases h0 : kk = 0
      · subst h0
        have HQ := Lib.hid (show parseEv s = none by rw [HR.out, if_pos (.inl rfl)])
        have hres := Hb.out.res
        have r0 := hres.cell 0; have r1 := hres.cell 1; have r2 := hres.cell 2; have r3 := hres.cell 3; have r4 := hres.cell 4; have r5 := hres.cell 5; have r6 := hres.cell 6; have r7 := hres.cell 7
        have g0 := hres.frozen 0; have g1 := hres.frozen 1; have g2 := hres.frozen 2; have g3 := hres.frozen 3; have g4 := hres.frozen 4; have g5 := hres.frozen 5; have g6 := hres.frozen 6; have g7 := hres.frozen 7
        have HX := Lib.hid hres
        have HXb := Lib.hid Hb.out.bel
        clear hres
        go_wp2_with fail
        obtain ⟨p1, p2⟩ := blk_put8 HX.out (I 0) (I 0) (I 0) (I 0) (I 0) (I 0) (I 0) (I 0)
        have P1 := Lib.hid p1
        have P2 := Lib.hid (HXb.out.grown p2 HXb.out.size (by intro k e; injection e with e; omega))
        clear p1 p2
        exact evFin _ P1.out rfl P2.out rfl (by unfold EvR; rw [HQ.out]; rfl)
      · have h0' : ¬ (kk : Int) = 0 := by omega
        have hb0 : ((kk : Int) == 0) = false := beq_eq_false_iff_ne.2 h0'
        by_cases h7 : kk = 7
        · subst h7
          by_cases hl : ws.length = 2
          · obtain ⟨y, hy⟩ : ∃ y, ws[1]? = some y := ⟨ws[1], by simp [hl]⟩
            have HQ := Lib.hid (show parseEv s = match dotted? y 1 with
                | some [nd] => if 12 ≤ nd then none else some ⟨7, nd, 0, ⟨0, 0, 0, 0, 0⟩⟩
                | _ => none by
              have e1 : ws.getD 1 [] = y := by simp [List.getD, hy]
              rw [HR.out, if_neg (by simp [hl]), e1]
              rfl)
            have hyl : y.length ≤ 4000000000 := Nat.le_trans (Hle.out _ (List.mem_of_getElem? hy)) hs
            have hcy := StrRow.cell Hb.out.row hy
            clear hy HR Hle
            have HGr := Lib.hid (HG.out.below Hb.out.bel)
            unfold sv at hcy
            cases hd : dotted? y 1 with
            | none =>
              have HQ2 := Lib.hid (show parseEv s = none by rw [HQ.out, hd])
              have Hc := Lib.hid (dotNo hd wr HGr.out hyl (by omega) (by omega))
              clear hd
              unfold sv at Hc
              go_wp2_with (go_at_call 86; refine Hc.out.mono ?_; rintro e X1 ⟨rfl, D1⟩; have HA := Lib.hid (Hb.out.kept D1); have hres := HA.out.res; have r0 := hres.cell 0; have r1 := hres.cell 1; have r2 := hres.cell 2; have r3 := hres.cell 3; have r4 := hres.cell 4; have r5 := hres.cell 5; have r6 := hres.cell 6; have r7 := hres.cell 7; have g0 := hres.frozen 0; have g1 := hres.frozen 1; have g2 := hres.frozen 2; have g3 := hres.frozen 3; have g4 := hres.frozen 4; have g5 := hres.frozen 5; have g6 := hres.frozen 6; have g7 := hres.frozen 7; have HX := Lib.hid hres; have HXb := Lib.hid HA.out.bel; clear hres)
              obtain ⟨p1, p2⟩ := blk_put8 HX.out (I 0) (I 0) (I 0) (I 0) (I 0) (I 0) (I 0) (I 0)
              have P1 := Lib.hid p1
              have P2 := Lib.hid (HXb.out.grown p2 HXb.out.size (by intro k e; injection e with e; omega))
              clear p1 p2
              exact evFin _ P1.out rfl P2.out rfl (by unfold EvR; rw [HQ2.out]; rfl)
            | some l1 =>
              have hl1 := dot_length hd
              obtain ⟨nd, rfl⟩ : ∃ nd, l1 = [nd] := by
                match l1, hl1 with
                | [a], _ => exact ⟨a, rfl⟩
              have Hc := Lib.hid (dotYes hd wr HGr.out hyl (by omega) (by omega))
              unfold sv at Hc
              by_cases h12 : 12 ≤ nd
              · have h12' : (12 : Int) ≤ (nd : Int) := by omega
                have HQ2 := Lib.hid (show parseEv s = none by rw [HQ.out, hd]; simp only [if_pos h12])
                clear hd
                go_wp2_with (go_at_call 86; refine Hc.out.mono ?_; rintro e X1 ⟨⟨ga, gc, rfl, hga, hgb, hgc⟩, D1⟩; have c0 := hgc 0 nd rfl; clear hgc; have HA := Lib.hid (Hb.out.kept D1); have hres := HA.out.res; have r0 := hres.cell 0; have r1 := hres.cell 1; have r2 := hres.cell 2; have r3 := hres.cell 3; have r4 := hres.cell 4; have r5 := hres.cell 5; have r6 := hres.cell 6; have r7 := hres.cell 7; have g0 := hres.frozen 0; have g1 := hres.frozen 1; have g2 := hres.frozen 2; have g3 := hres.frozen 3; have g4 := hres.frozen 4; have g5 := hres.frozen 5; have g6 := hres.frozen 6; have g7 := hres.frozen 7; have HX := Lib.hid hres; have HXb := Lib.hid HA.out.bel; clear hres)
                obtain ⟨p1, p2⟩ := blk_put8 HX.out (I 0) (I 0) (I 0) (I 0) (I 0) (I 0) (I 0) (I 0)
                have P1 := Lib.hid p1
                have P2 := Lib.hid (HXb.out.grown p2 HXb.out.size (by intro k e; injection e with e; omega))
                clear p1 p2
                exact evFin _ P1.out rfl P2.out rfl (by unfold EvR; rw [HQ2.out]; rfl)
              · have h12' : ¬ (12 : Int) ≤ (nd : Int) := by omega
                have HQ2 := Lib.hid (show parseEv s = some ⟨7, nd, 0, ⟨0, 0, 0, 0, 0⟩⟩ by rw [HQ.out, hd]; simp only [if_neg h12])
                clear hd
                go_upto_region 18 with (go_at_call 86; refine Hc.out.mono ?_; rintro e X1 ⟨⟨ga, gc, rfl, hga, hgb, hgc⟩, D1⟩; have c0 := hgc 0 nd rfl; clear hgc; have HA := Lib.hid (Hb.out.kept D1); have d0 := HA.out.ev.cell 0; have d1 := HA.out.ev.cell 1; have t1 := HA.out.ev.frozen 1)
                have HY := Lib.hid (HA.out.set 1 (I nd))
                obtain ⟨Y, hY⟩ : ∃ Y, Y = X1.setCell ⟨w.heap.size + 1 + 1, 1, none⟩ (I nd) := ⟨_, rfl⟩
                rw [← hY] at HY
                have HY : Hid (EvAt w Y ws #[I 7, I nd, I 0, I 0, I 0, I 0, I 0, I 0]) := HY
                rw [← hY]
                clear hY d0 d1 t1
                have hres := HY.out.res
                have hev := HY.out.ev
                have r0 := hres.cell 0; have r1 := hres.cell 1; have r2 := hres.cell 2; have r3 := hres.cell 3; have r4 := hres.cell 4; have r5 := hres.cell 5; have r6 := hres.cell 6; have r7 := hres.cell 7
                have g0 := hres.frozen 0; have g1 := hres.frozen 1; have g2 := hres.frozen 2; have g3 := hres.frozen 3; have g4 := hres.frozen 4; have g5 := hres.frozen 5; have g6 := hres.frozen 6; have g7 := hres.frozen 7
                have m0 := hev.cell 0; have m1 := hev.cell 1; have m2 := hev.cell 2; have m3 := hev.cell 3; have m4 := hev.cell 4; have m5 := hev.cell 5; have m6 := hev.cell 6; have m7 := hev.cell 7
                have HX := Lib.hid hres
                have HXb := Lib.hid HY.out.bel
                clear hres hev
                go_wp2_with fail
                obtain ⟨p1, p2⟩ := blk_put8 HX.out (I 7) (I nd) (I 0) (I 0) (I 0) (I 0) (I 0) (I 0)
                have P1 := Lib.hid p1
                have P2 := Lib.hid (HXb.out.grown p2 HXb.out.size (by intro k e; injection e with e; omega))
                clear p1 p2
                exact evFin _ P1.out rfl P2.out rfl (by unfold EvR; rw [HQ2.out]; rfl)
          · have h3' : ¬ (ws.length : Int) = 2 := by omega
            have hb3 : ((ws.length : Int) == 2) = false := beq_eq_false_iff_ne.2 h3'
            have HQ := Lib.hid (show parseEv s = none by rw [HR.out, if_pos (.inr (by simpa using hl))])
            have hres := Hb.out.res
            have r0 := hres.cell 0; have r1 := hres.cell 1; have r2 := hres.cell 2; have r3 := hres.cell 3; have r4 := hres.cell 4; have r5 := hres.cell 5; have r6 := hres.cell 6; have r7 := hres.cell 7
            have g0 := hres.frozen 0; have g1 := hres.frozen 1; have g2 := hres.frozen 2; have g3 := hres.frozen 3; have g4 := hres.frozen 4; have g5 := hres.frozen 5; have g6 := hres.frozen 6; have g7 := hres.frozen 7
            have HX := Lib.hid hres
            have HXb := Lib.hid Hb.out.bel
            clear hres
            go_wp2_with fail
            obtain ⟨p1, p2⟩ := blk_put8 HX.out (I 0) (I 0) (I 0) (I 0) (I 0) (I 0) (I 0) (I 0)
            have P1 := Lib.hid p1
            have P2 := Lib.hid (HXb.out.grown p2 HXb.out.size (by intro k e; injection e with e; omega))
            clear p1 p2
            exact evFin _ P1.out rfl P2.out rfl (by unfold EvR; rw [HQ.out]; rfl)
        · have h7' : ¬ (kk : Int) = 7 := by omega
          have hb7 : ((kk : Int) == 7) = false := beq_eq_false_iff_ne.2 h7'
          by_cases hl : ws.length = 3
          · obtain ⟨y, hy⟩ : ∃ y, ws[1]? = some y := ⟨ws[1], by simp [hl]⟩
            obtain ⟨z, hz⟩ : ∃ z, ws[2]? = some z := ⟨ws[2], by simp [hl]⟩
            have HQ := Lib.hid (show parseEv s = match dotted? y 1 with
                | some [nd] =>
                  if 12 ≤ nd then none
                  else if kk = 3 ∨ kk = 5 ∨ kk = 6 then
                    match dotted? z 5 with
                    | some [a, b, c, d, e] => if a < 12 ∧ b < 40 then some ⟨kk, nd, 0, ⟨a, b, c, d, e⟩⟩ else none
                    | _ => none
                  else match dotted? z 1 with
                    | some [r] => some ⟨kk, nd, r, ⟨0, 0, 0, 0, 0⟩⟩
                    | _ => none
                | _ => none by
              have e1 : ws.getD 1 [] = y := by simp [List.getD, hy]
              have e2 : ws.getD 2 [] = z := by simp [List.getD, hz]
              rw [HR.out, if_neg (by simp [hl, h0, h7]), e1, e2]
              simp only [if_neg h7])
            have hyl : y.length ≤ 4000000000 := Nat.le_trans (Hle.out _ (List.mem_of_getElem? hy)) hs
            have hzl : z.length ≤ 4000000000 := Nat.le_trans (Hle.out _ (List.mem_of_getElem? hz)) hs
            have hcy := StrRow.cell Hb.out.row hy
            have Hz := Lib.hid hz
            clear hy hz HR Hle
            have HGr := Lib.hid (HG.out.below Hb.out.bel)
            unfold sv at hcy
            cases hd : dotted? y 1 with
            | none =>
              have HQ2 := Lib.hid (show parseEv s = none by rw [HQ.out, hd])
              have Hc := Lib.hid (dotNo hd wr HGr.out hyl (by omega) (by omega))
              clear hd
              unfold sv at Hc
              go_wp2_with (go_at_call 86; refine Hc.out.mono ?_; rintro e X1 ⟨rfl, D1⟩; have HA := Lib.hid (Hb.out.kept D1); have hres := HA.out.res; have r0 := hres.cell 0; have r1 := hres.cell 1; have r2 := hres.cell 2; have r3 := hres.cell 3; have r4 := hres.cell 4; have r5 := hres.cell 5; have r6 := hres.cell 6; have r7 := hres.cell 7; have g0 := hres.frozen 0; have g1 := hres.frozen 1; have g2 := hres.frozen 2; have g3 := hres.frozen 3; have g4 := hres.frozen 4; have g5 := hres.frozen 5; have g6 := hres.frozen 6; have g7 := hres.frozen 7; have HX := Lib.hid hres; have HXb := Lib.hid HA.out.bel; clear hres)
              obtain ⟨p1, p2⟩ := blk_put8 HX.out (I 0) (I 0) (I 0) (I 0) (I 0) (I 0) (I 0) (I 0)
              have P1 := Lib.hid p1
              have P2 := Lib.hid (HXb.out.grown p2 HXb.out.size (by intro k e; injection e with e; omega))
              clear p1 p2
              exact evFin _ P1.out rfl P2.out rfl (by unfold EvR; rw [HQ2.out]; rfl)
            | some l1 =>
              have hl1 := dot_length hd
              obtain ⟨nd, rfl⟩ : ∃ nd, l1 = [nd] := by
                match l1, hl1 with
                | [a], _ => exact ⟨a, rfl⟩
              have Hc := Lib.hid (dotYes hd wr HGr.out hyl (by omega) (by omega))
              unfold sv at Hc
              by_cases h12 : 12 ≤ nd
              · have h12' : (12 : Int) ≤ (nd : Int) := by omega
                have HQ2 := Lib.hid (show parseEv s = none by rw [HQ.out, hd]; simp only [if_pos h12])
                clear hd
                go_wp2_with (go_at_call 86; refine Hc.out.mono ?_; rintro e X1 ⟨⟨ga, gc, rfl, hga, hgb, hgc⟩, D1⟩; have c0 := hgc 0 nd rfl; clear hgc; have HA := Lib.hid (Hb.out.kept D1); have hres := HA.out.res; have r0 := hres.cell 0; have r1 := hres.cell 1; have r2 := hres.cell 2; have r3 := hres.cell 3; have r4 := hres.cell 4; have r5 := hres.cell 5; have r6 := hres.cell 6; have r7 := hres.cell 7; have g0 := hres.frozen 0; have g1 := hres.frozen 1; have g2 := hres.frozen 2; have g3 := hres.frozen 3; have g4 := hres.frozen 4; have g5 := hres.frozen 5; have g6 := hres.frozen 6; have g7 := hres.frozen 7; have HX := Lib.hid hres; have HXb := Lib.hid HA.out.bel; clear hres)
                obtain ⟨p1, p2⟩ := blk_put8 HX.out (I 0) (I 0) (I 0) (I 0) (I 0) (I 0) (I 0) (I 0)
                have P1 := Lib.hid p1
                have P2 := Lib.hid (HXb.out.grown p2 HXb.out.size (by intro k e; injection e with e; omega))
                clear p1 p2
                exact evFin _ P1.out rfl P2.out rfl (by unfold EvR; rw [HQ2.out]; rfl)
              · have h12' : ¬ (12 : Int) ≤ (nd : Int) := by omega
                have HQ2 := Lib.hid (show parseEv s = if kk = 3 ∨ kk = 5 ∨ kk = 6 then
                              match dotted? z 5 with
                              | some [a, b, c, d, e] => if a < 12 ∧ b < 40 then some ⟨kk, nd, 0, ⟨a, b, c, d, e⟩⟩ else none
                              | _ => none
                            else match dotted? z 1 with
                              | some [r] => some ⟨kk, nd, r, ⟨0, 0, 0, 0, 0⟩⟩
                              | _ => none by rw [HQ.out, hd]; simp only [if_neg h12])
                clear hd
                go_upto_region 18 with (go_at_call 86; refine Hc.out.mono ?_; rintro e X1 ⟨⟨ga, gc, rfl, hga, hgb, hgc⟩, D1⟩; have c0 := hgc 0 nd rfl; clear hgc; have HA := Lib.hid (Hb.out.kept D1); have d0 := HA.out.ev.cell 0; have d1 := HA.out.ev.cell 1; have t1 := HA.out.ev.frozen 1)
                have HY := Lib.hid (HA.out.set 1 (I nd))
                obtain ⟨Y, hY⟩ : ∃ Y, Y = X1.setCell ⟨w.heap.size + 1 + 1, 1, none⟩ (I nd) := ⟨_, rfl⟩
                rw [← hY] at HY
                have HY : Hid (EvAt w Y ws #[I kk, I nd, I 0, I 0, I 0, I 0, I 0, I 0]) := HY
                rw [← hY]
                clear hY d0 d1 t1 c0 hga hgb e0 hcy
                have HGy := Lib.hid (HG.out.below HY.out.bel)
                have y0 := HY.out.ev.cell 0
                have hcz := StrRow.cell HY.out.row Hz.out
                unfold sv at hcz
                by_cases hm : kk = 3 ∨ kk = 5 ∨ kk = 6
                · rw [if_pos hm] at HQ2
                  cases hd : dotted? z 5 with
                  | none =>
                    have HQ3 := Lib.hid (show parseEv s = none by rw [HQ2.out, hd])
                    have Hc5 := Lib.hid (dotNo hd Y HGy.out hzl (by omega) (by omega))
                    clear hd
                    unfold sv at Hc5
                    rcases hm with rfl | rfl | rfl
                    all_goals (go_wp2_with (go_at_call 86; refine Hc5.out.mono ?_; rintro e X2 ⟨rfl, D2⟩; have HA2 := Lib.hid (HY.out.kept D2); have hres := HA2.out.res; have r0 := hres.cell 0; have r1 := hres.cell 1; have r2 := hres.cell 2; have r3 := hres.cell 3; have r4 := hres.cell 4; have r5 := hres.cell 5; have r6 := hres.cell 6; have r7 := hres.cell 7; have g0 := hres.frozen 0; have g1 := hres.frozen 1; have g2 := hres.frozen 2; have g3 := hres.frozen 3; have g4 := hres.frozen 4; have g5 := hres.frozen 5; have g6 := hres.frozen 6; have g7 := hres.frozen 7; have HX := Lib.hid hres; have HXb := Lib.hid HA2.out.bel; clear hres))
                    all_goals (
                      obtain ⟨p1, p2⟩ := blk_put8 HX.out (I 0) (I 0) (I 0) (I 0) (I 0) (I 0) (I 0) (I 0)
                      have P1 := Lib.hid p1
                      have P2 := Lib.hid (HXb.out.grown p2 HXb.out.size (by intro k e; injection e with e; omega))
                      clear p1 p2
                      exact evFin _ P1.out rfl P2.out rfl (by unfold EvR; rw [HQ3.out]; rfl))
                  | some l5 =>
                    have hl5 := dot_length hd
                    obtain ⟨a, b, c, d, e5, rfl⟩ : ∃ a b c d e5, l5 = [a, b, c, d, e5] := by
                      match l5, hl5 with
                      | [a, b, c, d, e5], _ => exact ⟨a, b, c, d, e5, rfl⟩
                    have Hc5 := Lib.hid (dotYes hd Y HGy.out hzl (by omega) (by omega))
                    have HQ3 := Lib.hid (show parseEv s = if a < 12 ∧ b < 40 then some ⟨kk, nd, 0, ⟨a, b, c, d, e5⟩⟩ else none by rw [HQ2.out, hd])
                    clear hd hl5
                    unfold sv at Hc5
                    have hkk : (kk : Int) = 3 ∨ (kk : Int) = 5 ∨ (kk : Int) = 6 := by omega
                    obtain ⟨kv, hkv⟩ : ∃ kv : Int, kv = (kk : Int) := ⟨_, rfl⟩
                    rw [← hkv] at hkk HY y0 HQ3 ⊢
                    clear hm HQ2 HQ hkv h0' hb0 h7' hb7
                    rcases hkk with rfl | rfl | rfl
                    all_goals (go_upto_region 29 with (go_at_call 86; refine Hc5.out.mono ?_; rintro e X2 ⟨⟨gx, gy, rfl, hgx, hgz, hgc⟩, D2⟩; have HA2 := Lib.hid (HY.out.kept D2)))
                    all_goals (
                      have c0 := hgc 0 a rfl; have c1 := hgc 1 b rfl; have c2 := hgc 2 c rfl; have c3 := hgc 3 d rfl; have c4 := hgc 4 e5 rfl
                      clear hgc
                      have d3 := HA2.out.ev.cell 3; have d4 := HA2.out.ev.cell 4; have d5 := HA2.out.ev.cell 5; have d6 := HA2.out.ev.cell 6; have d7 := HA2.out.ev.cell 7
                      have t3 := HA2.out.ev.frozen 3; have t4 := HA2.out.ev.frozen 4; have t5 := HA2.out.ev.frozen 5; have t6 := HA2.out.ev.frozen 6; have t7 := HA2.out.ev.frozen 7
                      refine wp_region_ordN 18 [(0, true), (1, true), (2, true), (3, true), (4, true), (5, true), (6, true), (7, true), (8, true), (9, true), (10, true), (11, true), (12, true), (13, true), (14, true), (15, true), (16, true), (17, true)] (fun X => X.cell? ⟨gx, 0, none⟩ = some (I (a : Nat)) ∧ X.cell? ⟨gx, 1, none⟩ = some (I (b : Nat)) ∧ X.cell? ⟨gx, 2, none⟩ = some (I (c : Nat)) ∧ X.cell? ⟨gx, 3, none⟩ = some (I (d : Nat)) ∧ X.cell? ⟨gx, 4, none⟩ = some (I (e5 : Nat))) (by kernel_rfl) rfl rfl (by kernel_rfl) ⟨c0, c1, c2, c3, c4⟩ ?_
                      iterate 18 (refine wpOrd_take ?_ (by rfl) ?_ ?_; rotate_left; (intro w hSw; (try dsimp only at hSw); go_simp; try with_reducible rfl); (try simp only [Act.put, List.setIfInBounds_toArray, List.set_cons_zero, List.set_cons_succ]))
                      refine wpOrd_nil ?_
                      go_wp2_with fail
                      refine NoPanic.normal ?_
                      have hV0 := (((((HA2.out.set 3 (I a)).set 4 (I b)).set 5 (I c)).set 6 (I d)).set 7 (I e5)).drew
                      simp only [List.setIfInBounds_toArray, List.set_cons_zero, List.set_cons_succ] at hV0
                      have HV := Lib.hid hV0
                      clear hV0 d3 d4 d5 d6 d7 t3 t4 t5 t6 t7 c0 c1 c2 c3 c4 hgx hgz
                      obtain ⟨V, hV⟩ : ∃ V, V = (((((X2.setCell ⟨w.heap.size + 1 + 1, 3, none⟩ (I a)).setCell ⟨w.heap.size + 1 + 1, 4, none⟩ (I b)).setCell ⟨w.heap.size + 1 + 1, 5, none⟩ (I c)).setCell ⟨w.heap.size + 1 + 1, 6, none⟩ (I d)).setCell ⟨w.heap.size + 1 + 1, 7, none⟩ (I e5)).drew := ⟨_, rfl⟩
                      rw [← hV] at HV ⊢
                      clear hV
                      have v3 := HV.out.ev.cell 3; have v4 := HV.out.ev.cell 4; have v5 := HV.out.ev.cell 5
                      have HW := Lib.hid (withinC a b c 40)
                      by_cases hab : a < 12 ∧ b < 40
                      · have HQ4 := Lib.hid (HQ3.out.trans (if_pos hab))
                        have hdec : decide (a < 12 ∧ b < 40) = true := decide_eq_true hab
                        rw [hdec] at HW
                        go_wp2_with (go_at_call 87; refine (HW.out V).mono ?_; rintro e Z ⟨rfl, D3⟩; have HZ := Lib.hid (HV.out.kept D3); have hres := HZ.out.res; have r0 := hres.cell 0; have r1 := hres.cell 1; have r2 := hres.cell 2; have r3 := hres.cell 3; have r4 := hres.cell 4; have r5 := hres.cell 5; have r6 := hres.cell 6; have r7 := hres.cell 7; have g0 := hres.frozen 0; have g1 := hres.frozen 1; have g2 := hres.frozen 2; have g3 := hres.frozen 3; have g4 := hres.frozen 4; have g5 := hres.frozen 5; have g6 := hres.frozen 6; have g7 := hres.frozen 7; have hev := HZ.out.ev; have m0 := hev.cell 0; have m1 := hev.cell 1; have m2 := hev.cell 2; have m3 := hev.cell 3; have m4 := hev.cell 4; have m5 := hev.cell 5; have m6 := hev.cell 6; have m7 := hev.cell 7; have HX := Lib.hid hres; have HXb := Lib.hid HZ.out.bel; clear hres hev)
                        refine evFin _ (blk_put8 HX.out _ _ _ _ _ _ _ _).1 rfl (HXb.out.grown (blk_put8 HX.out _ _ _ _ _ _ _ _).2 HXb.out.size (by intro k e; injection e with e; omega)) rfl ?_
                        unfold EvR
                        rw [HQ4.out]
                        rfl
                      · have HQ4 := Lib.hid (HQ3.out.trans (if_neg hab))
                        have hdec : decide (a < 12 ∧ b < 40) = false := decide_eq_false hab
                        rw [hdec] at HW
                        go_wp2_with (go_at_call 87; refine (HW.out V).mono ?_; rintro e Z ⟨rfl, D3⟩; have HZ := Lib.hid (HV.out.kept D3); have hres := HZ.out.res; have r0 := hres.cell 0; have r1 := hres.cell 1; have r2 := hres.cell 2; have r3 := hres.cell 3; have r4 := hres.cell 4; have r5 := hres.cell 5; have r6 := hres.cell 6; have r7 := hres.cell 7; have g0 := hres.frozen 0; have g1 := hres.frozen 1; have g2 := hres.frozen 2; have g3 := hres.frozen 3; have g4 := hres.frozen 4; have g5 := hres.frozen 5; have g6 := hres.frozen 6; have g7 := hres.frozen 7; have HX := Lib.hid hres; have HXb := Lib.hid HZ.out.bel; clear hres)
                        refine evFin _ (blk_put8 HX.out _ _ _ _ _ _ _ _).1 rfl (HXb.out.grown (blk_put8 HX.out _ _ _ _ _ _ _ _).2 HXb.out.size (by intro k e; injection e with e; omega)) rfl ?_
                        unfold EvR
                        rw [HQ4.out]
                        rfl)
                · rw [if_neg hm] at HQ2
                  have hkA : kk = 1 ∨ kk = 2 ∨ kk = 4 := by omega
                  cases hd : dotted? z 1 with
                  | none =>
                    have HQ3 := Lib.hid (show parseEv s = none by rw [HQ2.out, hd])
                    have Hc5 := Lib.hid (dotNo hd Y HGy.out hzl (by omega) (by omega))
                    clear hd
                    unfold sv at Hc5
                    rcases hkA with rfl | rfl | rfl
                    all_goals (go_wp2_with (go_at_call 86; refine Hc5.out.mono ?_; rintro e X2 ⟨rfl, D2⟩; have HA2 := Lib.hid (HY.out.kept D2); have hres := HA2.out.res; have r0 := hres.cell 0; have r1 := hres.cell 1; have r2 := hres.cell 2; have r3 := hres.cell 3; have r4 := hres.cell 4; have r5 := hres.cell 5; have r6 := hres.cell 6; have r7 := hres.cell 7; have g0 := hres.frozen 0; have g1 := hres.frozen 1; have g2 := hres.frozen 2; have g3 := hres.frozen 3; have g4 := hres.frozen 4; have g5 := hres.frozen 5; have g6 := hres.frozen 6; have g7 := hres.frozen 7; have HX := Lib.hid hres; have HXb := Lib.hid HA2.out.bel; clear hres))
                    all_goals (
                      obtain ⟨p1, p2⟩ := blk_put8 HX.out (I 0) (I 0) (I 0) (I 0) (I 0) (I 0) (I 0) (I 0)
                      have P1 := Lib.hid p1
                      have P2 := Lib.hid (HXb.out.grown p2 HXb.out.size (by intro k e; injection e with e; omega))
                      clear p1 p2
                      exact evFin _ P1.out rfl P2.out rfl (by unfold EvR; rw [HQ3.out]; rfl))
                  | some l5 =>
                    have hl5 := dot_length hd
                    obtain ⟨a, rfl⟩ : ∃ a, l5 = [a] := by
                      match l5, hl5 with
                      | [a], _ => exact ⟨a, rfl⟩
                    have Hc5 := Lib.hid (dotYes hd Y HGy.out hzl (by omega) (by omega))
                    have HQ3 := Lib.hid (show parseEv s = some ⟨kk, nd, a, ⟨0, 0, 0, 0, 0⟩⟩ by rw [HQ2.out, hd])
                    clear hd hl5
                    unfold sv at Hc5
                    rcases hkA with rfl | rfl | rfl
                    all_goals (go_upto_region 33 with (go_at_call 86; refine Hc5.out.mono ?_; rintro e X2 ⟨⟨gx, gy, rfl, hgx, hgz, hgc⟩, D2⟩; have c0 := hgc 0 a rfl; clear hgc; have HA2 := Lib.hid (HY.out.kept D2); have d2 := HA2.out.ev.cell 2; have t2 := HA2.out.ev.frozen 2))
                    all_goals (
                      have HV := Lib.hid (HA2.out.set 2 (I a))
                      obtain ⟨V, hV⟩ : ∃ V, V = X2.setCell ⟨w.heap.size + 1 + 1, 2, none⟩ (I a) := ⟨_, rfl⟩
                      rw [← hV] at HV
                      rw [← hV]
                      clear hV d2 t2 c0
                      have hres := HV.out.res
                      have hev := HV.out.ev
                      simp only [List.setIfInBounds_toArray, List.set_cons_zero, List.set_cons_succ] at hev
                      have r0 := hres.cell 0; have r1 := hres.cell 1; have r2 := hres.cell 2; have r3 := hres.cell 3; have r4 := hres.cell 4; have r5 := hres.cell 5; have r6 := hres.cell 6; have r7 := hres.cell 7
                      have g0 := hres.frozen 0; have g1 := hres.frozen 1; have g2 := hres.frozen 2; have g3 := hres.frozen 3; have g4 := hres.frozen 4; have g5 := hres.frozen 5; have g6 := hres.frozen 6; have g7 := hres.frozen 7
                      have m0 := hev.cell 0; have m1 := hev.cell 1; have m2 := hev.cell 2; have m3 := hev.cell 3; have m4 := hev.cell 4; have m5 := hev.cell 5; have m6 := hev.cell 6; have m7 := hev.cell 7
                      have HX := Lib.hid hres
                      have HXb := Lib.hid HV.out.bel
                      clear hres hev
                      go_wp2_with fail
                      refine evFin _ (blk_put8 HX.out _ _ _ _ _ _ _ _).1 rfl (HXb.out.grown (blk_put8 HX.out _ _ _ _ _ _ _ _).2 HXb.out.size (by intro k e; injection e with e; omega)) rfl ?_
                      unfold EvR
                      rw [HQ3.out]
                      rfl)
          · have h3' : ¬ (ws.length : Int) = 3 := by omega
            have hb3 : ((ws.length : Int) == 3) = false := beq_eq_false_iff_ne.2 h3'
            have HQ := Lib.hid (show parseEv s = none by rw [HR.out, if_pos (.inr (by simp [h7, hl]))])
            have hres := Hb.out.res
            have r0 := hres.cell 0; have r1 := hres.cell 1; have r2 := hres.cell 2; have r3 := hres.cell 3; have r4 := hres.cell 4; have r5 := hres.cell 5; have r6 := hres.cell 6; have r7 := hres.cell 7
            have g0 := hres.frozen 0; have g1 := hres.frozen 1; have g2 := hres.frozen 2; have g3 := hres.frozen 3; have g4 := hres.frozen 4; have g5 := hres.frozen 5; have g6 := hres.frozen 6; have g7 := hres.frozen 7
            have HX := Lib.hid hres
            have HXb := Lib.hid Hb.out.bel
            clear hres
            go_wp2_with fail
            obtain ⟨p1, p2⟩ := blk_put8 HX.out (I 0) (I 0) (I 0) (I 0) (I 0) (I 0) (I 0) (I 0)
            have P1 := Lib.hid p1
            have P2 := Lib.hid (HXb.out.grown p2 HXb.out.size (by intro k e; injection e with e; omega))
            clear p1 p2
            exact evFin _ P1.out rfl P2.out rfl (by unfold EvR; rw [HQ.out]; rfl)

end Go.Proofs.YtljmonfobefiiaaGreatDoor

/- story.reader.ask. -/
namespace Go.Proofs.YtljmonfobefiiaaGreatDoor
open Go.RowKit

theorem RS.until_le (r : RS) (l : List Str) : (r.until l).rest.length ≤ r.rest.length := by simp [RS.until]
theorem RS.text_le (r : RS) (l : List Str) : (r.text l).length ≤ r.rest.length := by simp [RS.text]; omega
theorem RS.skip_le (r : RS) (s : Str) : (r.skip s).rest.length ≤ r.rest.length := Lib.trimPrefix_le _ _
theorem RS.ask1_le (r : RS) : r.ask1.rest.length ≤ r.rest.length := by
  have h1 := RS.until_le r [[32, 61, 32], [93]]
  have h2 := RS.skip_le (r.until [[32, 61, 32], [93]]) [32, 61, 32]
  unfold RS.ask1
  simp only []
  split
  · exact Nat.le_trans h2 h1
  · exact h1
theorem RS.ask2_le (r : RS) : r.ask2.rest.length ≤ r.rest.length := by
  have h1 := RS.until_le r [[47], [93]]
  have h2 := RS.skip_le ((r.until [[47], [93]]).number (r.text [[47], [93]])) [47]
  exact Nat.le_trans h2 h1
theorem RS.ask3_le (r : RS) (n : Nat) : (r.ask3 n).rest.length ≤ r.rest.length := by
  have h1 := RS.until_le r [[93]]
  have h2 := RS.skip_le ((r.until [[93]]).number (r.text [[93]])) [93]
  unfold RS.ask3
  simp only []
  split
  · exact Nat.le_trans h2 h1
  · exact h1
theorem RS.askR_le (r : RS) : r.askR.rest.length ≤ r.rest.length := Nat.le_trans (RS.ask3_le _ _) (Nat.le_trans (RS.ask2_le _) (RS.ask1_le _))

theorem RAt.below {X X' : World} {p : Nat} {r : RS} (h : RAt X p r) (hb : Below X.heap.size X X') : RAt X' p r := Blk.kept h hb (Blk.lt h)
def z6 : Array Value := #[I 0, I 0, I 0, I 0, I 0, I 0]
/-- What stands while ask goes on: the reader, the result's cell, the question read. -/
structure AskAt (w X : World) (p Q : Nat) (r : RS) (q : Qn) : Prop where
  rd : RAt X p r
  res : Blk X w.heap.size z6
  qb : Blk X Q (qva q)
  gr : w.grownBy X (some p)
  gl : Gl X
  hp : p < w.heap.size
  hQ : w.heap.size < Q
  h8 : 8 ≤ p
theorem AskAt.step {w X X' : World} {p Q : Nat} {r r' : RS} {q : Qn} (h : AskAt w X p Q r q) (hr : RAt X' p r') (hg : X.grownBy X' (some p)) : AskAt w X' p Q r' q :=
  ⟨hr, h.res.grown hg (fun e => by have h1 := Option.some.inj e; have := h.hp; omega), h.qb.grown hg (fun e => by have h1 := Option.some.inj e; have := h.hp; have := h.hQ; omega), h.gr.trans hg, h.gl.grown hg h.h8, h.hp, h.hQ, h.h8⟩
theorem AskAt.alloc {w X : World} {p Q : Nat} {r : RS} {q : Qn} (h : AskAt w X p Q r q) (o : Obj) : AskAt w (X.alloc o) p Q r q :=
  h.step (h.rd.below ((Below.refl _ _).alloc (Nat.le_refl _) o)) (World.grownBy_alloc X o (some p))

theorem blk_put6 {w : World} {q : Nat} {a0 a1 a2 a3 a4 a5 : Value} (h : Blk w q #[a0, a1, a2, a3, a4, a5]) (b0 b1 b2 b3 b4 b5 : Value) : Blk ((((((w.setCell ⟨q, 0, none⟩ b0).setCell ⟨q, 1, none⟩ b1).setCell ⟨q, 2, none⟩ b2).setCell ⟨q, 3, none⟩ b3).setCell ⟨q, 4, none⟩ b4).setCell ⟨q, 5, none⟩ b5) q #[b0, b1, b2, b3, b4, b5] ∧ w.grownBy ((((((w.setCell ⟨q, 0, none⟩ b0).setCell ⟨q, 1, none⟩ b1).setCell ⟨q, 2, none⟩ b2).setCell ⟨q, 3, none⟩ b3).setCell ⟨q, 4, none⟩ b4).setCell ⟨q, 5, none⟩ b5) (some q) := by
  have h2 := (((((h.set 0 b0).set 1 b1).set 2 b2).set 3 b3).set 4 b4).set 5 b5
  simp only [List.setIfInBounds_toArray, List.set_cons_zero, List.set_cons_succ] at h2
  exact ⟨h2, (((((grownSet w ⟨q, 0, none⟩ _).trans (grownSet _ ⟨q, 1, none⟩ _)).trans (grownSet _ ⟨q, 2, none⟩ _)).trans (grownSet _ ⟨q, 3, none⟩ _)).trans (grownSet _ ⟨q, 4, none⟩ _)).trans (grownSet _ ⟨q, 5, none⟩ _)⟩
/-- A row that was not there when the call began moves: what was there has not turned but at p. -/
theorem grown_new {w X X' : World} {p g : Nat} (h : w.grownBy X (some p)) (hg : X.grownBy X' (some g)) (hn : w.heap.size ≤ g) : w.grownBy X' (some p) :=
  ⟨hg.os.trans h.os, hg.tape.trans h.tape, hg.output.trans h.output, Nat.le_trans h.size hg.size, fun k hk hne => (hg.block k (Nat.lt_of_lt_of_le hk h.size) (fun e => by have := Option.some.inj e; omega)).trans (h.block k hk hne)⟩
theorem askEnd {r : RS} {p Q : Nat} {w W : World} {q : Qn} {tmps : Array Value} (HA : AskAt w W p Q r.askR q) (hq : r.askA.q = q) (n : Int) (hn : r.askA.n = n)
    (h2 : tmps.getD 2 undef = .pointer (some ⟨w.heap.size, 0, none⟩)) :
    bodyPost Tryz.prog Tryz.f49 (fun e w' => e = .returned (.agg #[I r.askA.q.node, I r.askA.q.handler, I r.askA.q.count, I r.askA.q.kind, I r.askA.q.index, I r.askA.n]) ∧ RAt w' p r.askR ∧ w.grownBy w' (some p)) .ret { tmps := tmps, defers := [] }
      ((((((W.setCell ⟨w.heap.size, 0, none⟩ (I q.node)).setCell ⟨w.heap.size, 1, none⟩ (I q.handler)).setCell ⟨w.heap.size, 2, none⟩ (I q.count)).setCell ⟨w.heap.size, 3, none⟩ (I q.kind)).setCell ⟨w.heap.size, 4, none⟩ (I q.index)).setCell ⟨w.heap.size, 5, none⟩ (I n)) := by
  obtain ⟨h1, hg⟩ := blk_put6 HA.res (I q.node) (I q.handler) (I q.count) (I q.kind) (I q.index) (I n)
  obtain ⟨t, ht⟩ := h1
  have hr := results_cell_row (P := Tryz.prog) Tryz.results49 tmps _ w.heap.size t _ (0, 0) _ h2 ht Tryz.underlying78 rfl (by kernel_rfl)
  refine bodyPost_ret hr rfl ⟨by rw [hq, hn], ?_, grown_new HA.gr hg (Nat.le_refl _)⟩
  exact HA.rd.grown hg (fun e => by have h1 := Option.some.inj e; have := HA.hp; omega)

set_option maxHeartbeats 8000000 in
set_option maxRecDepth 100000 in
theorem askC (r : RS) (p : Nat) (w : World) (h : RAt w p r) (hg : Gl w) (hp : 8 ≤ p) (hl : r.rest.length ≤ 4000000000) :
    Calls Tryz.prog 49 #[.pointer (some ⟨p, 0, none⟩)] w fun e w' => e = .returned (.agg #[I r.askA.q.node, I r.askA.q.handler, I r.askA.q.count, I r.askA.q.kind, I r.askA.q.index, I r.askA.n]) ∧ RAt w' p r.askR ∧ w.grownBy w' (some p) := by
  have hpw : p < w.heap.size := Blk.lt h
  have HT := Lib.hid (show (r.text [[32, 61, 32], [93]]).length ≤ 4000000000 from Nat.le_trans (RS.text_le _ _) hl)
  have H0 := Lib.hid h
  have HG := Lib.hid hg
  have Hw1 := Lib.hid (show w.grownBy ((w.alloc (.cells #[.int .i64 0, .int .i64 0, .int .i64 0, .int .i64 0, .int .i64 0, .int .i64 0] 78)).alloc (.cells #[.string ⟨#[32, 61, 32]⟩, .string ⟨#[93]⟩] 9)) (some p) from (World.grownBy_alloc w _ (some p)).trans (World.grownBy_alloc _ _ (some p)))
  have Hrd1 := Lib.hid (show RAt ((w.alloc (.cells #[.int .i64 0, .int .i64 0, .int .i64 0, .int .i64 0, .int .i64 0, .int .i64 0] 78)).alloc (.cells #[.string ⟨#[32, 61, 32]⟩, .string ⟨#[93]⟩] 9)) p r from (RAt.below h ((Below.refl _ _).alloc (Nat.le_refl _) _)).below ((Below.refl _ _).alloc (Nat.le_refl _) _))
  have HR1 := Lib.hid (show Blk ((w.alloc (.cells #[.int .i64 0, .int .i64 0, .int .i64 0, .int .i64 0, .int .i64 0, .int .i64 0] 78)).alloc (.cells #[.string ⟨#[32, 61, 32]⟩, .string ⟨#[93]⟩] 9)) w.heap.size z6 from (Blk.new w _ _).alloc _)
  have HG1 := Lib.hid ((hg.alloc (.cells #[.int .i64 0, .int .i64 0, .int .i64 0, .int .i64 0, .int .i64 0, .int .i64 0] 78)).alloc (.cells #[.string ⟨#[32, 61, 32]⟩, .string ⟨#[93]⟩] 9))
  have Hs1 := Lib.hid (show StrRow ((w.alloc (.cells #[.int .i64 0, .int .i64 0, .int .i64 0, .int .i64 0, .int .i64 0, .int .i64 0] 78)).alloc (.cells #[.string ⟨#[32, 61, 32]⟩, .string ⟨#[93]⟩] 9)) (w.heap.size + 1) [[32, 61, 32], [93]] by
    rw [← World.size_alloc w (.cells #[.int .i64 0, .int .i64 0, .int .i64 0, .int .i64 0, .int .i64 0, .int .i64 0] 78)]
    exact heap_alloc_new _ _)
  have HA1 := Lib.hid (r.ask1_le)
  have HA2 := Lib.hid (r.ask1.ask2_le)
  clear h hg
  cases hq : parseQn (r.text [[32, 61, 32], [93]]) with
  | some q =>
    have Hq := Lib.hid hq
    go_enter Tryz.func49, Tryz.ntmps49
    go_upto_region 2 with (first
      | (go_at_call 48; refine (untilC r [[32, 61, 32], [93]] p _ _ Hrd1.out HG1.out hl Hs1.out (by decide) hp).mono ?_; rintro e X1 ⟨rfl, k1, g1⟩)
      | (go_at_call 88; refine (parseQnC _ X1 (HG1.out.grown g1 hp) HT.out).mono ?_; rintro e X2 ⟨rfl, D2⟩; unfold QuR qva; rw [Hq.out]; simp only [Option.getD_some, qcode, Option.isSome_some]))
    have hX1s := g1.size
    simp only [World.size_alloc] at hX1s
    have hX2s := D2.size
    have HX2 := Lib.hid (show AskAt w (X2.alloc (.cells (qva q) 58)) p X2.heap.size (r.until [[32, 61, 32], [93]]) q from
      ⟨(k1.below D2).below ((Below.refl _ _).alloc (Nat.le_refl _) _),
       ((HR1.out.grown g1 (fun e => by have h1 := Option.some.inj e; omega)).kept D2 (by omega)).alloc _,
       Blk.new X2 _ _, (Hw1.out.trans g1).trans ((grownBelow D2 _).trans (World.grownBy_alloc X2 _ _)), (((HG1.out.grown g1 hp).below D2).alloc _), hpw, by omega, hp⟩)
    clear k1 g1 D2
    unfold qva at HX2
    obtain ⟨Y0, hY0⟩ : ∃ Y, Y = X2.alloc (.cells #[I q.node, I q.handler, I q.count, I q.kind, I q.index] 58) := ⟨_, rfl⟩
    rw [← hY0] at HX2
    rw [← hY0]
    clear hY0 Hw1 Hrd1 HR1 HG1 Hs1
    generalize X2.heap.size = Q at HX2 ⊢
    clear hX1s hX2s
    go_upto_region 3 with (first
      | (go_at_call 45; refine (skipC _ [32, 61, 32] p Y0 HX2.out.rd).mono ?_; rintro e Y1 ⟨rfl, k1, g1⟩; have HY1 := Lib.hid (HX2.out.step k1 g1); clear k1 g1)
      | (go_at_call 44; refine (mustC _ _ p Y1 HY1.out.rd).mono ?_; rintro e Y2 ⟨rfl, k2, g2⟩; have HY2 := Lib.hid (HY1.out.step k2 g2); clear k2 g2))
    have HY := Lib.hid (show AskAt w Y2 p Q r.ask1 q from by
      have := HY2.out
      unfold RS.ask1
      rw [Hq.out]
      exact this)
    have Hn := Lib.hid (show r.askN = numberV (r.ask1.text [[47], [93]]) from rfl)
    have hT4 : (r.ask1.text [[47], [93]]).length ≤ 4000000000 := Nat.le_trans (RS.text_le _ _) (Nat.le_trans HA1.out hl)
    have Hs3 := Lib.hid (show StrRow (Y2.alloc (.cells #[.string ⟨#[47]⟩, .string ⟨#[93]⟩] 9)) Y2.heap.size [[47], [93]] from heap_alloc_new _ _)
    have HY3 := Lib.hid (HY.out.alloc (.cells #[.string ⟨#[47]⟩, .string ⟨#[93]⟩] 9))
    go_upto_region 4 with (first
      | (go_at_call 48; refine (untilC r.ask1 [[47], [93]] p _ _ HY3.out.rd HY3.out.gl (Nat.le_trans HA1.out hl) Hs3.out (by decide) hp).mono ?_; rintro e Y4 ⟨rfl, k4, g4⟩; have HY4 := Lib.hid (HY3.out.step k4 g4); clear k4 g4)
      | (go_at_call 50; refine (numberC _ (r.ask1.text [[47], [93]]) p Y4 HY4.out.rd HY4.out.gl hp hT4).mono ?_; rintro e Y5 ⟨rfl, k5, g5⟩; have HY5 := Lib.hid (HY4.out.step k5 g5); clear k5 g5))
    go_upto_region 5 with (first
      | (go_at_call 45; refine (skipC _ [47] p Y5 HY5.out.rd).mono ?_; rintro e Y6 ⟨rfl, k6, g6⟩; have HY6 := Lib.hid (HY5.out.step k6 g6); clear k6 g6)
      | (go_at_call 44; refine (mustC _ _ p Y6 HY6.out.rd).mono ?_; rintro e Y7 ⟨rfl, k7, g7⟩; have HY7 := Lib.hid (HY6.out.step k7 g7); clear k7 g7))
    have HZ := Lib.hid (show AskAt w Y7 p Q r.ask1.ask2 q from HY7.out)
    rw [← Hn.out]
    have hT9 : (r.ask1.ask2.text [[93]]).length ≤ 4000000000 := Nat.le_trans (RS.text_le _ _) (Nat.le_trans HA2.out (Nat.le_trans HA1.out hl))
    have Hs8 := Lib.hid (show StrRow (Y7.alloc (.cells #[.string ⟨#[93]⟩] 9)) Y7.heap.size [[93]] from heap_alloc_new _ _)
    have HY8 := Lib.hid (HZ.out.alloc (.cells #[.string ⟨#[93]⟩] 9))
    have HqA := Lib.hid (show r.askA.q = q by unfold RS.askA; rw [Hq.out]; rfl)
    have HnA := Lib.hid (show r.askA.n = r.askN from rfl)
    have H3 := Lib.hid (show r.askR = r.ask1.ask2.ask3 r.askN from rfl)
    clear HY7 HY6 HY5 HY4 HY3
    generalize hnn : r.askN = n at H3 HnA
    clear hnn Hn
    obtain ⟨m, hm⟩ : ∃ m, m = numberV (r.ask1.ask2.text [[93]]) := ⟨_, rfl⟩
    have Hm := Lib.hid hm
    clear hm
    by_cases hlt : n < m
    · have hlt' : (n : Int) < (m : Int) := by omega
      have Hask3 := Lib.hid (show r.ask1.ask2.ask3 n = (((r.ask1.ask2.until [[93]]).number (r.ask1.ask2.text [[93]])).skip [93]).must (((r.ask1.ask2.until [[93]]).number (r.ask1.ask2.text [[93]])).has [93]) by unfold RS.ask3; rw [← Hm.out]; simp only [if_pos hlt])
      go_upto_region 6 with (first
        | (go_at_call 48; refine (untilC r.ask1.ask2 [[93]] p _ _ HY8.out.rd HY8.out.gl (Nat.le_trans HA2.out (Nat.le_trans HA1.out hl)) Hs8.out (by decide) hp).mono ?_; rintro e Y9 ⟨rfl, k9, g9⟩; have HY9 := Lib.hid (HY8.out.step k9 g9); clear k9 g9)
        | (go_at_call 50; refine (numberC _ (r.ask1.ask2.text [[93]]) p Y9 HY9.out.rd HY9.out.gl hp hT9).mono ?_; rintro e Y10 ⟨rfl, k10, g10⟩; rw [← Hm.out]; have HY10 := Lib.hid (HY9.out.step k10 g10); clear k10 g10)
        | (go_at_call 45; refine (skipC _ [93] p Y10 HY10.out.rd).mono ?_; rintro e Y11 ⟨rfl, k11, g11⟩; have HY11 := Lib.hid (HY10.out.step k11 g11); clear k11 g11)
        | (go_at_call 44; refine (mustC _ _ p Y11 HY11.out.rd).mono ?_; rintro e Y12 ⟨rfl, k12, g12⟩; have HY12 := Lib.hid (HY11.out.step k12 g12); clear k12 g12))
      have HF := Lib.hid (show AskAt w Y12 p Q r.askR q by rw [H3.out, Hask3.out]; exact HY12.out)
      have hqb := HF.out.qb
      have hres := HF.out.res
      unfold qva at hqb
      unfold z6 at hres
      have q0 := hqb.cell 0; have q1 := hqb.cell 1; have q2 := hqb.cell 2; have q3 := hqb.cell 3; have q4 := hqb.cell 4
      have r0 := hres.cell 0; have r1 := hres.cell 1; have r2 := hres.cell 2; have r3 := hres.cell 3; have r4 := hres.cell 4; have r5 := hres.cell 5
      have g0 := hres.frozen 0; have g1 := hres.frozen 1; have g2 := hres.frozen 2; have g3 := hres.frozen 3; have g4 := hres.frozen 4; have g5 := hres.frozen 5
      clear hqb hres HY12 HY11 HY10 HY9 HY8
      go_wp2_with fail
      exact askEnd HF.out HqA.out _ HnA.out rfl
    · have hlt' : ¬ (n : Int) < (m : Int) := by omega
      have Hask3 := Lib.hid (show r.ask1.ask2.ask3 n = ((r.ask1.ask2.until [[93]]).number (r.ask1.ask2.text [[93]])).must false by unfold RS.ask3; rw [← Hm.out]; simp only [if_neg hlt])
      go_upto_region 6 with (first
        | (go_at_call 48; refine (untilC r.ask1.ask2 [[93]] p _ _ HY8.out.rd HY8.out.gl (Nat.le_trans HA2.out (Nat.le_trans HA1.out hl)) Hs8.out (by decide) hp).mono ?_; rintro e Y9 ⟨rfl, k9, g9⟩; have HY9 := Lib.hid (HY8.out.step k9 g9); clear k9 g9)
        | (go_at_call 50; refine (numberC _ (r.ask1.ask2.text [[93]]) p Y9 HY9.out.rd HY9.out.gl hp hT9).mono ?_; rintro e Y10 ⟨rfl, k10, g10⟩; rw [← Hm.out]; have HY10 := Lib.hid (HY9.out.step k10 g10); clear k10 g10)
        | (go_at_call 44; refine (mustC _ _ p Y10 HY10.out.rd).mono ?_; rintro e Y12 ⟨rfl, k12, g12⟩; have HY12 := Lib.hid (HY10.out.step k12 g12); clear k12 g12))
      have HF := Lib.hid (show AskAt w Y12 p Q r.askR q by rw [H3.out, Hask3.out]; exact HY12.out)
      have hqb := HF.out.qb
      have hres := HF.out.res
      unfold qva at hqb
      unfold z6 at hres
      have q0 := hqb.cell 0; have q1 := hqb.cell 1; have q2 := hqb.cell 2; have q3 := hqb.cell 3; have q4 := hqb.cell 4
      have r0 := hres.cell 0; have r1 := hres.cell 1; have r2 := hres.cell 2; have r3 := hres.cell 3; have r4 := hres.cell 4; have r5 := hres.cell 5
      have g0 := hres.frozen 0; have g1 := hres.frozen 1; have g2 := hres.frozen 2; have g3 := hres.frozen 3; have g4 := hres.frozen 4; have g5 := hres.frozen 5
      clear hqb hres HY12 HY10 HY9 HY8
      go_wp2_with fail
      exact askEnd HF.out HqA.out _ HnA.out rfl
  | none =>
    have Hq := Lib.hid hq
    go_enter Tryz.func49, Tryz.ntmps49
    go_upto_region 2 with (first
      | (go_at_call 48; refine (untilC r [[32, 61, 32], [93]] p _ _ Hrd1.out HG1.out hl Hs1.out (by decide) hp).mono ?_; rintro e X1 ⟨rfl, k1, g1⟩)
      | (go_at_call 88; refine (parseQnC _ X1 (HG1.out.grown g1 hp) HT.out).mono ?_; rintro e X2 ⟨rfl, D2⟩; unfold QuR qva; rw [Hq.out]; simp only [Option.getD_none, qcode, Option.isSome_none]))
    have hX1s := g1.size
    simp only [World.size_alloc] at hX1s
    have hX2s := D2.size
    have HX2 := Lib.hid (show AskAt w (X2.alloc (.cells (qva qnNil) 58)) p X2.heap.size (r.until [[32, 61, 32], [93]]) qnNil from
      ⟨(k1.below D2).below ((Below.refl _ _).alloc (Nat.le_refl _) _),
       ((HR1.out.grown g1 (fun e => by have h1 := Option.some.inj e; omega)).kept D2 (by omega)).alloc _,
       Blk.new X2 _ _, (Hw1.out.trans g1).trans ((grownBelow D2 _).trans (World.grownBy_alloc X2 _ _)), (((HG1.out.grown g1 hp).below D2).alloc _), hpw, by omega, hp⟩)
    clear k1 g1 D2
    unfold qva at HX2
    obtain ⟨Y0, hY0⟩ : ∃ Y, Y = X2.alloc (.cells #[I qnNil.node, I qnNil.handler, I qnNil.count, I qnNil.kind, I qnNil.index] 58) := ⟨_, rfl⟩
    rw [← hY0] at HX2
    rw [← hY0]
    clear hY0 Hw1 Hrd1 HR1 HG1 Hs1
    generalize X2.heap.size = Q at HX2 ⊢
    clear hX1s hX2s
    go_upto_region 3 with (go_at_call 44; refine (mustC _ _ p Y0 HX2.out.rd).mono ?_; rintro e Y2 ⟨rfl, k2, g2⟩; have HY2 := Lib.hid (HX2.out.step k2 g2); clear k2 g2)
    have HY := Lib.hid (show AskAt w Y2 p Q r.ask1 qnNil from by
      have := HY2.out
      unfold RS.ask1
      rw [Hq.out]
      exact this)
    have Hn := Lib.hid (show r.askN = numberV (r.ask1.text [[47], [93]]) from rfl)
    have hT4 : (r.ask1.text [[47], [93]]).length ≤ 4000000000 := Nat.le_trans (RS.text_le _ _) (Nat.le_trans HA1.out hl)
    have Hs3 := Lib.hid (show StrRow (Y2.alloc (.cells #[.string ⟨#[47]⟩, .string ⟨#[93]⟩] 9)) Y2.heap.size [[47], [93]] from heap_alloc_new _ _)
    have HY3 := Lib.hid (HY.out.alloc (.cells #[.string ⟨#[47]⟩, .string ⟨#[93]⟩] 9))
    go_upto_region 4 with (first
      | (go_at_call 48; refine (untilC r.ask1 [[47], [93]] p _ _ HY3.out.rd HY3.out.gl (Nat.le_trans HA1.out hl) Hs3.out (by decide) hp).mono ?_; rintro e Y4 ⟨rfl, k4, g4⟩; have HY4 := Lib.hid (HY3.out.step k4 g4); clear k4 g4)
      | (go_at_call 50; refine (numberC _ (r.ask1.text [[47], [93]]) p Y4 HY4.out.rd HY4.out.gl hp hT4).mono ?_; rintro e Y5 ⟨rfl, k5, g5⟩; have HY5 := Lib.hid (HY4.out.step k5 g5); clear k5 g5))
    go_upto_region 5 with (first
      | (go_at_call 45; refine (skipC _ [47] p Y5 HY5.out.rd).mono ?_; rintro e Y6 ⟨rfl, k6, g6⟩; have HY6 := Lib.hid (HY5.out.step k6 g6); clear k6 g6)
      | (go_at_call 44; refine (mustC _ _ p Y6 HY6.out.rd).mono ?_; rintro e Y7 ⟨rfl, k7, g7⟩; have HY7 := Lib.hid (HY6.out.step k7 g7); clear k7 g7))
    have HZ := Lib.hid (show AskAt w Y7 p Q r.ask1.ask2 qnNil from HY7.out)
    rw [← Hn.out]
    have hT9 : (r.ask1.ask2.text [[93]]).length ≤ 4000000000 := Nat.le_trans (RS.text_le _ _) (Nat.le_trans HA2.out (Nat.le_trans HA1.out hl))
    have Hs8 := Lib.hid (show StrRow (Y7.alloc (.cells #[.string ⟨#[93]⟩] 9)) Y7.heap.size [[93]] from heap_alloc_new _ _)
    have HY8 := Lib.hid (HZ.out.alloc (.cells #[.string ⟨#[93]⟩] 9))
    have HqA := Lib.hid (show r.askA.q = qnNil by unfold RS.askA; rw [Hq.out]; rfl)
    have HnA := Lib.hid (show r.askA.n = r.askN from rfl)
    have H3 := Lib.hid (show r.askR = r.ask1.ask2.ask3 r.askN from rfl)
    clear HY7 HY6 HY5 HY4 HY3
    generalize hnn : r.askN = n at H3 HnA
    clear hnn Hn
    obtain ⟨m, hm⟩ : ∃ m, m = numberV (r.ask1.ask2.text [[93]]) := ⟨_, rfl⟩
    have Hm := Lib.hid hm
    clear hm
    by_cases hlt : n < m
    · have hlt' : (n : Int) < (m : Int) := by omega
      have Hask3 := Lib.hid (show r.ask1.ask2.ask3 n = (((r.ask1.ask2.until [[93]]).number (r.ask1.ask2.text [[93]])).skip [93]).must (((r.ask1.ask2.until [[93]]).number (r.ask1.ask2.text [[93]])).has [93]) by unfold RS.ask3; rw [← Hm.out]; simp only [if_pos hlt])
      go_upto_region 6 with (first
        | (go_at_call 48; refine (untilC r.ask1.ask2 [[93]] p _ _ HY8.out.rd HY8.out.gl (Nat.le_trans HA2.out (Nat.le_trans HA1.out hl)) Hs8.out (by decide) hp).mono ?_; rintro e Y9 ⟨rfl, k9, g9⟩; have HY9 := Lib.hid (HY8.out.step k9 g9); clear k9 g9)
        | (go_at_call 50; refine (numberC _ (r.ask1.ask2.text [[93]]) p Y9 HY9.out.rd HY9.out.gl hp hT9).mono ?_; rintro e Y10 ⟨rfl, k10, g10⟩; rw [← Hm.out]; have HY10 := Lib.hid (HY9.out.step k10 g10); clear k10 g10)
        | (go_at_call 45; refine (skipC _ [93] p Y10 HY10.out.rd).mono ?_; rintro e Y11 ⟨rfl, k11, g11⟩; have HY11 := Lib.hid (HY10.out.step k11 g11); clear k11 g11)
        | (go_at_call 44; refine (mustC _ _ p Y11 HY11.out.rd).mono ?_; rintro e Y12 ⟨rfl, k12, g12⟩; have HY12 := Lib.hid (HY11.out.step k12 g12); clear k12 g12))
      have HF := Lib.hid (show AskAt w Y12 p Q r.askR qnNil by rw [H3.out, Hask3.out]; exact HY12.out)
      have hqb := HF.out.qb
      have hres := HF.out.res
      unfold qva at hqb
      unfold z6 at hres
      have q0 := hqb.cell 0; have q1 := hqb.cell 1; have q2 := hqb.cell 2; have q3 := hqb.cell 3; have q4 := hqb.cell 4
      have r0 := hres.cell 0; have r1 := hres.cell 1; have r2 := hres.cell 2; have r3 := hres.cell 3; have r4 := hres.cell 4; have r5 := hres.cell 5
      have g0 := hres.frozen 0; have g1 := hres.frozen 1; have g2 := hres.frozen 2; have g3 := hres.frozen 3; have g4 := hres.frozen 4; have g5 := hres.frozen 5
      clear hqb hres HY12 HY11 HY10 HY9 HY8
      go_wp2_with fail
      exact askEnd HF.out HqA.out _ HnA.out rfl
    · have hlt' : ¬ (n : Int) < (m : Int) := by omega
      have Hask3 := Lib.hid (show r.ask1.ask2.ask3 n = ((r.ask1.ask2.until [[93]]).number (r.ask1.ask2.text [[93]])).must false by unfold RS.ask3; rw [← Hm.out]; simp only [if_neg hlt])
      go_upto_region 6 with (first
        | (go_at_call 48; refine (untilC r.ask1.ask2 [[93]] p _ _ HY8.out.rd HY8.out.gl (Nat.le_trans HA2.out (Nat.le_trans HA1.out hl)) Hs8.out (by decide) hp).mono ?_; rintro e Y9 ⟨rfl, k9, g9⟩; have HY9 := Lib.hid (HY8.out.step k9 g9); clear k9 g9)
        | (go_at_call 50; refine (numberC _ (r.ask1.ask2.text [[93]]) p Y9 HY9.out.rd HY9.out.gl hp hT9).mono ?_; rintro e Y10 ⟨rfl, k10, g10⟩; rw [← Hm.out]; have HY10 := Lib.hid (HY9.out.step k10 g10); clear k10 g10)
        | (go_at_call 44; refine (mustC _ _ p Y10 HY10.out.rd).mono ?_; rintro e Y12 ⟨rfl, k12, g12⟩; have HY12 := Lib.hid (HY10.out.step k12 g12); clear k12 g12))
      have HF := Lib.hid (show AskAt w Y12 p Q r.askR qnNil by rw [H3.out, Hask3.out]; exact HY12.out)
      have hqb := HF.out.qb
      have hres := HF.out.res
      unfold qva at hqb
      unfold z6 at hres
      have q0 := hqb.cell 0; have q1 := hqb.cell 1; have q2 := hqb.cell 2; have q3 := hqb.cell 3; have q4 := hqb.cell 4
      have r0 := hres.cell 0; have r1 := hres.cell 1; have r2 := hres.cell 2; have r3 := hres.cell 3; have r4 := hres.cell 4; have r5 := hres.cell 5
      have g0 := hres.frozen 0; have g1 := hres.frozen 1; have g2 := hres.frozen 2; have g3 := hres.frozen 3; have g4 := hres.frozen 4; have g5 := hres.frozen 5
      clear hqb hres HY12 HY10 HY9 HY8
      go_wp2_with fail
      exact askEnd HF.out HqA.out _ HnA.out rfl
end Go.Proofs.YtljmonfobefiiaaGreatDoor

/- story.reader.line. -/
namespace Go.Proofs.YtljmonfobefiiaaGreatDoor
open Go.RowKit

def z8 : Array Value := #[I 0, I 0, I 0, I 0, I 0, I 0, I 0, I 0]
/-- What stands while line goes on: the reader, the result's cell, the event read. -/
structure LineAt (w X : World) (p E : Nat) (r : RS) (ev : Ev) : Prop where
  rd : RAt X p r
  res : Blk X w.heap.size z8
  evb : Blk X E (eva ev)
  gr : w.grownBy X (some p)
  gl : Gl X
  hp : p < w.heap.size
  hE : w.heap.size < E
  h8 : 8 ≤ p
theorem LineAt.step {w X X' : World} {p E : Nat} {r r' : RS} {ev : Ev} (h : LineAt w X p E r ev) (hr : RAt X' p r') (hg : X.grownBy X' (some p)) : LineAt w X' p E r' ev :=
  ⟨hr, h.res.grown hg (fun e => by have h1 := Option.some.inj e; have := h.hp; omega), h.evb.grown hg (fun e => by have h1 := Option.some.inj e; have := h.hp; have := h.hE; omega), h.gr.trans hg, h.gl.grown hg h.h8, h.hp, h.hE, h.h8⟩
theorem LineAt.below {w X X' : World} {p E : Nat} {r : RS} {ev : Ev} (h : LineAt w X p E r ev) (hb : Below X.heap.size X X') : LineAt w X' p E r ev :=
  h.step (h.rd.below hb) (grownBelow hb _)
theorem LineAt.alloc {w X : World} {p E : Nat} {r : RS} {ev : Ev} (h : LineAt w X p E r ev) (o : Obj) : LineAt w (X.alloc o) p E r ev := h.below ((Below.refl _ _).alloc (Nat.le_refl _) o)
theorem LineAt.row {w X X' : World} {p E g : Nat} {r : RS} {ev : Ev} (h : LineAt w X p E r ev) (hg : X.grownBy X' (some g)) (hE : E < g) : LineAt w X' p E r ev := by
  have h1 := h.hp
  have h2 := h.hE
  exact ⟨Blk.grown h.rd hg (fun e => by have := Option.some.inj e; omega), h.res.grown hg (fun e => by have := Option.some.inj e; omega), h.evb.grown hg (fun e => by have := Option.some.inj e; omega), grown_new h.gr hg (by omega), h.gl.grown hg (by have := h.h8; omega), h1, h2, h.h8⟩
theorem LineAt.rowN {w X X' : World} {p E : Nat} {r : RS} {ev : Ev} {row : Option Nat} (h : LineAt w X p E r ev) (hg : X.grownBy X' row) (hE : ∀ g, row = some g → E < g) : LineAt w X' p E r ev := by
  cases row with
  | some g => exact h.row hg (hE g rfl)
  | none => exact h.below ⟨hg.os, hg.tape, hg.output, hg.size, fun k hk => hg.block k hk (by simp)⟩

theorem RS.skip_no (r : RS) (p : Str) (h : r.has p = false) : r.skip p = r := by
  obtain ⟨rest, bad⟩ := r
  unfold RS.skip RS.has at *
  simp only [] at h
  simp [Lib.trimPrefix, h]
def sliceLen : Value → Nat
  | .slice _ n _ => n
  | _ => 0

theorem RS.asks_bad (f : Nat) (r : RS) (h : r.bad = true) : r.asks f = ([], r) := by
  cases f with
  | zero => rfl
  | succ f => unfold RS.asks; rw [if_pos h]
theorem RS.asks_no (f : Nat) (r : RS) (h : r.has [32, 91] = false) : r.asks f = ([], r) := by
  cases f with
  | zero => rfl
  | succ f =>
    unfold RS.asks
    rw [if_neg (show ¬ r.has [32, 91] = true by rw [h]; simp)]
    split <;> rfl
theorem RS.asks_yes (f : Nat) (r : RS) (hb : r.bad = false) (h : r.has [32, 91] = true) : r.asks (f + 1) = ((r.skip [32, 91]).askA :: ((r.skip [32, 91]).askR.asks f).1, ((r.skip [32, 91]).askR.asks f).2) := by
  conv => lhs; unfold RS.asks
  rw [if_neg (show ¬ r.bad = true by rw [hb]; simp), if_pos h]
theorem RS.skip_less (r : RS) (p : Str) (h : r.has p = true) : (r.skip p).rest.length = r.rest.length - p.length ∧ p.length ≤ r.rest.length := by
  unfold RS.has at h
  have hp : p <+: r.rest := List.isPrefixOf_iff_prefix.1 h
  refine ⟨?_, hp.length_le⟩
  unfold RS.skip
  simp only [Lib.trimPrefix, h, if_true, List.length_drop]
theorem owns_step {X X' : World} {B e k n p : Nat} {v : Value} {xs : List Value} (h : X.ownsRow B e k v n xs) (hg : X.grownBy X' (some p)) (hp : p < B) : X'.ownsRow B e k v n xs :=
  h.kept hg (by
    cases hv : v.ownBlock with
    | none => exact .inl rfl
    | some g => exact .inr (fun e => by have := (h.lt g hv).1; have := Option.some.inj e; omega))
theorem digits_len (n : Nat) : (Lib.decDigits n).length ≤ n + 1 := by
  induction n using Nat.strongRecOn with
  | _ n ih =>
    by_cases h : n < 10
    · rw [Lib.decDigits_one h]; simp
    · rw [decDigits_unfold n h, List.length_append]
      have := ih (n / 10) (by omega)
      simp
      omega
theorem ba_app (a b : Str) : (⟨a.toArray⟩ : ByteArray) ++ (⟨b.toArray⟩ : ByteArray) = ⟨(a ++ b).toArray⟩ := ba_ext (by simp)
theorem evR_eq (t : Str) : EvR t = .tuple #[.agg #[I ((parseEv t).getD evNil).kind, I ((parseEv t).getD evNil).node, I ((parseEv t).getD evNil).arg, I ((parseEv t).getD evNil).msg.node, I ((parseEv t).getD evNil).msg.handler, I ((parseEv t).getD evNil).msg.count, I ((parseEv t).getD evNil).msg.index, I ((parseEv t).getD evNil).msg.copy], I (ecode (parseEv t))] := rfl
theorem ecode_eq (o : Option Ev) : (ecode o == 0) = o.isSome := by cases o <;> rfl

theorem lineFin {p E B am : Nat} {w W : World} {ev : Ev} {le : RS} {la : List Ans × RS} {av : Option Addr} {acp : Nat} {tmps : Array Value} {L : List Ans × RS} {M : RS} (hL0 : la = L) (hM0 : le = M) (HL : LineAt w W p E le ev) (hrow : W.ownsRow B 78 6 (.slice av am acp) am (la.1.flatMap ac)) (ham : am = la.1.length) (hB : w.heap.size < B) (h4 : tmps.getD 4 undef = .pointer (some ⟨w.heap.size, 0, none⟩)) (h5 : tmps.getD 5 undef = .slice av am acp) :
    bodyPost Tryz.prog Tryz.f23 (fun e w' => ∃ va, e = .returned (.tuple #[.agg (eva ev), va]) ∧ AnsSl w' va L.1 ∧ (∀ g, va.ownBlock = some g → w.heap.size ≤ g) ∧ RAt w' p M ∧ w.grownBy w' (some p)) .ret { tmps := tmps, defers := [] }
      ((((((((W.setCell ⟨w.heap.size, 0, none⟩ (I ev.kind)).setCell ⟨w.heap.size, 1, none⟩ (I ev.node)).setCell ⟨w.heap.size, 2, none⟩ (I ev.arg)).setCell ⟨w.heap.size, 3, none⟩ (I ev.msg.node)).setCell ⟨w.heap.size, 4, none⟩ (I ev.msg.handler)).setCell ⟨w.heap.size, 5, none⟩ (I ev.msg.count)).setCell ⟨w.heap.size, 6, none⟩ (I ev.msg.index)).setCell ⟨w.heap.size, 7, none⟩ (I ev.msg.copy)) := by
  subst hL0 hM0
  have key : ∀ V, Blk V w.heap.size (eva ev) → W.grownBy V (some w.heap.size) → bodyPost Tryz.prog Tryz.f23 (fun e w' => ∃ va, e = .returned (.tuple #[.agg (eva ev), va]) ∧ AnsSl w' va la.1 ∧ (∀ g, va.ownBlock = some g → w.heap.size ≤ g) ∧ RAt w' p le ∧ w.grownBy w' (some p)) .ret { tmps := tmps, defers := [] } V := by
    intro V h1 hg
    have hrow2 := owns_step hrow hg hB
    have hL := loadEv h1 rfl
    have hr : (results Tryz.f23 tmps).run Tryz.prog V = .ok (.tuple #[.agg (eva ev), .slice av am acp]) V := by
      rw [results_cell_tmp Tryz.results23, h4, h5]
      simp only [asAddr, Sem.run_pure, Result.andThen_ok]
      rw [hL]
      rfl
    subst ham
    refine bodyPost_ret hr rfl ⟨_, rfl, Flat.of_owns hrow2, ?_, HL.rd.grown hg (fun e => by have := Option.some.inj e; have := HL.hp; omega), grown_new HL.gr hg (Nat.le_refl _)⟩
    intro g hgo
    have := (hrow2.lt g hgo).1
    omega
  obtain ⟨h1, hg⟩ := blk_put8 HL.res (I ev.kind) (I ev.node) (I ev.arg) (I ev.msg.node) (I ev.msg.handler) (I ev.msg.count) (I ev.msg.index) (I ev.msg.copy)
  exact key _ h1 hg
theorem isEmpty_beq (l : Str) : List.isEmpty l = (l == []) := by cases l <;> rfl

set_option maxHeartbeats 8000000 in
set_option maxRecDepth 100000 in
theorem lineC (i : Nat) (s : Str) (p : Nat) (w : World) (h : RAt w p ⟨s, false⟩) (hg : Gl w) (hp : 8 ≤ p) (hl : s.length ≤ 1000000) (hi : i ≤ 1000000) :
    Calls Tryz.prog 23 #[.pointer (some ⟨p, 0, none⟩), I i] w fun e w' => ∃ va, e = .returned (.tuple #[.agg (eva ((lineEv i s).getD evNil)), va]) ∧ AnsSl w' va (lineA i s).1 ∧ (∀ g, va.ownBlock = some g → w.heap.size ≤ g) ∧ RAt w' p (lineEnd i s) ∧ w.grownBy w' (some p) := by
  have hpw : p < w.heap.size := Blk.lt h
  have hdl : ¬ 9223372036854775807 < (Lib.decDigits i).length + 2 := by have := digits_len i; omega
  have Hit := Lib.hid (fun X (hX : Gl X) => itoaC (i : Int) ⟨by omega, by omega⟩ X hX)
  have HG := Lib.hid (hg.alloc (.cells #[.int .i64 0, .int .i64 0, .int .i64 0, .int .i64 0, .int .i64 0, .int .i64 0, .int .i64 0, .int .i64 0] 49))
  have Hr0 := Lib.hid (RAt.below h ((Below.refl _ _).alloc (Nat.le_refl _) (.cells #[.int .i64 0, .int .i64 0, .int .i64 0, .int .i64 0, .int .i64 0, .int .i64 0, .int .i64 0, .int .i64 0] 49)))
  have HR0 := Lib.hid (show Blk (w.alloc (.cells #[.int .i64 0, .int .i64 0, .int .i64 0, .int .i64 0, .int .i64 0, .int .i64 0, .int .i64 0, .int .i64 0] 49)) w.heap.size z8 from Blk.new w _ _)
  have Hw0 := Lib.hid (World.grownBy_alloc w (.cells #[.int .i64 0, .int .i64 0, .int .i64 0, .int .i64 0, .int .i64 0, .int .i64 0, .int .i64 0, .int .i64 0] 49) (some p))
  have hz0 : (w.alloc (.cells #[.int .i64 0, .int .i64 0, .int .i64 0, .int .i64 0, .int .i64 0, .int .i64 0, .int .i64 0, .int .i64 0] 49)).heap.size = w.heap.size + 1 := World.size_alloc _ _
  clear h hg
  obtain ⟨ev, hev⟩ : ∃ ev, ev = (lineEv i s).getD evNil := ⟨_, rfl⟩
  obtain ⟨cd, hcd⟩ : ∃ cd, cd = ecode (lineEv i s) := ⟨_, rfl⟩
  have Hev := Lib.hid hev
  have Hcd := Lib.hid hcd
  rw [← hev]
  clear hev hcd
  go_enter Tryz.func23, Tryz.ntmps23
  obtain ⟨W0, hW0⟩ : ∃ W0, W0 = w.alloc (.cells #[.int .i64 0, .int .i64 0, .int .i64 0, .int .i64 0, .int .i64 0, .int .i64 0, .int .i64 0, .int .i64 0] 49) := ⟨_, rfl⟩
  go_upto_region 1 with fail
  rw [← hW0] at HG Hr0 HR0 Hw0 hz0 ⊢
  clear hW0
  -- the number, the colon and the blank
  go_upto_region 2 with (first
    | (go_at_call 46; refine (Hit.out _ HG.out).mono ?_; rintro e X1 ⟨rfl, D1⟩; rw [Lib.itoa_nonneg]; unfold sv)
    | (go_at_call 45; rw [ba_app]; refine (skipC ⟨s, false⟩ (head i) p X1 (Hr0.out.below D1)).mono ?_; rintro e X2 ⟨rfl, k2, g2⟩)
    | (go_at_call 44; refine (mustC _ _ p X2 k2).mono ?_; rintro e X3 ⟨rfl, k3, g3⟩))
  have hD1 := D1.size
  have h2s := g2.size
  have h3s := g3.size
  have HX3 := Lib.hid (show RAt X3 p (lineHead i s) from k3)
  have HR3 := Lib.hid (((HR0.out.kept D1 (by omega)).grown g2 (fun e => by have := Option.some.inj e; omega)).grown g3 (fun e => by have := Option.some.inj e; omega))
  have HG3 := Lib.hid (((HG.out.below D1).grown g2 hp).grown g3 hp)
  have Hw3 := Lib.hid (((Hw0.out.trans (grownBelow D1 _)).trans g2).trans g3)
  have hz3 : w.heap.size < X3.heap.size := by omega
  have hlh : (lineHead i s).rest.length ≤ s.length := RS.skip_le ⟨s, false⟩ (head i)
  have Hlh := Lib.hid hlh
  clear k2 k3 g2 g3 D1 hD1 h2s h3s Hr0 HR0 HG Hw0 hz0 Hit hlh
  have HS := Lib.hid (show StrRow (X3.alloc (.cells #[.string ⟨#[32, 91]⟩, .string ⟨#[32, 42]⟩, .string ⟨#[32, 97, 102, 116, 101, 114, 32]⟩] 9)) X3.heap.size evSeps from heap_alloc_new _ _)
  have Hal := Lib.hid (show Below X3.heap.size X3 (X3.alloc (.cells #[.string ⟨#[32, 91]⟩, .string ⟨#[32, 42]⟩, .string ⟨#[32, 97, 102, 116, 101, 114, 32]⟩] 9)) from (Below.refl _ _).alloc (Nat.le_refl _) _)
  have hz4 : (X3.alloc (.cells #[.string ⟨#[32, 91]⟩, .string ⟨#[32, 42]⟩, .string ⟨#[32, 97, 102, 116, 101, 114, 32]⟩] 9)).heap.size = X3.heap.size + 1 := World.size_alloc _ _
  go_upto_region 3 with (first
    | (go_at_call 48; refine (untilC (lineHead i s) evSeps p X3.heap.size _ (HX3.out.below Hal.out) (HG3.out.below Hal.out) (by have := Hlh.out; omega) HS.out (by decide) hp).mono ?_; rintro e X4 ⟨rfl, k4, g4⟩)
    | (go_at_call 47; refine (parseEvC _ X4 ((HG3.out.below Hal.out).grown g4 hp) (by have := Hlh.out; have := RS.text_le (lineHead i s) evSeps; omega)).mono ?_; rintro e X5 ⟨rfl, D5⟩; rw [evR_eq, show (parseEv ((lineHead i s).text evSeps)).getD evNil = ev from Hev.out.symm, show ecode (parseEv ((lineHead i s).text evSeps)) = cd from Hcd.out.symm]))
  have h4s := g4.size
  have h5s := D5.size
  have HX6 := Lib.hid (show LineAt w (X5.alloc (.cells (eva ev) 49)) p X5.heap.size ((lineHead i s).until evSeps) ev from
    ⟨(k4.below D5).below ((Below.refl _ _).alloc (Nat.le_refl _) _),
     (((HR3.out.kept Hal.out (by omega)).grown g4 (fun e => by have := Option.some.inj e; omega)).kept D5 (by omega)).alloc _,
     Blk.new X5 _ _, (((Hw3.out.trans (grownBelow Hal.out _)).trans g4).trans (grownBelow D5 _)).trans (World.grownBy_alloc X5 _ _), ((((HG3.out.below Hal.out).grown g4 hp).below D5).alloc _), hpw, by omega, hp⟩)
  have hE4 : (lineHead i s).rest.length ≤ s.length := Hlh.out
  clear k4 g4 D5 h4s h5s HS Hal hz4 hz3 HX3 HR3 HG3 Hw3 Hlh
  unfold eva at HX6
  obtain ⟨X6, hX6⟩ : ∃ Y, Y = X5.alloc (.cells #[I ev.kind, I ev.node, I ev.arg, I ev.msg.node, I ev.msg.handler, I ev.msg.count, I ev.msg.index, I ev.msg.copy] 49) := ⟨_, rfl⟩
  rw [← hX6] at HX6 ⊢
  clear hX6
  generalize X5.heap.size = E at HX6 ⊢
  go_upto_block 0 with (go_at_call 44; refine (mustC _ _ p X6 HX6.out.rd).mono ?_; rintro e X7 ⟨rfl, k7, g7⟩; have HX7 := Lib.hid (HX6.out.step k7 g7); clear k7 g7)
  have hc := ecode_eq (lineEv i s)
  rw [← Hcd.out] at hc
  have HL := Lib.hid (show LineAt w X7 p E (lineR i s) ev by
    have := HX7.out
    rw [hc] at this
    exact this)
  have hrl : (lineR i s).rest.length ≤ s.length := Nat.le_trans (RS.until_le (lineHead i s) evSeps) hE4
  clear HX7 HX6 hc hE4
  have HLA := Lib.hid (show lineA i s = (lineR i s).asks (s.length + 1) from rfl)
  have HLE := Lib.hid (show lineEnd i s = RS.tail i (lineA i s).2 from rfl)
  generalize lineR i s = rr at HL HLA hrl
  obtain ⟨la, hla0⟩ : ∃ la, la = lineA i s := ⟨_, rfl⟩
  obtain ⟨le, hle0⟩ : ∃ le, le = lineEnd i s := ⟨_, rfl⟩
  rw [← hla0] at HLA HLE
  rw [← hle0] at HLE
  have Hla0 := Lib.hid hla0
  have Hle0 := Lib.hid hle0
  clear hla0 hle0
  have hEX : E < X7.heap.size := HL.out.evb.lt
  have hpX : p < X7.heap.size := by have := HL.out.hE; omega
  go_cut [8] from 31 to 44 (fun v wc => ∃ (av : Option Addr) (am ac' : Nat), v = .slice av am ac' ∧ am = la.1.length ∧ Hid (LineAt w wc p E la.2 ev) ∧ la.2.rest.length ≤ 1000000 ∧ X7.heap.size ≤ wc.heap.size ∧ Hid (wc.ownsRow X7.heap.size 78 6 (.slice av am ac') la.1.length (la.1.flatMap ac)))
  case first =>
    go_wp2_with fail
    go_loopw [8] (fun v wr => ∃ (k : Nat) (av : Option Addr) (ac' : Nat) (acc : List Ans) (f : Nat) (r2 : RS), v = .slice av k ac' ∧ k = acc.length ∧ acc.length + r2.rest.length ≤ s.length ∧ r2.rest.length < f ∧ Hid (LineAt w wr p E r2 ev) ∧ Hid (la = (acc ++ (r2.asks f).1, (r2.asks f).2)) ∧ X7.heap.size ≤ wr.heap.size ∧ Hid (wr.ownsRow X7.heap.size 78 6 (.slice av k ac') k (acc.flatMap ac))) (fun v _ => s.length + 1 - sliceLen v)
    case atStart => exact ⟨0, none, 0, [], s.length + 1, rr, rfl, rfl, by simpa using hrl, by omega, HL, Lib.hid (by rw [HLA.out]; rfl), Nat.le_refl _, Lib.hid (World.ownsRow_nil _ _ _ _)⟩
    case round =>
      obtain ⟨k, av, ac', acc, f, r2, rfl, rfl, hal, hf, HLr, Hla, hXr, Hrow⟩ := hrel
      have c1 : wr.cell? ⟨p, 1, none⟩ = some (.bool r2.bad) := Blk.cell HLr.out.rd 1
      cases hbad : r2.bad with
      | true =>
        rw [hbad] at c1
        have Hfin := Lib.hid (show la = (acc, r2) by rw [Hla.out, RS.asks_bad f r2 hbad]; simp)
        clear hbad Hla
        go_wp2_with fail
        go_meet
        case rel => exact ⟨av, acc.length, ac', rfl, by rw [Hfin.out], by rw [Hfin.out]; exact HLr, by rw [Hfin.out]; show r2.rest.length ≤ 1000000; omega, hXr, by rw [Hfin.out]; exact Hrow⟩
      | false =>
        rw [hbad] at c1
        have hsk := skipC r2 [32, 91] p wr HLr.out.rd
        cases hhas : r2.has [32, 91] with
        | false =>
          have Hfin := Lib.hid (show la = (acc, r2) by rw [Hla.out, RS.asks_no f r2 hhas]; simp)
          rw [hhas, RS.skip_no r2 _ hhas] at hsk
          have Hsk := Lib.hid hsk
          clear hbad Hla hhas hsk
          go_wp2_with (go_at_call 45; refine Hsk.out.mono ?_; rintro e Y1 ⟨rfl, k1, g1⟩)
          go_meet
          case rel => exact ⟨av, acc.length, ac', rfl, by rw [Hfin.out], by rw [Hfin.out]; exact Lib.hid (HLr.out.step k1 g1), by rw [Hfin.out]; show r2.rest.length ≤ 1000000; omega, by have := g1.size; omega, by rw [Hfin.out]; exact Lib.hid (owns_step Hrow.out g1 hpX)⟩
        | true =>
          obtain ⟨f, rfl⟩ : ∃ f', f = f' + 1 := ⟨f - 1, by omega⟩
          have hsl := RS.skip_less r2 _ hhas
          have hal2 := RS.askR_le (r2.skip [32, 91])
          have Hnext := Lib.hid (show la = ((acc ++ [(r2.skip [32, 91]).askA]) ++ ((r2.skip [32, 91]).askR.asks f).1, ((r2.skip [32, 91]).askR.asks f).2) by rw [Hla.out, RS.asks_yes f r2 hbad hhas]; simp)
          rw [hhas] at hsk
          have Hsk := Lib.hid hsk
          have hr3 : (r2.skip [32, 91]).rest.length ≤ 4000000000 := by omega
          have hlen2 : ([32, 91] : Str).length = 2 := rfl
          rw [hlen2] at hsl
          have Hsl := Lib.hid hsl
          have Hal2 := Lib.hid hal2
          clear hbad Hla hhas hsk hsl hal2 hlen2
          generalize r2.skip [32, 91] = r3 at Hsk Hnext hr3 Hsl Hal2
          go_wp2_with (first
            | (go_at_call 45; refine Hsk.out.mono ?_; rintro e Y1 ⟨rfl, k1, g1⟩; have HL1 := Lib.hid (HLr.out.step k1 g1); have hy1 := g1.size; have hrow1 := Lib.hid (owns_step Hrow.out g1 hpX); clear k1 g1)
            | (go_at_call 49; refine (askC r3 p Y1 HL1.out.rd HL1.out.gl hp hr3).mono ?_; rintro e Y2 ⟨rfl, k2, g2⟩; have HL2 := Lib.hid (HL1.out.step k2 g2); have hy2 := g2.size; have hrow2 := Lib.hid (owns_step hrow1.out g2 hpX); clear k2 g2)
            | (at_builtin; go_must (refine wpList_appB rfl _ _ 30 rfl 78 _ 6 48 Tryz.underlying30 info_Answer rfl (by omega) (by omega) X7.heap.size (.slice av acc.length ac') acc.length (acc.flatMap ac) rfl (hrow2.out.alloc _) Y2.heap.size 1 1 #[I r3.askA.q.node, I r3.askA.q.handler, I r3.askA.q.count, I r3.askA.q.kind, I r3.askA.q.index, I r3.askA.n] 78 rfl (heap_alloc_new _ _) rfl rfl (by omega) (by omega) (by rw [World.size_alloc]; omega) ?_); intro g5 cap5 w5 hg1 hg2 hg3 ho5 hgr5 hB5))
          go_roundw
          case rel => exact ⟨acc.length + 1, _, _, acc ++ [r3.askA], f, r3.askR, by go_num, by simp, by have := Hsl.out; have := Hal2.out; simp; omega, by have := Hsl.out; have := Hal2.out; omega, Lib.hid ((HL2.out.alloc _).rowN hgr5 (fun g hg => by have := (hrow2.out.lt g hg).1; omega)), Hnext, by have := hgr5.size; rw [World.size_alloc] at this; omega, Lib.hid (by rw [List.flatMap_append]; simpa [ac, iv, Ans.ints] using ho5)⟩
          case measure => simp [sliceLen]; omega
  case rest =>
    obtain ⟨av, am, ac', rfl, rfl, HLc, hlar, hXc, Hrow⟩ := hcut
    have hX7c := HLc.out.evb.lt
    have HT := Lib.hid (show le = (if (la.2.skip [32, 42]).has [32, 97, 102, 116, 101, 114, 32] = true then (⟨[], (RS.afters i (-1) (splitC 44 ((la.2.skip [32, 42]).skip [32, 97, 102, 116, 101, 114, 32]).rest) ((la.2.skip [32, 42]).skip [32, 97, 102, 116, 101, 114, 32])).bad⟩ : RS).must true else ((la.2.skip [32, 42]).skip [32, 97, 102, 116, 101, 114, 32]).must (((la.2.skip [32, 42]).skip [32, 97, 102, 116, 101, 114, 32]).rest == [])) by rw [HLE.out]; unfold RS.tail; simp only []; split <;> rfl)
    have hwX : w.heap.size < X7.heap.size := by have := HLc.out.hE; have := HL.out.hE; omega
    clear HL HLA HLE
    have hr1l := RS.skip_le la.2 [32, 42]
    go_upto_region 8 with (go_at_call 45; refine (skipC la.2 [32, 42] p wc HLc.out.rd).mono ?_; rintro e Y1 ⟨rfl, k1, g1⟩; have HL1 := Lib.hid (HLc.out.step k1 g1); have hy1 := g1.size; have hrow1 := Lib.hid (owns_step Hrow.out g1 hpX); clear k1 g1)
    generalize la.2.skip [32, 42] = q1 at HL1 HT hr1l
    have hr2l := RS.skip_le q1 [32, 97, 102, 116, 101, 114, 32]
    have hsk := skipC q1 [32, 97, 102, 116, 101, 114, 32] p Y1 HL1.out.rd
    cases hhas : q1.has [32, 97, 102, 116, 101, 114, 32] with
    | false =>
      rw [hhas] at HT
      rw [hhas, RS.skip_no q1 _ hhas] at hsk
      have Hle2 := Lib.hid (show le = q1.must (q1.rest == []) by rw [HT.out, if_neg (by simp), RS.skip_no q1 _ hhas])
      have Hsk := Lib.hid hsk
      clear hsk hhas HT
      go_upto_region 18 with (go_at_call 45; refine Hsk.out.mono ?_; rintro e Y2 ⟨rfl, k2, g2⟩; have HL2 := Lib.hid (HL1.out.step k2 g2); have hy2 := g2.size; have hrow2 := Lib.hid (owns_step hrow1.out g2 hpX); clear k2 g2)
      have c0 : Y2.cell? ⟨p, 0, none⟩ = some (sv q1.rest) := Blk.cell HL2.out.rd 0
      unfold sv at c0
      go_upto_region 19 with (go_at_call 44; rw [isEmpty_beq]; refine (mustC q1 (q1.rest == []) p Y2 HL2.out.rd).mono ?_; rintro e Z ⟨rfl, k9, g9⟩; have HZ := Lib.hid (HL2.out.step k9 g9); have hrowZ := Lib.hid (owns_step hrow2.out g9 hpX); clear k9 g9)
      have HZ := Lib.hid (show LineAt w Z p E le ev by rw [Hle2.out]; exact HZ.out)
      have hev := HZ.out.evb
      have hres := HZ.out.res
      unfold eva at hev
      unfold z8 at hres
      have m0 := hev.cell 0; have m1 := hev.cell 1; have m2 := hev.cell 2; have m3 := hev.cell 3; have m4 := hev.cell 4; have m5 := hev.cell 5; have m6 := hev.cell 6; have m7 := hev.cell 7
      have r0 := hres.cell 0; have r1 := hres.cell 1; have r2 := hres.cell 2; have r3 := hres.cell 3; have r4 := hres.cell 4; have r5 := hres.cell 5; have r6 := hres.cell 6; have r7 := hres.cell 7
      have g0 := hres.frozen 0; have g1 := hres.frozen 1; have g2 := hres.frozen 2; have g3 := hres.frozen 3; have g4 := hres.frozen 4; have g5 := hres.frozen 5; have g6 := hres.frozen 6; have g7 := hres.frozen 7
      clear hev hres
      go_wp2_with fail
      exact lineFin Hla0.out Hle0.out HZ.out hrowZ.out rfl hwX rfl rfl
    | true =>
      rw [hhas] at HT hsk
      have HT2 := Lib.hid (show le = (⟨[], (RS.afters i (-1) (splitC 44 (q1.skip [32, 97, 102, 116, 101, 114, 32]).rest) (q1.skip [32, 97, 102, 116, 101, 114, 32])).bad⟩ : RS).must true by rw [HT.out, if_pos rfl])
      have Hsk := Lib.hid hsk
      clear hsk hhas HT
      generalize q1.skip [32, 97, 102, 116, 101, 114, 32] = q2 at Hsk HT2 hr2l
      have Hle := Lib.hid (splitC_le 44 q2.rest)
      have hwl : (splitC 44 q2.rest).length ≤ 1000001 := by
        rw [splitC_length]
        have := List.count_le_length (a := (44 : UInt8)) (l := q2.rest)
        omega
      have HspX := Lib.hid (fun X (hX : Gl X) => splitCw q2.rest 44 X hX (by omega))
      generalize splitC 44 q2.rest = ws at HT2 Hle HspX hwl
      unfold sv at HspX
      go_wp2_with (first
        | (go_at_call 45; refine Hsk.out.mono ?_; rintro e Y2 ⟨rfl, k2, g2⟩; have HL2 := Lib.hid (HL1.out.step k2 g2); have hy2 := g2.size; have hrow2 := Lib.hid (owns_step hrow1.out g2 hpX); have c0 : Y2.cell? ⟨p, 0, none⟩ = some (sv q2.rest) := Blk.cell HL2.out.rd 0; unfold sv at c0; clear k2 g2)
        | (go_at_call 22; refine (HspX.out Y2 HL2.out.gl).mono ?_; rintro e Y3 ⟨rfl, hrw, hb3, hz3⟩))
      have HL3 := Lib.hid (HL2.out.below hb3)
      have hrow3 := Lib.hid (owns_below hrow2.out hb3)
      have Hws := Lib.hid hrw
      have hYz := hb3.size
      clear hrw hb3 HL2 hrow2 HL1 hrow1 c0 HspX Hsk
      go_loopw [9, 55] (fun vl vi wr => ∃ (k : Nat) (last : Int) (q3 : RS), vl = .int .i64 last ∧ vi = .int .i64 k ∧ k ≤ ws.length ∧ Hid (LineAt w wr p E q3 ev) ∧ Hid (RS.afters i (-1) ws q2 = RS.afters i last (ws.drop k) q3) ∧ Hid (wr.ownsRow X7.heap.size 78 6 (.slice av la.1.length ac') la.1.length (la.1.flatMap ac)) ∧ Hid (StrRow wr Y2.heap.size ws)) (fun _ vi _ => ws.length - (intOf vi).toNat)
      case atStart => exact ⟨0, -1, q2, rfl, rfl, by omega, HL3, Lib.hid rfl, hrow3, Hws⟩
      case round =>
        obtain ⟨k, last, q3, rfl, rfl, hk, HLr, Haf, Hrr, Hwr⟩ := hrel
        by_cases hlt : k < ws.length
        · have hcell : wr.cell? ⟨Y2.heap.size, k, none⟩ = some (sv ws[k]) := StrRow.cell Hwr.out (by simp [hlt])
          have haf := Haf.out
          rw [List.drop_eq_getElem_cons hlt] at haf
          have Haf2 := Lib.hid (show RS.afters i (-1) ws q2 = RS.afters i (numberV ws[k]) (ws.drop (k + 1)) ((q3.number ws[k]).must (decide (last < (numberV ws[k] : Int)) && decide (numberV ws[k] < i))) from haf)
          have hw4 : (ws[k]).length ≤ 4000000000 := by have := Hle.out _ (List.getElem_mem hlt); omega
          clear haf
          have hpY : p < Y2.heap.size := by omega
          have hkI : decide ((numberV ws[k] : Int) < (i : Int)) = decide (numberV ws[k] < i) := by rw [Bool.eq_iff_iff]; simp
          have HkI := Lib.hid hkI
          clear hkI
          generalize ws[k] = q at hcell Haf2 hw4 HkI
          unfold sv at hcell
          have Hnum := Lib.hid (numberC q3 q p wr HLr.out.rd HLr.out.gl hp hw4)
          unfold sv at Hnum
          generalize numberV q = nv at Hnum Haf2 HkI
          by_cases hl1 : last < (nv : Int)
          · have hd1 : decide (last < (nv : Int)) = true := decide_eq_true hl1
            have Haf3 := Lib.hid (show RS.afters i (-1) ws q2 = RS.afters i nv (ws.drop (k + 1)) ((q3.number q).must (decide (nv < i))) by rw [Haf2.out, hd1]; rfl)
            clear hd1
            go_wp2_with (first
              | (go_at_call 50; refine Hnum.out.mono ?_; rintro e Z1 ⟨rfl, k1, g1⟩; have HZ1 := Lib.hid (HLr.out.step k1 g1); have hrz1 := Lib.hid (owns_step Hrr.out g1 hpX); have hwz1 := Lib.hid (Hwr.out.grown g1 (by omega)); clear k1 g1)
              | (go_at_call 44; refine (mustC _ _ p Z1 HZ1.out.rd).mono ?_; rintro e Z2 ⟨rfl, k2, g2⟩; have HZ2 := Lib.hid (HZ1.out.step k2 g2); have hrz2 := Lib.hid (owns_step hrz1.out g2 hpX); have hwz2 := Lib.hid (hwz1.out.grown g2 (by omega)); clear k2 g2))
            go_roundw
            case rel => exact ⟨k + 1, _, _, rfl, by go_num, by omega, HZ2, Haf3, hrz2, hwz2⟩
            case measure => simp [intOf]; omega
          · have hd1 : decide (last < (nv : Int)) = false := decide_eq_false hl1
            have Haf3 := Lib.hid (show RS.afters i (-1) ws q2 = RS.afters i nv (ws.drop (k + 1)) ((q3.number q).must false) by rw [Haf2.out, hd1]; rfl)
            clear hd1
            go_wp2_with (first
              | (go_at_call 50; refine Hnum.out.mono ?_; rintro e Z1 ⟨rfl, k1, g1⟩; have HZ1 := Lib.hid (HLr.out.step k1 g1); have hrz1 := Lib.hid (owns_step Hrr.out g1 hpX); have hwz1 := Lib.hid (Hwr.out.grown g1 (by omega)); clear k1 g1)
              | (go_at_call 44; refine (mustC _ _ p Z1 HZ1.out.rd).mono ?_; rintro e Z2 ⟨rfl, k2, g2⟩; have HZ2 := Lib.hid (HZ1.out.step k2 g2); have hrz2 := Lib.hid (owns_step hrz1.out g2 hpX); have hwz2 := Lib.hid (hwz1.out.grown g2 (by omega)); clear k2 g2))
            go_roundw
            case rel => exact ⟨k + 1, _, _, rfl, by go_num, by omega, HZ2, Haf3, hrz2, hwz2⟩
            case measure => simp [intOf]; omega
        · obtain rfl : k = ws.length := by omega
          have Hle2 := Lib.hid (show le = (⟨[], q3.bad⟩ : RS).must true by rw [HT2.out, Haf.out, List.drop_eq_nil_of_le (Nat.le_refl _)]; rfl)
          have hrd := HLr.out.rd
          have c0 : wr.cell? ⟨p, 0, none⟩ = some (sv q3.rest) := Blk.cell hrd 0
          have f0 := Blk.frozen hrd 0
          have Hs := Lib.hid (show RAt (wr.setCell ⟨p, 0, none⟩ (sv [])) p ⟨[], q3.bad⟩ from Blk.set hrd 0 (sv []))
          clear hrd
          unfold sv at c0 Hs
          go_upto_region 18 with fail
          have HV := Lib.hid (HLr.out.step Hs.out (grownSet wr ⟨p, 0, none⟩ _))
          have hrowV := Lib.hid (owns_step Hrr.out (grownSet wr ⟨p, 0, none⟩ (.string ⟨([] : Str).toArray⟩)) hpX)
          clear c0 f0 Hs
          obtain ⟨V, hV⟩ : ∃ V, V = wr.setCell ⟨p, 0, none⟩ (.string ⟨([] : Str).toArray⟩) := ⟨_, rfl⟩
          rw [← hV] at HV hrowV ⊢
          clear hV
          have c0 : V.cell? ⟨p, 0, none⟩ = some (sv (⟨[], q3.bad⟩ : RS).rest) := Blk.cell HV.out.rd 0
          unfold sv at c0
          go_upto_region 19 with (go_at_call 44; refine (mustC (⟨[], q3.bad⟩ : RS) true p V HV.out.rd).mono ?_; rintro e Z ⟨rfl, k9, g9⟩; have HZ := Lib.hid (HV.out.step k9 g9); have hrowZ := Lib.hid (owns_step hrowV.out g9 hpX); clear k9 g9)
          have HZ := Lib.hid (show LineAt w Z p E le ev by rw [Hle2.out]; exact HZ.out)
          have hev := HZ.out.evb
          have hres := HZ.out.res
          unfold eva at hev
          unfold z8 at hres
          have m0 := hev.cell 0; have m1 := hev.cell 1; have m2 := hev.cell 2; have m3 := hev.cell 3; have m4 := hev.cell 4; have m5 := hev.cell 5; have m6 := hev.cell 6; have m7 := hev.cell 7
          have r0 := hres.cell 0; have r1 := hres.cell 1; have r2 := hres.cell 2; have r3 := hres.cell 3; have r4 := hres.cell 4; have r5 := hres.cell 5; have r6 := hres.cell 6; have r7 := hres.cell 7
          have g0 := hres.frozen 0; have g1 := hres.frozen 1; have g2 := hres.frozen 2; have g3 := hres.frozen 3; have g4 := hres.frozen 4; have g5 := hres.frozen 5; have g6 := hres.frozen 6; have g7 := hres.frozen 7
          clear hev hres
          go_wp2_with fail
          exact lineFin Hla0.out Hle0.out HZ.out hrowZ.out rfl hwX rfl rfl
end Go.Proofs.YtljmonfobefiiaaGreatDoor
