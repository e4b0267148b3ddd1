/- trace.own: a copy of a run, its asks and messages too. -/
import Derived.Test.YtaedfidfcoigoaaPF
import Derived.Deep.RegionWith
namespace Go.Proofs.Ytaedfidfcoigoaa
open Go.RowKit

/-- w' is as w in all blocks but g, and bears no fewer. -/
def Agr (g : Nat) (w w' : World) : Prop := w.heap.size ≤ w'.heap.size ∧ ∀ b o, b < w.heap.size → b ≠ g → w'.cell? ⟨b, o, none⟩ = w.cell? ⟨b, o, none⟩
theorem Agr.refl (g : Nat) (w : World) : Agr g w w := ⟨Nat.le_refl _, fun _ _ _ _ => rfl⟩
theorem Agr.trans {g : Nat} {a b c : World} (h : Agr g a b) (k : Agr g b c) : Agr g a c :=
  ⟨Nat.le_trans h.1 k.1, fun x o hx hg => (k.2 x o (Nat.lt_of_lt_of_le hx h.1) hg).trans (h.2 x o hx hg)⟩
theorem Agr.below {g B : Nat} {w w' : World} (h : Below B w w') (hB : w.heap.size ≤ B) : Agr g w w' := ⟨h.size, fun b o hb _ => h.cell (p := ⟨b, o, none⟩) (Nat.lt_of_lt_of_le hb hB)⟩
theorem Agr.set (g : Nat) (w : World) (o : Nat) (v : Value) : Agr g w (w.setCell ⟨g, o, none⟩ v) :=
  ⟨by simp, fun b o' _ hg => World.cell?_setCell_other _ _ _ _ (by intro h; simp at h <;> exact hg h.1)⟩
theorem Agr.drew {g : Nat} {w w' : World} (h : Agr g w w') : Agr g w w'.drew := h

theorem Flat.same {w w' : World} {k : Nat} {v : Value} {n : Nat} {xs : List Value} (h : Flat w k v n xs) (hb : ∀ b o, b < w.heap.size → w'.cell? ⟨b, o, none⟩ = w.cell? ⟨b, o, none⟩) : Flat w' k v n xs := by
  obtain ⟨hl, hm, a, c, hv, hr⟩ := h
  refine ⟨hl, hm, a, c, hv, fun j u hu => ?_⟩
  obtain ⟨b, o, ha, hc⟩ := hr j u hu
  have h2 := World.block_lt_of_cell? _ _ hc
  exact ⟨b, o, ha, (hb b _ h2).trans hc⟩
/-- A row of the call's own that lies behind g. -/
theorem Flat.own_off {w w' : World} {B g : Nat} {e : TypeId} {k : Nat} {v : Value} {n : Nat} {xs : List Value} (h : w.ownsRow B e k v n xs) (hg : g < B) (ha : Agr g w w') : Flat w' k v n xs := by
  have hf := Flat.of_owns h
  obtain ⟨hl, hm, a, c, hv, hr⟩ := hf
  refine ⟨hl, hm, a, c, hv, fun j u hu => ?_⟩
  obtain ⟨b, o, ha', hc⟩ := hr j u hu
  have h2 := World.block_lt_of_cell? _ _ hc
  refine ⟨b, o, ha', (ha.2 b _ h2 ?_).trans hc⟩
  rcases h.2 with ⟨rfl, _⟩ | ⟨g', cap, cur, rfl, hg', _⟩
  · simp at hv
    rw [← hv.1] at ha'
    cases ha'
  · simp at hv
    rw [← hv.1] at ha'
    simp at ha'
    omega

/-- The cells xs are the steps; what their slices hold lies outside block g. -/
def StpO (w : World) (g : Nat) (l : List Stp) (xs : List Value) : Prop := ∀ i s, l[i]? = some s → ∃ va vs, (∀ w', Agr g w w' → AskSl w' va s.asks ∧ MsgSl w' vs s.sent) ∧ ∀ j u, (s.row va vs)[j]? = some u → xs[i * 11 + j]? = some u
theorem StpO.kept {w w' : World} {g : Nat} {l : List Stp} {xs : List Value} (h : StpO w g l xs) (ha : Agr g w w') : StpO w' g l xs := by
  intro i s hi
  obtain ⟨va, vs, h1, h2⟩ := h i s hi
  exact ⟨va, vs, fun w2 h3 => h1 w2 (ha.trans h3), h2⟩
theorem StpO.start {w w1 : World} {g : Nat} {l : List Stp} {xs : List Value} (h : StpCells w l xs) (hb : Below w.heap.size w w1) (hg : w.heap.size ≤ g) : StpO w1 g l xs := by
  intro i s hi
  obtain ⟨va, vs, h1, h2, h3⟩ := h.at hi
  refine ⟨va, vs, fun w2 ha => ?_, h3⟩
  have key : ∀ b o, b < w.heap.size → w2.cell? ⟨b, o, none⟩ = w.cell? ⟨b, o, none⟩ := fun b o hlt =>
    (ha.2 b o (Nat.lt_of_lt_of_le hlt hb.size) (by omega)).trans (hb.cell (p := ⟨b, o, none⟩) hlt)
  exact ⟨Flat.same h1 key, Flat.same h2 key⟩
theorem cells_ext {w : World} : ∀ (l : List Stp) (xs : List Value), xs.length = l.length * 11 → (∀ i s, l[i]? = some s → ∃ va vs, AskSl w va s.asks ∧ MsgSl w vs s.sent ∧ ∀ j u, (s.row va vs)[j]? = some u → xs[i * 11 + j]? = some u) → StpCells w l xs
  | [], xs, hl, _ => List.length_eq_zero_iff.1 (by simpa using hl)
  | s :: l, xs, hl, h => by
    obtain ⟨va, vs, h1, h2, h3⟩ := h 0 s rfl
    refine ⟨va, vs, xs.drop 11, ?_, h1, h2, cells_ext l (xs.drop 11) ?_ ?_⟩
    · have hx : xs.take 11 = s.row va vs := by
        have e11 : (s.row va vs).length = 11 := rfl
        have hxl : 11 ≤ xs.length := by rw [hl, List.length_cons]; omega
        refine ext_of (by rw [List.length_take, e11]; omega) fun j hj => ?_
        rw [List.length_take] at hj
        have hj2 : j < (s.row va vs).length := by rw [e11]; omega
        have := h3 j _ (List.getElem?_eq_getElem hj2)
        rw [List.getElem?_take_of_lt (by omega), List.getElem?_eq_getElem hj2]
        simpa using this
      rw [← hx, List.take_append_drop]
    · rw [List.length_drop, hl, List.length_cons]; omega
    · intro i t hi
      obtain ⟨va', vs', g1, g2, g3⟩ := h (i + 1) t (by simpa using hi)
      refine ⟨va', vs', g1, g2, fun j u hu => ?_⟩
      rw [List.getElem?_drop]
      have := g3 j u hu
      rw [show (i + 1) * 11 + j = 11 + (i * 11 + j) by omega] at this
      exact this
theorem StpO.cells {w : World} {g : Nat} {l : List Stp} {xs : List Value} (h : StpO w g l xs) (hl : xs.length = l.length * 11) : StpCells w l xs :=
  cells_ext l xs hl fun i s hi => by
    obtain ⟨va, vs, h1, h2⟩ := h i s hi
    have := h1 w (Agr.refl _ _)
    exact ⟨va, vs, this.1, this.2, h2⟩
/-- Two slices of one step are stored anew. -/
theorem StpO.store {w : World} {g k : Nat} {l : List Stp} {xs : List Value} (h : StpO w g l xs) (hk : k < l.length) (hl : xs.length = l.length * 11) {ua us : Value} (hu : ∀ w', Agr g w w' → AskSl w' ua l[k].asks ∧ MsgSl w' us l[k].sent) :
    StpO w g l ((xs.set (k * 11 + 8) ua).set (k * 11 + 10) us) := by
  intro i s hi
  obtain ⟨va, vs, h1, h2⟩ := h i s hi
  have hil := (List.getElem?_eq_some_iff.1 hi).1
  by_cases hik : i = k
  · subst hik
    have es : s = l[i] := by simpa [hil] using hi.symm
    subst es
    refine ⟨ua, us, hu, fun j u hj => ?_⟩
    have hj11 : j < 11 := by have := (List.getElem?_eq_some_iff.1 hj).1; exact this
    by_cases h8 : j = 8
    · subst h8
      rw [List.getElem?_set_ne (by omega), List.getElem?_set_self (by omega)]
      exact hj
    · by_cases h10 : j = 10
      · subst h10
        rw [List.getElem?_set_self (by simp; omega)]
        exact hj
      · rw [List.getElem?_set_ne (by omega), List.getElem?_set_ne (by omega)]
        refine h2 j u ?_
        rw [← hj]
        match j, hj11, h8, h10 with
        | 0, _, _, _ => rfl
        | 1, _, _, _ => rfl
        | 2, _, _, _ => rfl
        | 3, _, _, _ => rfl
        | 4, _, _, _ => rfl
        | 5, _, _, _ => rfl
        | 6, _, _, _ => rfl
        | 7, _, _, _ => rfl
        | 9, _, _, _ => rfl
        | 8, _, h, _ => exact absurd rfl h
        | 10, _, _, h => exact absurd rfl h
        | n + 11, h, _, _ => omega
  · refine ⟨va, vs, h1, fun j u hj => ?_⟩
    have hj11 : j < 11 := by have := (List.getElem?_eq_some_iff.1 hj).1; exact this
    rw [List.getElem?_set_ne (by omega), List.getElem?_set_ne (by omega)]
    exact h2 j u hj

/-- The block g holds xs in its first cells, and may be written. -/
def RowAt (w : World) (g : Nat) (xs : List Value) : Prop := ∀ j, j < xs.length → w.cell? ⟨g, j, none⟩ = xs[j]? ∧ w.frozen? ⟨g, j, none⟩ = false
theorem RowAt.kept {w w' : World} {g : Nat} {xs : List Value} (h : RowAt w g xs) {B : Nat} (hb : Below B w w') (hg : g < B) : RowAt w' g xs := fun j hj => by
  have := h j hj
  exact ⟨(hb.cell (p := ⟨g, j, none⟩) hg).trans this.1, (hb.frozen (p := ⟨g, j, none⟩) hg).trans this.2⟩
theorem RowAt.set {w : World} {g : Nat} {xs : List Value} (h : RowAt w g xs) (i : Nat) (hi : i < xs.length) (v : Value) : RowAt (w.setCell ⟨g, i, none⟩ v) g (xs.set i v) := fun j hj => by
  rw [List.length_set] at hj
  have hij := h j hj
  have hii := h i hi
  refine ⟨?_, ?_⟩
  · by_cases e : i = j
    · subst e
      rw [List.getElem?_set_self hi]
      exact World.cell?_setCell_same _ _ _ (hii.1.trans (List.getElem?_eq_getElem hi))
    · rw [List.getElem?_set_ne e, World.cell?_setCell_other _ _ _ _ (by intro h; simp at h <;> exact e h.symm)]
      exact hij.1
  · simpa using hij.2
theorem RowAt.of_owns {w : World} {B : Nat} {e : TypeId} {k : Nat} {v : Value} {n : Nat} {xs : List Value} (h : w.ownsRow B e k v n xs) (hn : 0 < n) : ∃ g cap, v = .slice (some ⟨g, 0, none⟩) n cap ∧ B ≤ g ∧ g < w.heap.size ∧ RowAt w g xs := by
  obtain ⟨g, cap, rfl, hB, hg⟩ := h.form hn
  refine ⟨g, cap, rfl, hB, hg, fun j hj => ⟨?_, ?_⟩⟩
  · have := h.cells (g := g) rfl j xs[j] (by simp [hj])
    have hadd : (⟨g, 0, none⟩ : Addr).add j = ⟨g, 0 + j, none⟩ := by unfold Addr.add; split <;> simp_all
    rw [hadd, Nat.zero_add] at this
    rw [this]
    simp [hj]
  · rcases h.2 with ⟨e, _⟩ | ⟨g', cap', cur, e, _, hb, _⟩
    · cases e
    · simp at e
      obtain ⟨rfl, rfl⟩ := e
      exact frozen_of_row w g j cur _ hb
theorem RowAt.flat {w : World} {g n cap : Nat} {xs : List Value} (h : RowAt w g xs) (hl : xs.length = n * 11) (hn : n ≤ 1000000) : Flat w 11 (.slice (some ⟨g, 0, none⟩) n cap) n xs :=
  Flat.of_cells hl (by omega) fun j u hu => by
    have := h j (List.getElem?_eq_some_iff.1 hu).1
    rw [Nat.zero_add, this.1, hu]

/-- The slices of the first k steps lie in blocks from B on. -/
def FreshTo (B k : Nat) (xs : List Value) : Prop := ∀ i, i < k → ∀ u, (xs[i * 11 + 8]? = some u ∨ xs[i * 11 + 10]? = some u) → InP (fun b => B ≤ b) u
theorem FreshTo.set {B k : Nat} {xs : List Value} (h : FreshTo B k xs) (hk : k * 11 + 11 ≤ xs.length) {ua us : Value} (h1 : InP (fun b => B ≤ b) ua) (h2 : InP (fun b => B ≤ b) us) : FreshTo B (k + 1) ((xs.set (k * 11 + 8) ua).set (k * 11 + 10) us) := by
  intro i hi u hu
  by_cases e : i = k
  · subst e
    rcases hu with hu | hu
    · rw [List.getElem?_set_ne (by omega), List.getElem?_set_self (by omega)] at hu
      cases hu
      exact h1
    · rw [List.getElem?_set_self (by rw [List.length_set]; omega)] at hu
      cases hu
      exact h2
  · rcases hu with hu | hu
    · rw [List.getElem?_set_ne (by omega), List.getElem?_set_ne (by omega)] at hu
      exact h i (by omega) u (.inl hu)
    · rw [List.getElem?_set_ne (by omega), List.getElem?_set_ne (by omega)] at hu
      exact h i (by omega) u (.inr hu)
theorem StpO.cellsP {w : World} {g B : Nat} {l : List Stp} {xs : List Value} (h : StpO w g l xs) (hl : xs.length = l.length * 11) (hf : FreshTo B l.length xs) : StpCellsP (fun b => B ≤ b) w l xs := by
  have key : ∀ (m : List Stp) (d : Nat) (ys : List Value), l.drop d = m → ys = xs.drop (d * 11) → StpCellsP (fun b => B ≤ b) w m ys := by
    intro m
    induction m with
    | nil =>
      intro d ys hd hy
      have : l.length ≤ d := by
        have := congrArg List.length hd
        simp at this
        omega
      show ys = []
      rw [hy, List.drop_eq_nil_iff]
      omega
    | cons s m ih =>
      intro d ys hd hy
      have hdl : d < l.length := by
        have := congrArg List.length hd
        simp at this
        omega
      have hs : l[d]? = some s := by
        have : (l.drop d)[0]? = some s := by rw [hd]; rfl
        simpa using this
      obtain ⟨va, vs, h1, h2⟩ := h d s hs
      have hq := h1 w (Agr.refl _ _)
      refine ⟨va, vs, xs.drop ((d + 1) * 11), ?_, ⟨hq.1, hf d hdl va (.inl (h2 8 va rfl))⟩, ⟨hq.2, hf d hdl vs (.inr (h2 10 vs rfl))⟩, ih (d + 1) _ ?_ rfl⟩
      · rw [hy]
        apply List.ext_getElem?
        intro j
        have hrl : (s.row va vs).length = 11 := rfl
        by_cases hj : j < 11
        · rw [List.getElem?_append_left (by omega), List.getElem?_drop]
          have hu : (s.row va vs)[j]? = some ((s.row va vs)[j]'(by omega)) := List.getElem?_eq_getElem (by omega)
          rw [hu, h2 j _ hu]
        · rw [List.getElem?_append_right (by omega), List.getElem?_drop, List.getElem?_drop, hrl]
          congr 1
          omega
      · have h3 := congrArg List.tail hd
        rwa [List.tail_drop, List.tail_cons] at h3
  exact key l 0 xs (by simp) (by simp)

set_option maxHeartbeats 1600000 in
set_option maxRecDepth 100000 in
theorem trOwnF (run : List Stp) (v : Value) (w : World) (hrun : StpSl w v run) (hn : run.length ≤ 1000000) (hask : ∀ s ∈ run, s.asks.length ≤ 1000000) (hsent : ∀ s ∈ run, s.sent.length ≤ 1000000) :
    Calls Try.prog 36 #[v] w fun e w' => ∃ u, e = .returned u ∧ StpSlF w.heap.size w' u run ∧ Below w.heap.size w w' := by
  have hrun' := hrun
  obtain ⟨ka, ca, rfl, hml⟩ := hrun.open
  go_enter Try.func36, Try.ntmps36
  go_wp2_with fail
  refine (cloneStp run _ _ hrun' hn).mono ?_
  rintro e w1 ⟨u, xs, rfl, hcs, hown, hB1⟩
  by_cases h0 : run.length = 0
  · have hr : run = [] := List.length_eq_zero_iff.1 h0
    subst hr
    have hfl := Flat.of_owns hown
    have hin := own_inB hown (Nat.le_refl _)
    obtain ⟨a, c, rfl, _⟩ := hfl.open
    simp only [List.length_nil] at hown hfl ⊢
    go_wp2_with fail
    refine wp_loop_rounds 1 ?_
    rw [rounds_succ]
    go_wp2_with fail
    go_ret
    exact ⟨_, rfl, ⟨[], rfl, Flat.nil _ _ _ _, hin⟩, hB1⟩
  · obtain ⟨g, cap, rfl, hgB, hg1, hra⟩ := RowAt.of_owns hown (by omega)
    have hso := StpO.start hcs hB1 hgB
    have hxl := hown.1
    clear hown hcs
    go_wp2_with fail
    go_loopw [9] (fun p wr => ∃ (k : Nat) (xs : List Value), k ≤ run.length ∧ p = .int .i64 k ∧ xs.length = run.length * 11 ∧ RowAt wr g xs ∧ StpO wr g run xs ∧ FreshTo w.heap.size k xs ∧ Below w.heap.size w wr ∧ g < wr.heap.size) (fun p _ => run.length - (intOf p).toNat)
    case atStart => exact ⟨0, xs, by omega, rfl, hxl, hra, hso, fun i hi => by omega, hB1, hg1⟩
    case round =>
      clear hra hso hxl
      obtain ⟨k, xs, hk, rfl, hxl, hra, hso, hfr, hB, hgl⟩ := hrel
      have Hfr := Lib.hid hfr
      clear hfr
      by_cases hlt : k < run.length
      · obtain ⟨va, vs, h1, h2⟩ := hso k run[k] (by simp [hlt])
        have hq := h1 wr (Agr.refl _ _)
        obtain ⟨qa, da, rfl, _⟩ := hq.1.open
        obtain ⟨qs, ds, rfl, _⟩ := hq.2.open
        have e8 := h2 8 _ rfl
        have e10 := h2 10 _ rfl
        have r8 := hra (k * 11 + 8) (by omega)
        have r10 := hra (k * 11 + 10) (by omega)
        have c8 := r8.1.trans e8
        have c10 := r10.1.trans e10
        have f8 := r8.2
        have f10 := r10.2
        have hsa := hask run[k] (List.getElem_mem hlt)
        have hss := hsent run[k] (List.getElem_mem hlt)
        have hqa : ∀ W, Below wr.heap.size wr W → Calls Try.prog 60 #[.slice qa run[k].asks.length da] W fun e w' => ∃ u, e = .returned u ∧ w'.ownsRow W.heap.size 59 7 u run[k].asks.length (run[k].asks.flatMap Ask.cells) ∧ Below W.heap.size W w' :=
          fun W hW => cloneAsk _ _ _ (hq.1.kept hW (Nat.le_refl _)) hsa
        have hqs : ∀ W, Below wr.heap.size wr W → Calls Try.prog 61 #[.slice qs run[k].sent.length ds] W fun e w' => ∃ u, e = .returned u ∧ w'.ownsRow W.heap.size 50 5 u run[k].sent.length (run[k].sent.flatMap Msg.cells) ∧ Below W.heap.size W w' :=
          fun W hW => cloneMsg _ _ _ (hq.2.kept hW (Nat.le_refl _)) hss
        have Hqa := Lib.hid hqa
        have Hqs := Lib.hid hqs
        have He8 := Lib.hid e8
        have He10 := Lib.hid e10
        clear hqa hqs h1 h2 r8 r10 e8 e10 hq hrun'
        go_wp2_with fail
        go_region_with (first
          | (go_at_call 60; refine (Hqa.out _ (by repeat (first | exact Below.refl _ _ | assumption | refine Below.drew ?_ | refine below_drewN ?_ _ | refine Below.alloc ?_ (by simp <;> omega) _ | refine Below.setCell ?_ (by simp <;> omega) _))).mono ?_; rintro e w2 ⟨ua, rfl, hoa, hB2⟩
             obtain ⟨a1, d1, rfl, hm1⟩ := (Flat.of_owns hoa).open
             have hz2 := hB2.size
             simp only [heap_drew] at hz2
             have c8' := (hB2.cell (p := ⟨g, k * 11 + 8, none⟩) hgl).trans c8
             have c10' := (hB2.cell (p := ⟨g, k * 11 + 10, none⟩) hgl).trans c10
             have hBr2 := Below.then (w := wr) (by repeat (first | exact Below.refl _ _ | assumption | refine Below.drew ?_ | refine below_drewN ?_ _ | refine Below.alloc ?_ (by simp <;> omega) _ | refine Below.setCell ?_ (by simp <;> omega) _)) hB2)
          | (go_at_call 61; refine (Hqs.out _ hBr2).mono ?_; rintro e w3 ⟨us, rfl, hos, hB3⟩
             obtain ⟨a2, d2, rfl, hm2⟩ := (Flat.of_owns hos).open
             have hz3 := hB3.size
             have hgl2 : g < w2.heap.size := by omega
             have c8'' := (hB3.cell (p := ⟨g, k * 11 + 8, none⟩) hgl2).trans c8'
             have c10'' := (hB3.cell (p := ⟨g, k * 11 + 10, none⟩) hgl2).trans c10'
             have f8'' := (hB3.frozen (p := ⟨g, k * 11 + 8, none⟩) hgl2).trans ((hB2.frozen (p := ⟨g, k * 11 + 8, none⟩) hgl).trans f8)
             have f10'' := (hB3.frozen (p := ⟨g, k * 11 + 10, none⟩) hgl2).trans ((hB2.frozen (p := ⟨g, k * 11 + 10, none⟩) hgl).trans f10)))
        all_goals
          go_wp2_with fail
          go_roundw
          case rel =>
            have hag3 : Agr g w2 w3 := Agr.below hB3 (Nat.le_refl _)
            have hag : Agr g wr w3 := (Agr.below hBr2 (Nat.le_refl _)).trans hag3
            have hgl3 : g < w3.heap.size := by omega
            have hra3 : RowAt w3 g xs := (hra.kept hBr2 hgl).kept hB3 hgl2
            have hB3w : Below w.heap.size w w3 := (hB.trans (hBr2.mono hB.size)).trans (hB3.mono (Nat.le_trans hB.size hz2))
            refine ⟨k + 1, _, by omega, by go_num, ?_, (hra3.set (k * 11 + 8) (by omega) _).set (k * 11 + 10) (by rw [List.length_set]; omega) _, ?_, Hfr.out.set (by omega) (own_inB hoa (Nat.le_trans hB.size (Nat.le_refl _))) (own_inB hos (Nat.le_trans hB.size hz2)), Below.setCell (Below.setCell hB3w hgB _) hgB _, by simpa using hgl3⟩
            · rw [List.length_set, List.length_set]; exact hxl
            · refine StpO.kept (StpO.store (hso.kept hag) hlt hxl (fun W hW => ?_)) ((Agr.set _ _ _ _).trans (Agr.set _ _ _ _))
              exact ⟨Flat.own_off hoa hgl (hag3.trans hW), Flat.own_off hos hgl2 hW⟩
          case measure => simp [intOf]; omega
      · go_wp2_with fail
        go_ret
        exact ⟨_, rfl, ⟨xs, hso.cellsP hxl (by rw [show run.length = k by omega]; exact Hfr.out), hra.flat hxl hn, fun b o n c e => by simp at e; show w.heap.size ≤ b; omega⟩, hB⟩

theorem trOwn (run : List Stp) (v : Value) (w : World) (hrun : StpSl w v run) (hn : run.length ≤ 1000000) (hask : ∀ s ∈ run, s.asks.length ≤ 1000000) (hsent : ∀ s ∈ run, s.sent.length ≤ 1000000) :
    Calls Try.prog 36 #[v] w fun e w' => ∃ u, e = .returned u ∧ StpSl w' u run ∧ Below w.heap.size w w' :=
  (trOwnF run v w hrun hn hask hsent).mono fun _ _ ⟨u, h1, h2, h3⟩ => ⟨u, h1, h2.sl, h3⟩

end Go.Proofs.Ytaedfidfcoigoaa
