/- TraceCanonical: before; the walk. (Printed by mkL5.py, then gen.py.) -/
import Derived.Test.YtaedfidfcoigoaaK5
import Derived.Test.YtaedfidfcoigoaaL3
namespace Go.Proofs.Ytaedfidfcoigoaa
open Go.RowKit

theorem lexL_self (a : List Int) : lexL a a = 0 := by have := lexL_anti a a; omega
theorem Sw.cons {l m : List Stp} (h : Sw l m) (s : Stp) : Sw (s :: l) (s :: m) := by
  obtain ⟨A, x, y, B, rfl, rfl, h⟩ := h
  exact ⟨s :: A, x, y, B, rfl, rfl, h⟩
theorem Sws.cons {l m : List Stp} (h : Sws l m) (s : Stp) : Sws (s :: l) (s :: m) := by
  induction h with
  | refl => exact Sws.refl _
  | step _ h2 ih => exact Sws.step ih (h2.cons s)
theorem Sws.trans {l m n : List Stp} (h : Sws l m) (h2 : Sws m n) : Sws l n := by
  induction h2 with
  | refl => exact h
  | step _ h3 ih => exact Sws.step ih h3
/-- A step that depends on nothing before it may be brought to the front. -/
theorem Sws.front : ∀ (A : List Stp) (s : Stp) (B : List Stp), (∀ a ∈ A, depB a s = false) → Sws (A ++ s :: B) (s :: (A ++ B))
  | [], _, _, _ => Sws.refl _
  | a :: A, s, B, h => by
    have h1 := (Sws.front A s B (fun x hx => h x (List.mem_cons_of_mem _ hx))).cons a
    exact Sws.step h1 ⟨[], a, s, A ++ B, rfl, rfl, h a (List.mem_cons_self)⟩
theorem NF.sws {l m : List Stp} (h : NF l m) : Sws l m := by
  induction h with
  | nil => exact Sws.refl _
  | cons l m p s hs hp _ ih =>
    obtain ⟨hl, he⟩ := List.getElem?_eq_some_iff.1 hs
    have hsp : l = l.take p ++ s :: l.drop (p + 1) := by
      rw [← he, ← List.drop_eq_getElem_cons hl, List.take_append_drop]
    have hf : ∀ a ∈ l.take p, depB a s = false := by
      intro a ha
      obtain ⟨q, hq⟩ := List.getElem?_of_mem ha
      have hqp : q < p := by
        have := (List.getElem?_eq_some_iff.1 hq).1
        rw [List.length_take] at this
        omega
      rw [List.getElem?_take_of_lt hqp] at hq
      exact hp.1.2 q a s hqp hq hs
    have h1 := Sws.front (l.take p) s (l.drop (p + 1)) hf
    rw [← hsp, ← List.eraseIdx_eq_take_drop_succ] at h1
    exact h1.trans (ih.cons s)
theorem normS_sws (run : List Stp) : Sws run (normS run) := (normS_nf run).sws
theorem normS_idem (run : List Stp) : normS (normS run) = normS run := (normS_sws run).norm
theorem NF.self_tail {s : Stp} {l m : List Stp} (h : NF (s :: l) m) (he : m = s :: l) : MinP (s :: l) 0 ∧ NF l l := by
  cases h with
  | cons _ m p t hs hp h2 =>
    cases he
    by_cases hp0 : p = 0
    · subst hp0
      exact ⟨hp, h2⟩
    · have h0 : FreeP (s :: l) 0 := ⟨by simp, fun q a t hq => by omega⟩
      have := hp.2 0 s s h0 (fun e => hp0 e.symm) hs rfl
      rw [lexL_self] at this
      omega
theorem NF.self_before : ∀ (A : List Stp) {x y : Stp} {B : List Stp}, NF (A ++ x :: y :: B) (A ++ x :: y :: B) → depB x y = false → lexL x.key y.key < 0
  | [], x, y, B, h, hd => by
    have h1 := (h.self_tail rfl).1
    refine h1.2 1 x y ⟨by simp, fun q a s hq ha hs => ?_⟩ (by omega) rfl rfl
    have : q = 0 := by omega
    subst this
    simp at ha hs
    subst ha hs
    exact hd
  | a :: A, x, y, B, h, hd => NF.self_before A (h.self_tail rfl).2 hd
/-- Two neighbours of a normal form that do not depend on each other stand in order. -/
theorem normS_before (run A : List Stp) (x y : Stp) (B : List Stp) (h : normS run = A ++ x :: y :: B) (hd : depB x y = false) : lexL x.key y.key < 0 := by
  refine NF.self_before A (B := B) ?_ hd
  rw [← h]
  have := normS_nf (normS run)
  rw [normS_idem] at this
  exact this

set_option maxHeartbeats 2000000 in
set_option maxRecDepth 100000 in
theorem lawBefore (a b : List Stp) (i : Nat) (va vb : Value) (w : World) (ha : StpSl w va a) (hb : StpSl w vb b) (hia : i < a.length) (hib : i < b.length) (heq : ∀ j, j < i → a[j]? = b[j]?) (hlt : lexL a[i].key b[i].key < 0)
    (hsa : ∀ s ∈ a, s.asks.length ≤ 1000000) (hsb : ∀ s ∈ b, s.asks.length ≤ 1000000) :
    Calls Try.prog 26 #[va, vb] w fun e w' => e = .returned (.bool true) ∧ Below w.heap.size w w' := by
  obtain ⟨ka, ca, rfl, _⟩ := ha.open
  obtain ⟨kb, cb, rfl, _⟩ := hb.open
  have Heq := Lib.hid heq
  have Hlt := Lib.hid hlt
  have Hsa := Lib.hid hsa
  have Hsb := Lib.hid hsb
  clear heq hlt hsa hsb
  go_enter Try.func26, Try.ntmps26
  go_wp2_with fail
  go_loopw [5] (fun p wr => ∃ k : Nat, k ≤ i ∧ p = .int .i64 k ∧ Below w.heap.size w wr) (fun p _ => a.length - (intOf p).toNat)
  case atStart => exact ⟨0, by omega, rfl, Below.refl _ _⟩
  case round =>
    obtain ⟨k, hk, rfl, hB⟩ := hrel
    have hka : k < a.length := by omega
    have hkb : k < b.length := by omega
    obtain ⟨b1, o1, qa, ca1, qs, cs1, rfl, hva, hvs, hr0⟩ := (ha.kept hB (Nat.le_refl _)).row (i := k) (s := a[k]) (by simp)
    obtain ⟨b2, o2, qa', ca2, qs', cs2, rfl, hua, hus, hr1⟩ := (hb.kept hB (Nat.le_refl _)).row (i := k) (s := b[k]) (by simp)
    have hcmp := compareStep a[k] b[k] (a[k].val (.slice qa a[k].asks.length ca1) (.slice qs a[k].sent.length cs1)) (b[k].val (.slice qa' b[k].asks.length ca2) (.slice qs' b[k].sent.length cs2)) wr.drew
      ⟨_, _, rfl, hva.kept (Below.refl _ _).drew (Nat.le_refl _), hvs.kept (Below.refl _ _).drew (Nat.le_refl _)⟩ ⟨_, _, rfl, hua.kept (Below.refl _ _).drew (Nat.le_refl _), hus.kept (Below.refl _ _).drew (Nat.le_refl _)⟩ (Hsa.out _ (List.getElem_mem hka)) (Hsb.out _ (List.getElem_mem hkb))
    simp only [Stp.val, Stp.row] at hcmp
    have Hcmp := Lib.hid hcmp
    have Hr0 := Lib.hid hr0
    have Hr1 := Lib.hid hr1
    clear hcmp hr0 hr1 hva hvs hua hus
    go_wp2_with fail
    refine wp_region_ordN 8 [(0, true), (1, true), (2, true), (3, true), (4, true), (5, true), (6, true), (7, true)] (fun w' => w'.rangeAt b1 (o1 + k * 11) [I a[k].ev.kind, I a[k].ev.node, I a[k].ev.arg, I a[k].ev.msg.node, I a[k].ev.msg.handler, I a[k].ev.msg.count, I a[k].ev.msg.index, I a[k].ev.msg.copy, .slice qa a[k].asks.length ca1, .bool a[k].obs, .slice qs a[k].sent.length cs1] ∧ w'.rangeAt b2 (o2 + k * 11) [I b[k].ev.kind, I b[k].ev.node, I b[k].ev.arg, I b[k].ev.msg.node, I b[k].ev.msg.handler, I b[k].ev.msg.count, I b[k].ev.msg.index, I b[k].ev.msg.copy, .slice qa' b[k].asks.length ca2, .bool b[k].obs, .slice qs' b[k].sent.length cs2]) (by kernel_rfl) rfl rfl (by kernel_rfl) ⟨Hr0.out, Hr1.out⟩ ?_
    iterate 3 (refine wpOrd_take ?_ (by rfl) ?_ ?_; rotate_left; (intro w hSw; (try dsimp only at hSw); go_simp; try with_reducible rfl); (try simp only [Act.put, List.setIfInBounds_toArray, List.set_cons_zero, List.set_cons_succ]))
    (refine wpOrd_load55 _ rfl b1 (o1 + k * 11) [I a[k].ev.kind, I a[k].ev.node, I a[k].ev.arg, I a[k].ev.msg.node, I a[k].ev.msg.handler, I a[k].ev.msg.count, I a[k].ev.msg.index, I a[k].ev.msg.copy, .slice qa a[k].asks.length ca1, .bool a[k].obs, .slice qs a[k].sent.length cs1] rfl rfl rfl (fun w h => h.1) ?_; (try simp only [Act.put, List.setIfInBounds_toArray, List.set_cons_zero, List.set_cons_succ]))
    iterate 3 (refine wpOrd_take ?_ (by rfl) ?_ ?_; rotate_left; (intro w hSw; (try dsimp only at hSw); go_simp; try with_reducible rfl); (try simp only [Act.put, List.setIfInBounds_toArray, List.set_cons_zero, List.set_cons_succ]))
    (refine wpOrd_load55 _ rfl b2 (o2 + k * 11) [I b[k].ev.kind, I b[k].ev.node, I b[k].ev.arg, I b[k].ev.msg.node, I b[k].ev.msg.handler, I b[k].ev.msg.count, I b[k].ev.msg.index, I b[k].ev.msg.copy, .slice qa' b[k].asks.length ca2, .bool b[k].obs, .slice qs' b[k].sent.length cs2] rfl rfl rfl (fun w h => h.2) ?_; (try simp only [Act.put, List.setIfInBounds_toArray, List.set_cons_zero, List.set_cons_succ]))
    refine wpOrd_nil ?_
    go_wp2_with fail
    refine Hcmp.out.mono ?_
    rintro e w1 ⟨rfl, hB1⟩
    have hBw1 : Below w.heap.size w w1 := Below.then (w := w) (by repeat (first | exact Below.refl _ _ | assumption | refine Below.drew ?_ | refine below_drewN ?_ _ | refine Below.alloc ?_ (by simp <;> omega) _ | refine Below.setCell ?_ (by simp <;> omega) _)) hB1
    by_cases hki : k < i
    · have hz : lexL a[k].key b[k].key = 0 := by
        have h1 := Heq.out k hki
        rw [List.getElem?_eq_getElem hka, List.getElem?_eq_getElem hkb] at h1
        rw [Option.some.inj h1, lexL_self]
      rw [hz]
      clear hz
      go_wp2_with fail
      refine NoPanic.normal ?_
      go_wp2_with fail
      go_roundw
      case rel => exact ⟨k + 1, by omega, by go_num, hBw1⟩
      case measure => simp [intOf]; omega
    · have hke : k = i := by omega
      have hneg : lexL a[k].key b[k].key < 0 := by
        subst hke
        exact Hlt.out
      clear hki hke
      generalize lexL a[k].key b[k].key = c at hneg ⊢
      have hc0 : (c != 0) = true := by simp; omega
      have hc1 : decide (c < 0) = true := by simp; omega
      go_wp2_with fail
      refine NoPanic.normal ?_
      go_wp2_with fail
      go_ret
      exact ⟨rfl, hBw1⟩

def SwapKey (l : List Stp) : Prop := ∀ (k : Nat) (hk : k + 1 < l.length), depB l[k] l[k + 1] = false → ∀ hks : k < (swapL l k).length, lexL l[k].key (swapL l k)[k].key < 0
theorem swap_key (run : List Stp) : SwapKey (normS run) := by
  intro k hk hd hks
  have h1 := swapL_get (normS run) k hk k
  rw [if_pos rfl, List.getElem?_eq_getElem hks, List.getElem?_eq_getElem hk] at h1
  rw [Option.some.inj h1]
  exact normS_before run _ _ _ _ (swap_split (normS run) k hk).1 hd
theorem swap_same (l : List Stp) (k : Nat) (hk : k + 1 < l.length) : ∀ j, j < k → l[j]? = (swapL l k)[j]? := fun j hj => by
  rw [swapL_get l k hk j, if_neg (by omega), if_neg (by omega)]

set_option maxHeartbeats 4000000 in
set_option maxRecDepth 100000 in
theorem lawCanonical (l sl : List Int) (v0 v1 : Value) (w : World) (hl : IntSl w v0 l) (hs : IntSl w v1 sl) (hr : ∀ x ∈ l, InI64 x) (hr1 : ∀ x ∈ sl, InI64 x) :
    Calls Try.prog 6 #[v0, v1] w fun e w' => e = .returned (.bool true) ∧ Below w.heap.size w w' := by
  have H9 := Lib.hid (refRun l 12 v0 w hl hr (by omega))
  have Hr1 := Lib.hid hr1
  clear hr hl hr1
  go_enter Try.func6, Try.ntmps6
  go_wp2_with fail
  refine H9.out.mono ?_
  rintro e w1 ⟨u, run, rfl, hrun, hlen, hok, hB1⟩
  have Ho := Lib.hid (run_ok hlen (by omega) hok)
  have Hok := Lib.hid hok
  clear hok H9
  go_wp2_with fail
  refine (trNormal run _ _ hrun Ho.out.len Ho.out.asks Ho.out.sent).mono ?_
  rintro e w2 ⟨un, rfl, hn2, hB2⟩
  have hC2 := nextB hB1 hB2 (Nat.le_refl _)
  replace hrun := hrun.kept hB2 (Nat.le_refl _)
  have hnl : (normS run).length ≤ 12 := by rw [normS_len]; exact hlen
  have hnok : RunOk (normS run) := run_ok hnl (by omega) (fun s hs => Hok.out s (normS_mem run s hs))
  have Hno := Lib.hid hnok
  clear hnok
  obtain ⟨kn, cn, rfl, hnm⟩ := hn2.open
  go_wp2_with fail
  refine (refShuffle sl run _ _ _ (hs.kept hC2 (Nat.le_refl _)) Hr1.out hrun (by omega)).mono ?_
  rintro e w3 ⟨u3, run2, rfl, hrun2, hsw, hB3⟩
  have hC3 := nextB hC2 hB3 (Nat.le_refl _)
  replace hrun := hrun.kept hB3 (Nat.le_refl _)
  replace hn2 := hn2.kept hB3 (Nat.le_refl _)
  have hlen2 : run2.length ≤ 12 := by rw [hsw.length]; exact hlen
  have Ho2 := Lib.hid (run_ok hlen2 (by omega) (fun s hs' => Hok.out s ((hsw.mem s).1 hs')))
  have Hsw := Lib.hid hsw
  clear hsw
  go_wp2_with fail
  refine (trNormal run2 _ _ hrun2 Ho2.out.len Ho2.out.asks Ho2.out.sent).mono ?_
  rintro e w4 ⟨u4, rfl, hn4, hB4⟩
  rw [Hsw.out.norm] at hn4
  have hC4 := nextB hC3 hB4 (Nat.le_refl _)
  replace hrun := hrun.kept hB4 (Nat.le_refl _)
  replace hn2 := hn2.kept hB4 (Nat.le_refl _)
  go_wp2_with fail
  refine (sameRun _ _ _ _ _ hn2 hn4).mono ?_
  rintro e w5 ⟨rfl, hB5⟩
  rw [decide_eq_true rfl]
  have hC5 := nextB hC4 hB5 (Nat.le_refl _)
  replace hrun := hrun.kept hB5 (Nat.le_refl _)
  replace hn2 := hn2.kept hB5 (Nat.le_refl _)
  go_wp2_with fail
  refine (trNormal (normS run) _ _ hn2 Hno.out.len Hno.out.asks Hno.out.sent).mono ?_
  rintro e w6 ⟨u6, rfl, hn6, hB6⟩
  rw [normS_idem] at hn6
  have hC6 := nextB hC5 hB6 (Nat.le_refl _)
  replace hrun := hrun.kept hB6 (Nat.le_refl _)
  replace hn2 := hn2.kept hB6 (Nat.le_refl _)
  go_wp2_with fail
  refine (sameRun _ _ _ _ _ hn2 hn6).mono ?_
  rintro e w7 ⟨rfl, hB7⟩
  rw [decide_eq_true rfl]
  have hC7 := nextB hC6 hB7 (Nat.le_refl _)
  replace hrun := hrun.kept hB7 (Nat.le_refl _)
  replace hn2 := hn2.kept hB7 (Nat.le_refl _)
  have heq := trEquivalent (normS run) run _ _ _ hn2 hrun Hno.out Ho.out
  rw [decide_eq_true (normS_idem run)] at heq
  have Heq := Lib.hid heq
  clear heq
  go_wp2_with fail
  refine Heq.out.mono ?_
  rintro e w8 ⟨rfl, hB8⟩
  have hC8 := nextB hC7 hB8 (Nat.le_refl _)
  replace hn2 := hn2.kept hB8 (Nat.le_refl _)
  go_wp2_with fail
  obtain ⟨nf, hnf⟩ : ∃ nf, nf = normS run := ⟨_, rfl⟩
  have Hkey := Lib.hid (swap_key run)
  rw [← hnf] at hn2 hnl Hno Hkey ⊢
  have Hok2 := Lib.hid (show ∀ s ∈ nf, s.asks.length ≤ 1000000 from Hno.out.asks)
  clear hnf hnm Heq Hr1 Hsw hrun hs hn4 hn6 hrun2
  go_loopw [7] (fun p wr => ∃ k : Nat, k ≤ nf.length ∧ p = .int .i64 k ∧ Below w8.heap.size w8 wr) (fun p _ => nf.length - (intOf p).toNat)
  case atStart => exact ⟨0, by omega, rfl, Below.refl _ _⟩
  case round =>
    obtain ⟨k, hk, rfl, hB⟩ := hrel
    have hnr := hn2.kept hB (Nat.le_refl _)
    by_cases hlt : k + 1 < nf.length
    · go_wp2_with fail
      refine (depSwap nf k _ _ hnr hlt Hno.out).mono ?_
      rintro e w9 ⟨ux, c, rfl, hB9, hres⟩
      have hBn := nextB hB hB9 (Nat.le_refl _)
      rcases hres with ⟨rfl, hd, hx⟩ | rfl
      · have hsl := swapL_length nf k hlt
        have hkl : k < (swapL nf k).length := by omega
        have hbef := lawBefore nf (swapL nf k) k _ _ _ (hnr.kept hB9 (Nat.le_refl _)) hx (by omega) hkl (swap_same nf k hlt) (Hkey.out k hlt hd hkl) Hok2.out (fun s hs => Hok2.out s (swapL_mem nf k hlt s hs))
        have Hbef := Lib.hid hbef
        obtain ⟨kx, cx, rfl, _⟩ := hx.open
        clear hbef hx hd hkl hsl
        go_wp2_with fail
        refine Hbef.out.mono ?_
        rintro e w10 ⟨rfl, hB10⟩
        have hBn2 := nextB hBn hB10 (Nat.le_refl _)
        go_wp2_with fail
        go_roundw
        case rel => exact ⟨k + 1, by omega, by go_num, hBn2⟩
        case measure => simp [intOf]; omega
      · go_wp2_with fail
        go_roundw
        case rel => exact ⟨k + 1, by omega, by go_num, hBn⟩
        case measure => simp [intOf]; omega
    · have hCr := nextB hC8 hB (Nat.le_refl _)
      go_wp2_with fail
      refine (lives _).mono ?_
      rintro e w9 ⟨rfl, hB9⟩
      have hC9 := nextB hCr hB9 (Nat.le_refl _)
      go_wp2_with fail
      go_ret
      exact ⟨rfl, hC9⟩

end Go.Proofs.Ytaedfidfcoigoaa
