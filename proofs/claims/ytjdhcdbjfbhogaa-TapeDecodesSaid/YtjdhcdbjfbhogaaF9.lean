/- The reference's reader: Fail, End, Uint, Back, Int. -/
import Derived.Test.YtjdhcdbjfbhogaaW5
import Derived.Deep.CutRange
namespace Go.Proofs.Ytjdhcdbjfbhogaa
open Go.RowKit

set_option maxRecDepth 100000 in
theorem refFail (s : Rd) (p : Nat) (e : Int) (w : World) (h : InAt w p s) (hf : s.fine) :
    Calls Try.prog 57 #[.pointer (some ⟨p, 0, none⟩), I e] w fun r w' => r = .returned (.tuple #[]) ∧ InAt w' p (s.fail e) ∧ w.grownBy w' (some p) := by
  obtain ⟨v, hb⟩ := h.blk
  have c1 := hb.cell 1
  have f1 := hb.frozen 1
  have H := Lib.hid h
  have Hf := Lib.hid hf
  clear h hf hb
  by_cases h0 : s.err = 0
  · have H0 := Lib.hid h0
    rw [h0] at c1
    clear h0
    go_enter Try.func57, Try.ntmps57
    go_wp2_with fail
    refine bodyPost_end (results_none rfl _ _ _) rfl ?_
    exact ⟨rfl, H.out.fail e H0.out Hf.out, grown_set' _ _ _⟩
  · have q : ¬ s.err = 0 := h0
    go_enter Try.func57, Try.ntmps57
    go_wp2_with fail
    refine bodyPost_end (results_none rfl _ _ _) rfl ?_
    rw [Rd.fail_of e h0]
    exact ⟨rfl, H.out, World.grownBy.refl _ _⟩
set_option maxHeartbeats 1000000 in
set_option maxRecDepth 100000 in
theorem refEnd (s : Rd) (p : Nat) (w : World) (h : InAt w p s) (hf : s.fine) :
    Calls Try.prog 58 #[.pointer (some ⟨p, 0, none⟩)] w fun r w' => r = .returned (I s.stop) ∧ w' = w := by
  cases s with
  | ok b =>
    obtain ⟨a, c, hb, _⟩ := h
    have c0 := hb.cell 0
    have c1 := hb.cell 1
    clear hb
    go_enter Try.func58, Try.ntmps58
    cases b with
    | nil =>
      go_wp2_with fail
      go_ret
      exact ⟨rfl, rfl⟩
    | cons x b =>
      go_wp2_with fail
      go_ret
      exact ⟨rfl, rfl⟩
  | bad e =>
    obtain ⟨v, hb⟩ := h
    have c1 := hb.cell 1
    have h0 : ¬ e = 0 := hf.1
    clear hb hf
    go_enter Try.func58, Try.ntmps58
    go_wp2_with fail
    go_ret
    exact ⟨rfl, rfl⟩
set_option maxRecDepth 100000 in
theorem refBack (z : Nat) (w : World) (h : z < 18446744073709551616) :
    Calls Try.prog 90 #[.int .u64 z] w fun r w' => r = .returned (I (back z)) ∧ w' = w := by
  by_cases h1 : z % 2 = 1
  · have e : back z = -((z / 2 : Nat) : Int) - 1 := by unfold back; rw [if_pos h1]
    rw [e]
    go_enter Try.func90, Try.ntmps90
    go_wp2_with fail
    go_ret
    exact ⟨ret_int (by omega), rfl⟩
  · have e : back z = ((z / 2 : Nat) : Int) := by unfold back; rw [if_neg h1]
    rw [e]
    go_enter Try.func90, Try.ntmps90
    go_wp2_with fail
    go_ret
    exact ⟨ret_int (by omega), rfl⟩

theorem ref_sum {m k : Nat} {x : Int} (hx : IsByte x) (hk : k ≤ 9) (h9 : k = 9 → x ≤ 1) (hm : m < 128 ^ k) : IntKind.u64.wrap ((m : Int) + IntKind.u64.wrap (x % 128 * ((128 ^ k : Nat) : Int))) = ((m + (x % 128).toNat * 128 ^ k : Nat) : Int) := by
  obtain ⟨h0, h1⟩ := hx
  obtain ⟨y, hy⟩ : ∃ y : Nat, x % 128 = y := ⟨(x % 128).toNat, by omega⟩
  have hy1 : y < 128 := by omega
  have hy9 : k = 9 → y ≤ 1 := fun e => by have := h9 e; omega
  rw [hy, Int.toNat_natCast]
  have hp := pow_cases hk
  have hs := small_mul hk hy1 hy9
  have h10 : y ≤ 1 ∨ k ≤ 8 := by omega
  clear hy9 h9 hk hy
  generalize 128 ^ k = P at hp hs hm ⊢
  have e1 : (y : Int) * (P : Int) = ((y * P : Nat) : Int) := by push_cast; rfl
  rw [e1]
  have h3 : m + y * P < 18446744073709551616 := by
    rcases hp with ⟨a, b⟩ | ⟨a, b⟩ | ⟨a, b⟩ | ⟨a, b⟩ | ⟨a, b⟩ | ⟨a, b⟩ | ⟨a, b⟩ | ⟨a, b⟩ | ⟨a, b⟩ | ⟨a, b⟩ <;> subst b <;> omega
  generalize y * P = Q at hs h3 ⊢
  rw [IntKind.wrap_u64, IntKind.wrap_u64]
  omega
theorem ref_unit {k : Nat} (hk : k + 1 ≤ 9) : IntKind.u64.wrap (((128 ^ k : Nat) : Int) * 128) = ((128 ^ (k + 1) : Nat) : Int) := by
  have hp := pow_cases (show k ≤ 9 by omega)
  have e : 128 ^ (k + 1) = 128 ^ k * 128 := Nat.pow_succ _ _
  rw [e]
  have h8 : k ≤ 8 := by omega
  clear hk e
  generalize 128 ^ k = P at hp ⊢
  rw [IntKind.wrap_u64]
  rcases hp with ⟨a, b⟩ | ⟨a, b⟩ | ⟨a, b⟩ | ⟨a, b⟩ | ⟨a, b⟩ | ⟨a, b⟩ | ⟨a, b⟩ | ⟨a, b⟩ | ⟨a, b⟩ | ⟨a, b⟩ <;> subst b <;> omega
theorem UAt.lt {b0 b : List Int} {k m : Nat} (h : UAt b0 k m (.ok b)) : m < 128 ^ k := by
  obtain ⟨_, ⟨m', hm', hm, _⟩, _⟩ := h
  obtain rfl : m = m' := by omega
  exact hm
theorem UAt.at {b0 b b' : List Int} {k : Nat} {m : Int} (h : UAt b0 k m (.ok b)) (e : b = b') : UAt b0 k m (.ok b') := e ▸ h
theorem UAt.nextR {b0 b : List Int} {k m : Nat} {x : Int} (h : UAt b0 k m (.ok (x :: b))) (hb : ¬ ((k = 9 ∧ 1 < x) ∨ (0 < k ∧ x = 0))) (hx : ¬ x < 128) :
    UAt b0 (k + 1) ((m + (x % 128).toNat * 128 ^ k : Nat) : Int) (.ok b) := by
  obtain ⟨h1, ⟨m', hm', hm, h2⟩, h3⟩ := h
  obtain rfl : m = m' := by omega
  rw [readU_cons, if_neg hb, if_neg hx] at h2
  have hx9 : k ≠ 9 := by intro e; apply hb; left; omega
  refine ⟨by omega, ⟨_, rfl, ?_, h2⟩, fun c hc => h3 c (by simp [hc])⟩
  have h4 : (x % 128).toNat * 128 ^ k ≤ 127 * 128 ^ k := Nat.mul_le_mul_right _ (by omega)
  rw [Nat.pow_succ]
  omega
theorem UAt.lastR {b0 b : List Int} {k m : Nat} {x : Int} (h : UAt b0 k m (.ok (x :: b))) (hb : ¬ ((k = 9 ∧ 1 < x) ∨ (0 < k ∧ x = 0))) (hx : x < 128) :
    (Rd.ok b0).uint = (m + (x % 128).toNat * 128 ^ k, .ok b) := by
  obtain ⟨h1, ⟨m', hm', hm, h2⟩, h3⟩ := h
  obtain rfl : m = m' := by omega
  rw [readU_cons, if_neg hb, if_pos hx] at h2
  rw [Rd.uint_ok, ← h2]
theorem UAt.badR {b0 b : List Int} {k m : Nat} {x : Int} (h : UAt b0 k m (.ok (x :: b))) (hb : (k = 9 ∧ 1 < x) ∨ (0 < k ∧ x = 0)) : (Rd.ok b0).uint = (0, .bad 8) := by
  obtain ⟨_, ⟨m', _, _, h2⟩, _⟩ := h
  rw [readU_cons, if_pos hb] at h2
  rw [Rd.uint_ok, ← h2]
theorem UAt.nilR {b0 : List Int} {k m : Nat} (h : UAt b0 k m (.ok [])) : (Rd.ok b0).uint = (0, .bad 7) := by
  obtain ⟨_, ⟨m', _, _, h2⟩, _⟩ := h
  rw [Rd.uint_ok, ← h2]
  rfl
theorem inAt_nil {w : World} {p bb o n c : Nat} {v : Value} {b : List Int} (hb : Blk w p #[v, I 0]) (hn : n = 0) (hbe : b = []) (hne : bb < p) : InAt (w.setCell ⟨p, 0, none⟩ (.slice (some ⟨bb, o, none⟩) n c)) p (.ok b) := by
  subst hn hbe
  exact ⟨_, _, hb.set 0 _, Flat.nil _ _ _ _, Nat.zero_le _, fun y hy => by cases hy; exact hne⟩
theorem inAt_drop {w : World} {p : Nat} {bb o c k : Nat} {b0 : List Int} (hb : Blk w p #[.slice (some ⟨bb, o, none⟩) b0.length c, I 0]) (hs : BySl w (.slice (some ⟨bb, o, none⟩) b0.length c) b0) (hc : b0.length ≤ c) (hk : k < b0.length) (hne : bb < p) (a : Option Addr) (ha : a = if c = k + 1 then some ⟨bb, o, none⟩ else some ⟨bb, o + (k + 1), none⟩) :
    InAt (w.setCell ⟨p, 0, none⟩ (.slice a (b0.length - (k + 1)) (c - (k + 1)))) p (.ok (b0.drop (k + 1))) := by
  have hg := grown_set' w ⟨p, 0, none⟩ (.slice a (b0.length - (k + 1)) (c - (k + 1)))
  have hl : (b0.drop (k + 1)).length = b0.length - (k + 1) := List.length_drop ..
  by_cases h : c = k + 1
  · rw [if_pos h] at ha
    subst ha
    have e : b0.drop (k + 1) = [] := List.drop_eq_nil_of_le (by omega)
    have e2 : b0.length - (k + 1) = 0 := by omega
    rw [e, e2]
    exact ⟨_, _, hb.set 0 _, Flat.nil _ _ _ _, Nat.zero_le _, fun y hy => by cases hy; exact hne⟩
  · rw [if_neg h] at ha
    subst ha
    have h2 := Flat.drop (c' := c - (k + 1)) (show Flat w 1 (.slice (some ⟨bb, o, none⟩) b0.length c) b0.length (bv b0) from hs) (j := k + 1) (by omega)
    simp only [Nat.mul_one] at h2
    have h3 : Flat w 1 (.slice (some ⟨bb, o + (k + 1), none⟩) (b0.length - (k + 1)) (c - (k + 1))) (b0.drop (k + 1)).length (bv (b0.drop (k + 1))) := by
      rw [hl]
      unfold bv
      rw [List.map_drop]
      exact h2
    refine ⟨some ⟨bb, o + (k + 1), none⟩, c - (k + 1), ?_, ?_, by rw [hl]; omega, fun y hy => by cases hy; exact hne⟩
    · rw [hl]; exact hb.set 0 _
    · have := Flat.grownO h3 hg (fun y hy => by cases hy; intro e; simp at e; omega)
      unfold BySl
      rw [hl] at this ⊢
      exact this

set_option maxHeartbeats 4000000 in
set_option maxRecDepth 100000 in
theorem refGetU (s : Rd) (p : Nat) (w : World) (h : InAt w p s) (hf : s.fine) :
    Calls Try.prog 79 #[.pointer (some ⟨p, 0, none⟩)] w fun r w' => r = .returned (.int .u64 s.uint.1) ∧ InAt w' p s.uint.2 ∧ w.grownBy w' (some p) := by
  cases s with
  | bad e =>
    have H := Lib.hid h
    obtain ⟨v, hb⟩ := h
    have c1 := hb.cell 1
    have h0 : ¬ e = 0 := hf.1
    clear hb hf
    go_enter Try.func79, Try.ntmps79
    go_wp2_with fail
    go_loop [3, 4, 5] (fun n u i => n = .int .u64 0 ∧ u = .int .u64 1 ∧ i = .int .i64 0) (fun _ _ _ => 0)
    case atStart => exact ⟨rfl, rfl, rfl⟩
    case round =>
      obtain ⟨rfl, rfl, rfl⟩ := hrel
      go_wp2_with fail
      go_ret
      exact ⟨rfl, H.out, World.grownBy.refl _ _⟩
  | ok b0 =>
    have H := Lib.hid h
    have Hf := Lib.hid (show ∀ c ∈ b0, IsByte c from hf)
    have HF := Lib.hid (fun e => refFail (.ok b0) p e w h hf)
    obtain ⟨a, c, hb, hs, hc, hne⟩ := h
    obtain ⟨_, _, _, hml⟩ := Flat.open hs
    have c0 := hb.cell 0
    have c1 := hb.cell 1
    have f0 := hb.frozen 0
    have Hb := Lib.hid hb
    have Hs := Lib.hid hs
    have Hne := Lib.hid hne
    clear hf hb hs hne
    go_enter Try.func79, Try.ntmps79
    go_wp2_with fail
    go_loop [3, 4, 5] (fun n u i => ∃ (k m P : Nat), k ≤ 9 ∧ k ≤ b0.length ∧ n = .int .u64 m ∧ u = .int .u64 P ∧ i = .int .i64 k ∧ Hid (P = 128 ^ k) ∧ Hid (UAt b0 k m (.ok (b0.drop k)))) (fun _ _ i => 11 - (intOf i).toNat)
    case atStart => exact ⟨0, 0, 1, by omega, by omega, rfl, rfl, rfl, Lib.hid (by simp), Lib.hid ⟨by omega, ⟨0, rfl, by simp, rfl⟩, Hf.out⟩⟩
    case round =>
      obtain ⟨k, m, P, hk9, hkl, rfl, rfl, rfl, HP, HU⟩ := hrel
      by_cases hlt : k < b0.length
      · obtain ⟨bb, o, rfl, x0⟩ := Hs.out.at (i := k) (x := b0[k]) (by simp [hlt])
        have hx := Hf.out _ (List.getElem_mem hlt)
        have Hd := Lib.hid (List.drop_eq_getElem_cons hlt)
        generalize b0[k] = x at x0 hx Hd
        obtain ⟨hx0, hx1⟩ := hx
        by_cases h9 : (k : Int) = 9
        · obtain rfl : k = 9 := by omega
          by_cases hx2 : 1 < x
          · go_wp2_with (go_at_call 57; refine (HF.out 8).mono ?_; rintro r w1 ⟨rfl, h1, hg⟩)
            go_ret
            rw [UAt.badR (HU.out.at Hd.out) (.inl ⟨by omega, hx2⟩)]
            exact ⟨rfl, h1, hg⟩
          · have hx3 : x < 128 := by omega
            by_cases hxz : x = 0
            · go_wp2_with (go_at_call 57; refine (HF.out 8).mono ?_; rintro r w1 ⟨rfl, h1, hg⟩)
              go_ret
              rw [UAt.badR (HU.out.at Hd.out) (.inr ⟨by omega, hxz⟩)]
              exact ⟨rfl, h1, hg⟩
            · have hsum := ref_sum (m := m) (k := 9) ⟨hx0, hx1⟩ hk9 (by intro e; omega) HU.out.lt
              have hu := UAt.lastR (HU.out.at Hd.out) (by omega) hx3
              rw [← HP.out] at hsum hu
              have Hsum := Lib.hid hsum
              have Hu := Lib.hid hu
              clear hsum hu
              by_cases hck : c = 9 + 1
              · go_wp2_with fail
                go_ret
                rw [Hsum.out, Hu.out]
                exact ⟨rfl, inAt_nil Hb.out (by omega) (List.drop_eq_nil_of_le (by omega)) (Hne.out _ rfl), grown_set' _ _ _⟩
              · go_wp2_with fail
                go_ret
                rw [Hsum.out, Hu.out]
                exact ⟨rfl, inAt_drop Hb.out Hs.out hc hlt (Hne.out _ rfl) _ (by rw [if_neg hck]), grown_set' _ _ _⟩
        · by_cases hk0 : (0 : Int) < k
          · by_cases hxz : x = 0
            · go_wp2_with (go_at_call 57; refine (HF.out 8).mono ?_; rintro r w1 ⟨rfl, h1, hg⟩)
              go_ret
              rw [UAt.badR (HU.out.at Hd.out) (.inr ⟨by omega, hxz⟩)]
              exact ⟨rfl, h1, hg⟩
            · by_cases hx3 : x < 128
              · have hsum := ref_sum (m := m) (k := k) ⟨hx0, hx1⟩ hk9 (by intro e; omega) HU.out.lt
                have hu := UAt.lastR (HU.out.at Hd.out) (by omega) hx3
                rw [← HP.out] at hsum hu
                have Hsum := Lib.hid hsum
                have Hu := Lib.hid hu
                clear hsum hu
                by_cases hck : c = k + 1
                · go_wp2_with fail
                  go_ret
                  rw [Hsum.out, Hu.out]
                  exact ⟨rfl, inAt_nil Hb.out (by omega) (List.drop_eq_nil_of_le (by omega)) (Hne.out _ rfl), grown_set' _ _ _⟩
                · go_wp2_with fail
                  go_ret
                  rw [Hsum.out, Hu.out]
                  exact ⟨rfl, inAt_drop Hb.out Hs.out hc hlt (Hne.out _ rfl) _ (by rw [if_neg hck]), grown_set' _ _ _⟩
              · have hsum := ref_sum (m := m) (k := k) ⟨hx0, hx1⟩ hk9 (by intro e; omega) HU.out.lt
                have hun := ref_unit (k := k) (by omega)
                have hu := UAt.nextR (HU.out.at Hd.out) (by omega) hx3
                rw [← HP.out] at hsum hun hu
                have Hsum := Lib.hid hsum
                have Hun := Lib.hid hun
                have Hu := Lib.hid hu
                clear hsum hun hu
                go_wp2_with fail
                go_round
                case rel => exact ⟨k + 1, _, _, by omega, by omega, by rw [Hsum.out], by rw [Hun.out], by go_num, Lib.hid rfl, Hu⟩
                case measure => simp [intOf]; omega
          · by_cases hx3 : x < 128
            · have hsum := ref_sum (m := m) (k := k) ⟨hx0, hx1⟩ hk9 (by intro e; omega) HU.out.lt
              have hu := UAt.lastR (HU.out.at Hd.out) (by omega) hx3
              rw [← HP.out] at hsum hu
              have Hsum := Lib.hid hsum
              have Hu := Lib.hid hu
              clear hsum hu
              by_cases hck : c = k + 1
              · go_wp2_with fail
                go_ret
                rw [Hsum.out, Hu.out]
                exact ⟨rfl, inAt_nil Hb.out (by omega) (List.drop_eq_nil_of_le (by omega)) (Hne.out _ rfl), grown_set' _ _ _⟩
              · go_wp2_with fail
                go_ret
                rw [Hsum.out, Hu.out]
                exact ⟨rfl, inAt_drop Hb.out Hs.out hc hlt (Hne.out _ rfl) _ (by rw [if_neg hck]), grown_set' _ _ _⟩
            · have hsum := ref_sum (m := m) (k := k) ⟨hx0, hx1⟩ hk9 (by intro e; omega) HU.out.lt
              have hun := ref_unit (k := k) (by omega)
              have hu := UAt.nextR (HU.out.at Hd.out) (by omega) hx3
              rw [← HP.out] at hsum hun hu
              have Hsum := Lib.hid hsum
              have Hun := Lib.hid hun
              have Hu := Lib.hid hu
              clear hsum hun hu
              go_wp2_with fail
              go_round
              case rel => exact ⟨k + 1, _, _, by omega, by omega, by rw [Hsum.out], by rw [Hun.out], by go_num, Lib.hid rfl, Hu⟩
              case measure => simp [intOf]; omega
      · obtain rfl : k = b0.length := by omega
        have hu := HU.out
        rw [List.drop_of_length_le (Nat.le_refl _)] at hu
        have Hu := Lib.hid (UAt.nilR hu)
        clear hu
        go_wp2_with (go_at_call 57; refine (HF.out 7).mono ?_; rintro r w1 ⟨rfl, h1, hg⟩)
        go_ret
        rw [Hu.out]
        exact ⟨rfl, h1, hg⟩
end Go.Proofs.Ytjdhcdbjfbhogaa
