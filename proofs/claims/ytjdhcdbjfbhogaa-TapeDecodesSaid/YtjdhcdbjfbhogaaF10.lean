/- The reference's reader: Int; count, read. -/
import Derived.Test.YtjdhcdbjfbhogaaF9
import Derived.Test.YtjdhcdbjfbhogaaY1
namespace Go.Proofs.Ytjdhcdbjfbhogaa
open Go.RowKit

set_option maxRecDepth 100000 in
theorem refGetI (s : Rd) (p : Nat) (w : World) (h : InAt w p s) (hf : s.fine) :
    Calls Try.prog 80 #[.pointer (some ⟨p, 0, none⟩)] w fun r w' => r = .returned (I s.int.1) ∧ InAt w' p s.int.2 ∧ w.grownBy w' (some p) := by
  have HU := Lib.hid (refGetU s p w h hf)
  have Hlt := Lib.hid (Rd.uint_lt hf)
  clear h hf
  go_enter Try.func80, Try.ntmps80
  go_wp2_with (first | (go_at_call 79; refine HU.out.mono ?_; rintro e w1 ⟨rfl, h1, h2⟩; have H1 := Lib.hid h1; have H2 := Lib.hid h2; clear h1 h2) | (go_at_call 90; refine (refBack _ _ Hlt.out).mono ?_; rintro e w2 ⟨rfl, rfl⟩))
  go_ret
  exact ⟨rfl, H1.out, H2.out⟩
set_option maxHeartbeats 1000000 in
set_option maxRecDepth 100000 in
theorem refCount (s : Rd) (p most : Nat) (w : World) (h : InAt w p s) (hf : s.fine) (hm : most ≤ 100000) :
    Calls Try.prog 54 #[.pointer (some ⟨p, 0, none⟩), I most] w fun r w' => r = .returned (I (s.count most).1) ∧ (s.count most).1 ≤ most ∧ InAt w' p (s.count most).2 ∧ w.grownBy w' (some p) := by
  have HU := Lib.hid (refGetU s p w h hf)
  have Hf := Lib.hid (Rd.fine_uint hf)
  have hul := Rd.uint_lt hf
  clear h hf
  by_cases hgt : most < s.uint.1
  · have hgt' : (most : Int) < s.uint.1 := by omega
    have hc : s.count most = (0, s.uint.2.fail 2) := if_pos hgt
    rw [hc]
    clear hc hgt
    go_enter Try.func54, Try.ntmps54
    go_wp2_with (first | (go_at_call 79; refine HU.out.mono ?_; rintro e w1 ⟨rfl, h1, h2⟩; have H1 := Lib.hid h1; have H2 := Lib.hid h2; clear h1 h2) | (go_at_call 57; refine (refFail _ _ 2 _ H1.out Hf.out).mono ?_; rintro e w2 ⟨rfl, h3, h4⟩; have H3 := Lib.hid h3; have H4 := Lib.hid h4; clear h3 h4))
    go_ret
    exact ⟨rfl, Nat.zero_le _, H3.out, H2.out.trans H4.out⟩
  · have hgt' : ¬ (most : Int) < s.uint.1 := by omega
    have hle : s.uint.1 ≤ most := by omega
    have hc : s.count most = s.uint := if_neg hgt
    rw [hc]
    clear hc hgt
    go_enter Try.func54, Try.ntmps54
    go_wp2_with (go_at_call 79; refine HU.out.mono ?_; rintro e w1 ⟨rfl, h1, h2⟩; have H1 := Lib.hid h1; have H2 := Lib.hid h2; clear h1 h2)
    go_ret
    exact ⟨rfl, hle, H1.out, H2.out⟩
/-- The first k numbers that are read. -/
def Rd.firsts (s : Rd) (k : Nat) : List Int := (List.range k).map s.nth
theorem Rd.firsts_snoc (s : Rd) (k : Nat) : s.firsts (k + 1) = s.firsts k ++ [s.nth k] := by simp [Rd.firsts, List.range_succ]
theorem Rd.firsts_length (s : Rd) (k : Nat) : (s.firsts k).length = k := by simp [Rd.firsts]
set_option maxHeartbeats 2000000 in
set_option maxRecDepth 100000 in
theorem refRead (s : Rd) (p many : Nat) (w : World) (h : InAt w p s) (hf : s.fine) (hm : many ≤ 1000) :
    Calls Try.prog 55 #[.pointer (some ⟨p, 0, none⟩), I many] w fun r w' => ∃ u, r = .returned u ∧ w'.ownsRow w.heap.size 3 1 u many (iv (s.firsts many)) ∧ InAt w' p (s.after many) ∧ w.grownBy w' (some p) := by
  have H := Lib.hid h
  have Hf := Lib.hid hf
  have hpl := h.lt
  clear h hf
  go_enter Try.func55, Try.ntmps55
  go_wp2_with fail
  go_loopw [5, 6] (fun y i wr => ∃ (u : Value) (k : Nat), y = u ∧ k ≤ many ∧ i = .int .i64 k ∧ Hid (wr.ownsRow w.heap.size 3 1 u k (iv (s.firsts k))) ∧ Hid (InAt wr p (s.after k)) ∧ Hid (w.grownBy wr (some p))) (fun _ i _ => many - (intOf i).toNat)
  case atStart => exact ⟨_, 0, rfl, by omega, rfl, Lib.hid (World.ownsRow_nil _ _ _ _), H, Lib.hid (World.grownBy.refl _ _)⟩
  case round =>
    obtain ⟨u, k, hu, hk, rfl, Ho, HI, Hg⟩ := hrel
    have hu := hu.symm
    subst hu
    have hzr := Hg.out.size
    by_cases hlt : k < many
    · have HN := Lib.hid (refGetI (s.after k) p wr HI.out (Rd.fine_after Hf.out k))
      have Hs := Lib.hid (s.firsts_snoc k)
      obtain ⟨n, hn⟩ : ∃ n, n = (s.after k).int.1 := ⟨_, rfl⟩
      rw [← hn] at HN
      have Hn := Lib.hid (show s.nth k = n from hn.symm)
      have hub : ∀ j, u.ownBlock = some j → w.heap.size ≤ j := fun j hj => (Ho.out.lt j hj).1
      have Hub := Lib.hid hub
      clear hn hub
      go_wp2_with (first | (go_at_call 80; refine HN.out.mono ?_; rintro e w1 ⟨rfl, h1, h2⟩; have H1 := Lib.hid h1; have H2 := Lib.hid h2; have Ho1 := Lib.hid (Ho.out.kept h2 (own_ne Ho.out hpl)); have hz1 := h2.size; clear h1 h2) | (at_builtin; go_must (refine wpList_appB rfl _ _ 22 rfl 3 _ 1 8 Try.underlying22 info3 rfl (by omega) (by omega) w.heap.size u k _ rfl (Ho1.out.alloc _) w1.heap.size 1 1 #[I n] 3 rfl (heap_alloc_new _ _) rfl rfl (by omega) (by omega) (by simp; omega) ?_); intro g6 cap6 x6 hg6a hg6b hg6c ho6 hgr6 hB6))
      have hga := (World.grownBy_alloc w1 (.cells #[I n] 3) (some p))
      have hI6 := ((H1.out.below (boxed w1 #[I n] 3).2.1)).grown hgr6 (fun j hj => by have := Hub.out j hj; omega)
      have hG6 := World.grownBy.andThen ((Hg.out.trans H2.out).trans hga) hgr6 (fun j hj => .inl (Hub.out j hj))
      go_roundw
      case rel => exact ⟨_, k + 1, rfl, by omega, by go_num, Lib.hid (by rw [Hs.out, Hn.out, iv, List.map_append]; exact ho6), Lib.hid hI6, Lib.hid hG6⟩
      case measure => simp [intOf]; omega
    · obtain rfl : k = many := by omega
      go_wp2_with fail
      go_ret
      exact ⟨_, rfl, Ho.out, HI.out, Hg.out⟩
end Go.Proofs.Ytjdhcdbjfbhogaa
