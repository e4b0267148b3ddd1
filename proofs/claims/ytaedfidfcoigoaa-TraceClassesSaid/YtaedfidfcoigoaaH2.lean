/- The reference's hash of the word trace and a row of integers. -/
import Derived.Test.YtaedfidfcoigoaaH1
import Derived.Test.YtaedfidfcoigoaaP7
import Derived.Lib.ConvBytes
namespace Go.Proofs.Ytaedfidfcoigoaa
open Go.RowKit

set_option maxHeartbeats 4000000 in
set_option maxRecDepth 100000 in
theorem refWords (g c : Nat) (w : World) (c0 : w.cell? ⟨g, 0, none⟩ = some (.int .u8 116)) (c1 : w.cell? ⟨g, 1, none⟩ = some (.int .u8 114)) (c2 : w.cell? ⟨g, 2, none⟩ = some (.int .u8 97)) (c3 : w.cell? ⟨g, 3, none⟩ = some (.int .u8 99)) (c4 : w.cell? ⟨g, 4, none⟩ = some (.int .u8 101)) : Calls Try.prog 78 #[.slice (some ⟨g, 0, none⟩) 5 c] w fun e w' => ∃ u, e = .returned u ∧ w'.ownsRow w.heap.size 42 1 u 1 [.int .u64 435459027572] ∧ Below w.heap.size w w' := by
  go_enter Try.func78, Try.ntmps78
  go_wp2_with fail
  refine wp_loop_rounds 2 ?_
  rw [rounds_succ]
  go_wp2_with fail
  refine wp_loop_rounds 6 ?_
  rw [rounds_succ]
  go_wp2_with fail
  rw [rounds_succ]
  go_wp2_with fail
  rw [rounds_succ]
  go_wp2_with fail
  rw [rounds_succ]
  go_wp2_with fail
  rw [rounds_succ]
  go_wp2_with fail
  rw [rounds_succ]
  go_wp2_with (at_builtin; go_must (refine wpList_appB rfl _ _ 92 rfl 42 _ 1 8 Try.underlying92 info42 rfl (by omega) (by omega) w.heap.size _ 0 [] rfl (World.ownsRow_nil _ _ _ _) w.heap.size 1 1 #[.int .u64 435459027572] 42 rfl (heap_alloc_new _ _) rfl rfl (by omega) (by omega) (by simp) ?_); intro g' cap w2 hg1 hg2 hg3 ho hgr hB)
  rw [rounds_succ]
  go_wp2_with fail
  go_ret
  exact ⟨_, rfl, ho, ((Below.refl _ _).alloc (Nat.le_refl _) _).trans hB⟩

/-- The hash of the word trace and a row of integers. -/
def sumI (l : List Int) : Int := mixI (l.foldl (fun h x => mixI h (IntKind.u64.wrap x)) (mixI (mixI (mixI 0 435459027572) 5) l.length)) 0

set_option maxHeartbeats 4000000 in
set_option maxRecDepth 100000 in
theorem refSum (l : List Int) (v : Value) (w : World) (hl : IntSl w v l) (hn : l.length ≤ 100000000) : Calls Try.prog 55 #[.string { data := #[116, 114, 97, 99, 101] }, v] w fun e w' => e = .returned (.int .u64 (sumI l)) ∧ Below w.heap.size w w' := by
  obtain ⟨ka, ca, rfl, hml⟩ := hl.open
  have hw0 : IntKind.u64.wrap (l.length : Int) = (l.length : Int) := u64_in _ ⟨by omega, by omega⟩
  have hconv : ∀ W : World, (convert 9 109 (.string { data := #[116, 114, 97, 99, 101] })).run Try.prog W = .ok (.slice (some ⟨W.heap.size, 0, none⟩) 5 (grownCap W 5 0 5)) (Lib.bytesWorld W 5 { data := #[116, 114, 97, 99, 101] }) := fun W => Lib.run_convert_string_bytes W 9 109 5 { data := #[116, 114, 97, 99, 101] } Try.underlying9 Try.underlying109 Try.underlying5
  go_enter Try.func55, Try.ntmps55
  go_wp2_with fail
  have hB0 : Below w.heap.size w (Lib.bytesWorld w 5 { data := #[116, 114, 97, 99, 101] }) := ⟨rfl, rfl, rfl, by rw [Lib.bytesWorld_size]; omega, fun j hj => Lib.bytesWorld_at_old w 5 _ j hj⟩
  refine (refWords w.heap.size _ (Lib.bytesWorld w 5 { data := #[116, 114, 97, 99, 101] }) (Lib.bytesWorld_cell w 5 _ 0 (by decide)) (Lib.bytesWorld_cell w 5 _ 1 (by decide)) (Lib.bytesWorld_cell w 5 _ 2 (by decide)) (Lib.bytesWorld_cell w 5 _ 3 (by decide)) (Lib.bytesWorld_cell w 5 _ 4 (by decide))).mono ?_
  rintro e w1 ⟨u, rfl, hown, hB1⟩
  have hB := hB0.trans (hB1.mono hB0.size)
  clear hconv
  obtain ⟨a, cc, rfl, _⟩ := (Flat.of_owns hown).open
  obtain ⟨b, o, rfl, hc⟩ := (Flat.of_owns hown).cells (by simp)
  have c0 : w1.cell? ⟨b, o, none⟩ = some (.int .u64 435459027572) := hc 0 _ rfl
  clear hc hown
  go_wp2_with fail
  refine wp_loop_rounds 2 ?_
  rw [rounds_succ]
  go_wp2_with (go_at_call 79; refine (mix79 _ _ _).mono ?_; rintro e w' ⟨rfl, rfl⟩)
  rw [rounds_succ]
  go_wp2_with (go_at_call 79; refine (mix79 _ _ _).mono ?_; rintro e w' ⟨rfl, rfl⟩)
  obtain ⟨h0, hh0⟩ : ∃ h0, h0 = mixI (mixI (mixI 0 435459027572) 5) l.length := ⟨_, rfl⟩
  rw [← hh0]
  have Hh0 := Lib.hid hh0
  clear hh0 c0
  obtain ⟨f, hf⟩ : ∃ f : Int → Int → Int, f = fun h x => mixI h (IntKind.u64.wrap x) := ⟨_, rfl⟩
  have Hf := Lib.hid hf
  clear hf
  go_loopw [5, 8] (fun p i wr => ∃ k : Nat, k ≤ l.length ∧ i = .int .i64 k ∧ p = .int .u64 ((l.take k).foldl f h0) ∧ wr = w1) (fun _ i _ => l.length - (intOf i).toNat)
  case atStart => exact ⟨0, by omega, rfl, rfl, rfl⟩
  case round =>
    obtain ⟨k, hk, rfl, rfl, rfl⟩ := hrel
    by_cases hlt : k < l.length
    · obtain ⟨x, hx⟩ : ∃ x, l[k]? = some x := ⟨l[k], by simp [hlt]⟩
      obtain ⟨b2, o2, rfl, hcx⟩ := (hl.kept hB (Nat.le_refl _)).at hx
      have hst : (l.take (k + 1)).foldl f h0 = mixI ((l.take k).foldl f h0) (IntKind.u64.wrap x) := by
        have h1 := List.getElem?_eq_some_iff.1 hx
        rw [List.take_succ_eq_append_getElem hlt, List.foldl_append, h1.2]
        show f _ x = _
        rw [Hf.out]
      have Hst := Lib.hid hst
      clear hst hx
      go_wp2_with (go_at_call 79; refine (mix79 _ _ _).mono ?_; rintro e w' ⟨rfl, rfl⟩)
      go_roundw
      case rel => exact ⟨k + 1, by omega, by go_num, by rw [Hst.out], by first | rfl | trivial⟩
      case measure => simp [intOf]; omega
    · have hfin : mixI ((l.take k).foldl f h0) 0 = sumI l := by
        rw [List.take_of_length_le (by omega), Hf.out, Hh0.out]
        rfl
      have Hfin := Lib.hid hfin
      clear hfin
      go_wp2_with (go_at_call 79; refine (mix79 _ _ _).mono ?_; rintro e w' ⟨rfl, rfl⟩)
      go_ret
      exact ⟨by rw [← Hfin.out]; rfl, hB⟩

end Go.Proofs.Ytaedfidfcoigoaa
