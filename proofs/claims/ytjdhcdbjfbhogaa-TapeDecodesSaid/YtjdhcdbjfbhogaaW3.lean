/- slices.Clone of bytes; wire.Out.Done; tape.ints. -/
import Derived.Test.YtjdhcdbjfbhogaaW2
import Derived.Lib.SliceRun
namespace Go.Proofs.Ytjdhcdbjfbhogaa
open Go.RowKit

def BySl (w : World) (v : Value) (l : List Int) : Prop := Flat w 1 v l.length (bv l)
theorem BySl.kept {w w' : World} {v : Value} {l : List Int} (h : BySl w v l) {B : Nat} (hb : Below B w w') (hB : w.heap.size ≤ B) : BySl w' v l := Flat.kept h hb hB
theorem BySl.open {w : World} {v : Value} {l : List Int} (h : BySl w v l) : ∃ a c, v = .slice a l.length c ∧ l.length ≤ 9223372036854775807 := Flat.open h
theorem BySl.at {w : World} {a : Option Addr} {n c : Nat} {l : List Int} (h : BySl w (.slice a n c) l) {i : Nat} {x : Int} (hi : l[i]? = some x) :
    ∃ b o, a = some ⟨b, o, none⟩ ∧ w.cell? ⟨b, o + i, none⟩ = some (.int .u8 x) := by
  have hlt := (List.getElem?_eq_some_iff.1 hi).1
  obtain ⟨b, o, ha, hc⟩ := Flat.cells h (by simp [bv]; omega)
  exact ⟨b, o, ha, hc i _ (by simp [bv, hi])⟩
set_option maxRecDepth 100000 in
theorem cloneBy (l : List Int) (v : Value) (w : World) (h : BySl w v l) (hl : l.length ≤ 100000000) : Calls Try.prog 60 #[v] w fun e w' => ∃ u, e = .returned u ∧ w'.ownsRow w.heap.size 5 1 u l.length (bv l) ∧ Below w.heap.size w w' := by
  have qT : ∀ (w : World) (a : Option Addr) (n c n' c' : Nat), (binOp .eql 30 (.slice a n c) (.slice none n' c')).run Try.prog w = .ok (.bool a.isNone) w := fun w a n c n' c' => Lib.run_eql_slice_nil w _ _ a n c n' c' Try.underlying30
  obtain ⟨ka, ca, rfl, hml⟩ := h.open
  cases ka with
  | none =>
    have e := flat_none h
    have e0 : l = [] := by
      have := h.1
      rw [e] at this
      simp at this
      exact List.length_eq_zero_iff.1 (by omega)
    subst e0
    go_enter Try.func60, Try.ntmps60
    go_wp2_with fail
    go_ret
    exact ⟨_, rfl, World.ownsRow_nil _ _ _ _, Below.refl _ _⟩
  | some ad =>
    have Hf := Lib.hid (show Flat w 1 (.slice (some ad) l.length ca) l.length (bv l) from h)
    clear h
    go_enter Try.func60, Try.ntmps60
    go_wp2_with (at_builtin; go_must (refine wpList_appG rfl _ _ 30 rfl 5 _ 1 1 Try.underlying30 info5 rfl (by omega) (by omega) w.heap.size _ 0 [] rfl (owns_of_block (n := 0) (cs := #[]) (heap_alloc_new _ _) (Nat.le_refl _) rfl (by omega)) _ rfl l.length _ (Flat.kept Hf.out ((Below.refl _ _).alloc (Nat.le_refl _) _) (Nat.le_refl _)) (bv_one l) (by omega) (by simp) ?_); intro u w1 hown hgr hB1)
    go_ret
    rw [Nat.zero_add, List.nil_append] at hown
    exact ⟨_, rfl, hown, ((Below.refl _ _).alloc (Nat.le_refl _) _).trans hB1⟩

set_option maxHeartbeats 1000000 in
set_option maxRecDepth 100000 in
theorem outDone (p B : Nat) (xs : List Int) (v : Value) (w : World) (h : OutAt w p B xs v) (hl : xs.length ≤ 100000000) :
    Calls Try.prog 25 #[.pointer (some ⟨p, 0, none⟩)] w fun e w' => ∃ u, e = .returned u ∧ w'.ownsRow w.heap.size 5 1 u xs.length (bv xs) ∧ Below w.heap.size w w' := by
  have Hc := Lib.hid (cloneBy xs v w (Flat.of_owns h.own) hl)
  have c0 := h.blk.cell 0
  obtain ⟨k, N, c, rfl, hN, hown⟩ := h.open
  clear h hN hown
  go_enter Try.func25, Try.ntmps25
  go_wp2_with (go_at_call 60; refine Hc.out.mono ?_; rintro e w1 ⟨u, rfl, h1, h2⟩)
  go_ret
  exact ⟨u, rfl, h1, h2⟩

theorem encI_length (n : Int) (h : InI64 n) : (encI n).length ≤ 10 := encU_length _ 9 (by have := zig_lt h; omega)
theorem encIs_length : ∀ (l : List Int), (∀ n ∈ l, InI64 n) → (l.flatMap encI).length ≤ l.length * 10
  | [], _ => by simp
  | n :: l, h => by
    have h1 := encI_length n (h n (by simp))
    have h2 := encIs_length l (fun x hx => h x (by simp [hx]))
    rw [List.flatMap_cons, List.length_append, List.length_cons]
    omega
set_option maxHeartbeats 2000000 in
set_option maxRecDepth 100000 in
theorem tapeInts (l : List Int) (p B b c : Nat) (xs : List Int) (v : Value) (w : World) (hok : ∀ n ∈ l, InI64 n) (h : OutAt w p B xs v) (hl : IntSl w (.slice (some ⟨b, 0, none⟩) l.length c) l) (hbp : b ≠ p) (hbv : v.ownBlock ≠ some b) (hB : B ≤ w.heap.size) (hx : xs.length + l.length * 10 ≤ 10000000) :
    Calls Try.prog 44 #[.pointer (some ⟨p, 0, none⟩), .slice (some ⟨b, 0, none⟩) l.length c] w fun e w' => e = .returned (.tuple #[]) ∧ ∃ v', OutAt w' p B (xs ++ l.flatMap encI) v' ∧ Wr p v v' w w' := by
  have H := Lib.hid h
  have Hl := Lib.hid hl
  have Hok := Lib.hid hok
  have hml := Flat.open hl
  obtain ⟨_, _, _, hml⟩ := hml
  clear h hl hok
  go_enter Try.func44, Try.ntmps44
  go_wp2_with fail
  go_loopw [8] (fun i wr => ∃ (k : Nat) (u : Value), k ≤ l.length ∧ i = .int .i64 k ∧ Hid (OutAt wr p B (xs ++ (l.take k).flatMap encI) u) ∧ Hid (Wr p v u w wr)) (fun i _ => l.length - (intOf i).toNat)
  case atStart => exact ⟨0, v, by omega, rfl, Lib.hid (by simpa using H.out), Lib.hid (Wr.refl _ _ _)⟩
  case round =>
    obtain ⟨k, u, hk, rfl, Ho, Hw⟩ := hrel
    have hz := Hw.out.size
    by_cases hlt : k < l.length
    · have hfl := Flat.wr (show Flat w 1 (.slice (some ⟨b, 0, none⟩) l.length c) l.length (iv l) from Hl.out) Hw.out hbp hbv
      obtain ⟨b', o', e0, x0⟩ := IntSl.at (show IntSl wr (.slice (some ⟨b, 0, none⟩) l.length c) l from hfl) (i := k) (x := l[k]) (by simp [hlt])
      simp at e0
      obtain ⟨rfl, rfl⟩ := e0
      simp only [Nat.zero_add] at x0
      have Hc := Lib.hid (outInt l[k] p B _ u wr (Hok.out _ (List.getElem_mem hlt)) Ho.out (by omega) (by
        rw [List.length_append]
        have := encIs_length (l.take k) (fun n hn => Hok.out n (List.mem_of_mem_take hn))
        rw [List.length_take] at this
        omega))
      clear hfl
      go_wp2_with (go_at_call 24; refine Hc.out.mono ?_; rintro e w2 ⟨rfl, u2, h1, h2⟩)
      go_roundw
      case rel => exact ⟨k + 1, u2, by omega, by go_num, Lib.hid (by rw [List.take_succ_eq_append_getElem hlt, List.flatMap_append, ← List.append_assoc]; simpa using h1), Lib.hid (Hw.out.trans h2)⟩
      case measure => simp [intOf]; omega
    · obtain rfl : k = l.length := by omega
      go_wp2_with fail
      refine bodyPost_end (results_none rfl _ _ _) rfl ?_
      have h1 := Ho.out
      rw [List.take_of_length_le (Nat.le_refl _)] at h1
      exact ⟨rfl, u, h1, Hw.out⟩

end Go.Proofs.Ytjdhcdbjfbhogaa
