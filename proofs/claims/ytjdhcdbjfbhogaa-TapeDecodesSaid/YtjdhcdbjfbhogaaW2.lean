/- wire.Out: Uint, zigzag, Int, Done. -/
import Derived.Test.YtjdhcdbjfbhogaaW1
import Derived.Test.YtjdhcdbjfbhogaaG9
import Derived.Deep.DeepMust
import Derived.Laws.Bits64b
namespace Go.Proofs.Ytjdhcdbjfbhogaa
open Go.RowKit

theorem grown_set' (w : World) (a : Addr) (v : Value) : w.grownBy (w.setCell a v) (some a.block) := ⟨rfl, rfl, rfl, by simp, fun k _ hne => by
  simp only [World.setCell, Array.getElem?_modify]
  rw [if_neg (fun h => hne (by rw [h]))]⟩
def bv (l : List Int) : List Value := l.map fun n => .int .u8 n
theorem bv_append (a b : List Int) : bv (a ++ b) = bv a ++ bv b := by simp [bv]
theorem bv_length (a : List Int) : (bv a).length = a.length := by simp [bv]
theorem bv_one (l : List Int) : ∀ u ∈ bv l, u.oneCell' = true := by
  intro u hu
  simp [bv] at hu
  obtain ⟨x, _, rfl⟩ := hu
  rfl
theorem info5 : (Try.prog.info? 5).map (fun i => (i.zero, i.size, i.bytes)) = some (some (.int .u8 0), 1, 1) := by kernel_rfl
/-- What a call writes that appends to the row v behind the struct at p: that struct, the row, new blocks. -/
structure Wr (p : Nat) (v v' : Value) (w w' : World) : Prop where
  os : w'.os = w.os
  tape : w'.tape = w.tape
  output : w'.output = w.output
  size : w.heap.size ≤ w'.heap.size
  block : ∀ k, k < w.heap.size → k ≠ p → v.ownBlock ≠ some k → w'.heap[k]? = w.heap[k]?
  old : ∀ k, v'.ownBlock = some k → k < w.heap.size → v.ownBlock = some k
theorem Wr.refl (p : Nat) (v : Value) (w : World) : Wr p v v w w := ⟨rfl, rfl, rfl, Nat.le_refl _, fun _ _ _ _ => rfl, fun _ h _ => h⟩
theorem Wr.trans {p : Nat} {v v' v'' : Value} {w w' w'' : World} (h : Wr p v v' w w') (g : Wr p v' v'' w' w'') : Wr p v v'' w w'' :=
  ⟨g.os.trans h.os, g.tape.trans h.tape, g.output.trans h.output, Nat.le_trans h.size g.size,
    fun k hk hp hv => (g.block k (Nat.lt_of_lt_of_le hk h.size) hp (fun e => hv (h.old k e hk))).trans (h.block k hk hp hv),
    fun k hk hl => h.old k (g.old k hk (Nat.lt_of_lt_of_le hl h.size)) hl⟩
theorem Wr.of_below {p : Nat} {v : Value} {w w' : World} (h : Below w.heap.size w w') : Wr p v v w w' := ⟨h.os, h.tape, h.output, h.size, fun k hk _ _ => h.block k hk, fun _ h _ => h⟩
theorem Wr.of_grown {p : Nat} {v v' : Value} {w w' : World} (h : w.grownBy w' v.ownBlock) (hv : ∀ k, v'.ownBlock = some k → v.ownBlock = some k ∨ w.heap.size ≤ k) : Wr p v v' w w' :=
  ⟨h.os, h.tape, h.output, h.size, fun k hk _ hne => h.block k hk (fun e => hne e.symm), fun k hk hl => (hv k hk).elim id (fun h => by omega)⟩
theorem Wr.set {p : Nat} (v : Value) (w : World) (j : Nat) (u : Value) : Wr p v v w (w.setCell ⟨p, j, none⟩ u) := ⟨rfl, rfl, rfl, by simp, fun k _ hp _ => heap_setCell_other w ⟨p, j, none⟩ k u (fun e => hp e), fun _ h _ => h⟩
theorem Wr.below {p B : Nat} {v v' : Value} {w w' : World} (h : Wr p v v' w w') (hp : B ≤ p) (hv : ∀ k, v.ownBlock = some k → B ≤ k) (hB : B ≤ w.heap.size) : Below B w w' :=
  ⟨h.os, h.tape, h.output, h.size, fun k hk => h.block k (by omega) (by omega) (fun e => by have := hv k e; omega)⟩
theorem Flat.wr {w w' : World} {p k n b o m c : Nat} {v v' : Value} {xs : List Value} (h : Flat w k (.slice (some ⟨b, o, none⟩) m c) n xs) (hg : Wr p v v' w w') (hp : b ≠ p) (hv : v.ownBlock ≠ some b) : Flat w' k (.slice (some ⟨b, o, none⟩) m c) n xs := by
  obtain ⟨hl, hm, a, c', hv', hr⟩ := h
  refine ⟨hl, hm, a, c', hv', fun j u hu => ?_⟩
  obtain ⟨b', o', ha, hc⟩ := hr j u hu
  simp at hv'
  obtain ⟨rfl, _⟩ := hv'
  simp at ha
  obtain ⟨rfl, rfl⟩ := ha
  refine ⟨_, _, rfl, ?_⟩
  have h2 := World.block_lt_of_cell? _ _ hc
  simp only [World.cell?] at hc ⊢
  rw [hg.block b h2 hp hv]
  exact hc

/-- The struct at p holds a row of the call's own: the bytes xs. -/
structure OutAt (w : World) (p B : Nat) (xs : List Int) (v : Value) : Prop where
  blk : Blk w p #[v]
  own : w.ownsRow B 5 1 v xs.length (bv xs)
  sep : v.ownBlock ≠ some p
theorem OutAt.below {w w' : World} {p B : Nat} {xs : List Int} {v : Value} (h : OutAt w p B xs v) (hb : Below w.heap.size w w') : OutAt w' p B xs v := ⟨h.blk.kept hb h.blk.lt, owns_below h.own hb, h.sep⟩
theorem OutAt.open {w : World} {p B : Nat} {xs : List Int} {v : Value} (h : OutAt w p B xs v) : ∃ k N c, v = .slice k N c ∧ N = xs.length ∧ w.ownsRow B 5 1 v N (bv xs) := by
  obtain ⟨k, c, e, _⟩ := (Flat.of_owns h.own).open
  exact ⟨k, _, c, e, rfl, h.own⟩
/-- A byte more. -/
theorem OutAt.push {w w' : World} {p B : Nat} {xs : List Int} {v u : Value} {x : Int} (h : OutAt w p B xs v) (ho : w'.ownsRow B 5 1 u (xs.length + 1) (bv xs ++ [.int .u8 x])) (hg : w.grownBy w' v.ownBlock) (hu : ∀ k, u.ownBlock = some k → v.ownBlock = some k ∨ w.heap.size ≤ k) :
    OutAt (w'.setCell ⟨p, 0, none⟩ u) p B (xs ++ [x]) u ∧ Wr p v u w (w'.setCell ⟨p, 0, none⟩ u) := by
  have hblk : Blk w' p #[v] := h.blk.grown hg h.sep
  have hpu : u.ownBlock ≠ some p := fun e => by
    rcases hu p e with e2 | e2
    · exact h.sep e2
    · have := h.blk.lt; omega
  refine ⟨⟨hblk.set 0 u, ?_, hpu⟩, (Wr.of_grown hg hu).trans (Wr.set u w' 0 u)⟩
  have h2 := ho.kept (grown_set' w' ⟨p, 0, none⟩ u) (.inr (by
    cases hv : u.ownBlock with
    | none => simp
    | some g => intro e; exact hpu (by rw [hv]; exact e)))
  simpa [bv] using h2

theorem OutAt.push' {w w' : World} {p B N : Nat} {xs : List Int} {v u : Value} {x : Int} (h : OutAt w p B xs v) (hN : N = xs.length) (ho : w'.ownsRow B 5 1 u (N + 1) (bv xs ++ #[.int .u8 x].toList)) (hg : w.grownBy w' v.ownBlock) (hu : ∀ k, u.ownBlock = some k → v.ownBlock = some k ∨ w.heap.size ≤ k) :
    OutAt (w'.setCell ⟨p, 0, none⟩ u) p B (xs ++ [x]) u ∧ Wr p v u w (w'.setCell ⟨p, 0, none⟩ u) := by
  subst hN
  exact h.push ho hg hu
set_option maxRecDepth 100000 in
theorem bits_or_u8 (m : Nat) : bits .or .u8 ((m : Int) % 256) 128 = ((128 + m % 128 : Nat) : Int) := by
  have key : ∀ y : Fin 256, bits .or .u8 (y.val : Int) 128 = ((128 + y.val % 128 : Nat) : Int) := by decide +kernel
  have := key ⟨m % 256, by omega⟩
  simp only [] at this
  rw [show ((m : Int) % 256) = ((m % 256 : Nat) : Int) by omega, this]
  omega
set_option maxRecDepth 100000 in
theorem bits_andNot_u8 (c : Int) (h : IsByte c) : bits .andNot .u8 c 128 = c % 128 := by
  have key : ∀ y : Fin 256, bits .andNot .u8 (y.val : Int) 128 = (y.val : Int) % 128 := by decide +kernel
  obtain ⟨h0, h1⟩ := h
  have := key ⟨c.toNat, by omega⟩
  simp only [] at this
  rwa [show ((c.toNat : Nat) : Int) = c by omega] at this
theorem xor_ones (a : Nat) (h : a < 18446744073709551616) : a ^^^ 18446744073709551615 = 18446744073709551615 - a := by
  have h1 := BitVec.xor_allOnes (x := BitVec.ofNat 64 a)
  have h2 := congrArg BitVec.toNat h1
  rw [BitVec.toNat_xor, BitVec.toNat_not, BitVec.toNat_ofNat, BitVec.toNat_allOnes, Nat.mod_eq_of_lt (by omega)] at h2
  simpa using h2
theorem bits_zig (n : Int) (h : InI64 n) : bits .xor .u64 (IntKind.u64.wrap (IntKind.u64.wrap n * 2)) (IntKind.u64.wrap (n / 9223372036854775808)) = (zig n : Int) := by
  unfold InI64 at h
  rw [IntKind.wrap_u64, IntKind.wrap_u64, IntKind.wrap_u64]
  unfold zig
  by_cases hn : n < 0
  · rw [if_pos hn]
    have e1 : n % 18446744073709551616 * 2 % 18446744073709551616 = (((n + 9223372036854775808).toNat * 2 : Nat) : Int) := by omega
    have e2 : n / 9223372036854775808 % 18446744073709551616 = ((18446744073709551615 : Nat) : Int) := by omega
    rw [e1, e2, bits_xor_u64_nat _ _ (by omega) (by omega), xor_ones _ (by omega)]
    omega
  · rw [if_neg hn]
    have e1 : n % 18446744073709551616 * 2 % 18446744073709551616 = ((n.toNat * 2 : Nat) : Int) := by omega
    have e2 : n / 9223372036854775808 % 18446744073709551616 = ((0 : Nat) : Int) := by omega
    rw [e1, e2, bits_xor_u64_nat _ _ (by omega) (by omega)]
    simp
    omega

set_option maxHeartbeats 2000000 in
set_option maxRecDepth 100000 in
theorem outUint (n p B : Nat) (xs : List Int) (v : Value) (w : World) (hn : n < 18446744073709551616) (h : OutAt w p B xs v) (hB : B ≤ w.heap.size) (hl : xs.length ≤ 10000000) :
    Calls Try.prog 23 #[.pointer (some ⟨p, 0, none⟩), .int .u64 n] w fun e w' => e = .returned (.tuple #[]) ∧ ∃ v', OutAt w' p B (xs ++ encU n) v' ∧ Wr p v v' w w' := by
  have H := Lib.hid h
  clear h
  go_enter Try.func23, Try.ntmps23
  go_wp2_with fail
  go_loopw [1] (fun t wr => ∃ (m : Nat) (pre : List Int) (u : Value), t = .int .u64 m ∧ Hid (encU n = pre ++ encU m ∧ m ≤ n ∧ (pre ++ encU m).length ≤ 10) ∧ Hid (OutAt wr p B (xs ++ pre) u) ∧ Hid (Wr p v u w wr)) (fun t _ => (intOf t).toNat)
  case atStart => exact ⟨n, [], v, rfl, Lib.hid ⟨rfl, by omega, encU_length n 9 (by omega)⟩, Lib.hid (by simpa using H.out), Lib.hid (Wr.refl _ _ _)⟩
  case round =>
    obtain ⟨m, pre, u, rfl, He, Ho, Hw⟩ := hrel
    have hz := Hw.out.size
    have c0 := Ho.out.blk.cell 0
    obtain ⟨ku, N, cu, rfl, hN, hown⟩ := Ho.out.open
    have hNl : N ≤ 20000000 := by rw [hN, List.length_append]; have := He.out.2.2; rw [List.length_append] at this; omega
    have Hown := Lib.hid hown
    have HN := Lib.hid hN
    clear hown hN
    by_cases hm : (128 : Int) ≤ m
    · go_wp2_with (at_builtin; go_must (refine wpList_appB rfl _ _ 30 rfl 5 _ 1 1 Try.underlying30 info5 rfl (by omega) (by omega) B (.slice ku N cu) N _ rfl (Hown.out.alloc _) wr.heap.size 1 1 _ 5 rfl (heap_alloc_new _ _) rfl rfl (by omega) (by omega) (by simp; omega) ?_); intro g cap w2 hg1 hg2 hg3 ho2 hgr2 hB2; have hb2 := (Ho.out.blk.alloc _).grown hgr2 Ho.out.sep; have c2 := hb2.cell 0; have f2 := hb2.frozen 0)
      obtain ⟨h3, h4⟩ := (Ho.out.below ((Below.refl _ _).alloc (Nat.le_refl _) _)).push' HN.out ho2 hgr2 (fun k hk => by
        cases hk
        rcases hg3 with e | e
        · exact .inl e
        · exact .inr (by rw [e]; exact Nat.le_refl _))
      refine ⟨⟨m / 128, pre ++ [((128 + m % 128 : Nat) : Int)], _, by simp, Lib.hid ⟨?_, ?_, ?_⟩, Lib.hid ?_, Lib.hid (Hw.out.trans ((Wr.of_below ((Below.refl _ _).alloc (Nat.le_refl _) _)).trans h4))⟩, ?_⟩
      · rw [He.out.1, encU_big (by omega)]; simp
      · have := He.out.2.1; omega
      · have := He.out.2.2
        rw [encU_big (by omega)] at this
        simpa using this
      · rw [← List.append_assoc, ← bits_or_u8]; exact h3
      · simp [intOf]; omega
    · go_wp2_with (at_builtin; go_must (refine wpList_appB rfl _ _ 30 rfl 5 _ 1 1 Try.underlying30 info5 rfl (by omega) (by omega) B (.slice ku N cu) N _ rfl (Hown.out.alloc _) wr.heap.size 1 1 _ 5 rfl (heap_alloc_new _ _) rfl rfl (by omega) (by omega) (by simp; omega) ?_); intro g cap w2 hg1 hg2 hg3 ho2 hgr2 hB2; have hb2 := (Ho.out.blk.alloc _).grown hgr2 Ho.out.sep; have c2 := hb2.cell 0; have f2 := hb2.frozen 0)
      obtain ⟨h3, h4⟩ := (Ho.out.below ((Below.refl _ _).alloc (Nat.le_refl _) _)).push' HN.out ho2 hgr2 (fun k hk => by
        cases hk
        rcases hg3 with e | e
        · exact .inl e
        · exact .inr (by rw [e]; exact Nat.le_refl _))
      refine bodyPost_end (results_none rfl _ _ _) rfl ?_
      refine ⟨rfl, _, ?_, Hw.out.trans ((Wr.of_below ((Below.refl _ _).alloc (Nat.le_refl _) _)).trans h4)⟩
      rw [He.out.1, encU_small (by omega), ← List.append_assoc]
      exact h3

theorem zigzagF (n : Int) (w : World) (h : InI64 n) : Calls Try.prog 59 #[I n] w fun e w' => e = .returned (.int .u64 (zig n)) ∧ w' = w := by
  have hz := bits_zig n h
  go_enter Try.func59, Try.ntmps59
  go_wp2_with fail
  go_ret
  exact ⟨rfl, rfl⟩

theorem outInt (n : Int) (p B : Nat) (xs : List Int) (v : Value) (w : World) (hn : InI64 n) (h : OutAt w p B xs v) (hB : B ≤ w.heap.size) (hl : xs.length ≤ 10000000) :
    Calls Try.prog 24 #[.pointer (some ⟨p, 0, none⟩), I n] w fun e w' => e = .returned (.tuple #[]) ∧ ∃ v', OutAt w' p B (xs ++ encI n) v' ∧ Wr p v v' w w' := by
  have Hz := Lib.hid (zigzagF n w hn)
  have Hu := Lib.hid (outUint (zig n) p B xs v w (zig_lt hn) h hB hl)
  clear h
  go_enter Try.func24, Try.ntmps24
  go_wp2_with (first | (go_at_call 59; refine Hz.out.mono ?_; rintro e w1 ⟨rfl, rfl⟩) | (go_at_call 23; refine Hu.out.mono ?_; rintro e w2 ⟨rfl, v', h1, h2⟩))
  refine bodyPost_end (results_none rfl _ _ _) rfl ?_
  exact ⟨rfl, v', h1, h2⟩

end Go.Proofs.Ytjdhcdbjfbhogaa
