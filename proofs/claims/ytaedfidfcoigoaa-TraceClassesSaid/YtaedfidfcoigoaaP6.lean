/- Sets of small numbers as one word; what an order holds, and its question. -/
import Derived.Test.YtaedfidfcoigoaaP4
namespace Go.Proofs.Ytaedfidfcoigoaa
open Go.RowKit

def lim64 : Nat := 2 ^ 64
theorem ofInt64 (a : Nat) (ha : a < lim64) : (BitVec.ofInt 64 (a : Int)).toNat = a := by
  rw [BitVec.ofInt_natCast, BitVec.toNat_ofNat]; exact Nat.mod_eq_of_lt ha
theorem wrap64_nat (x : Nat) (hx : x < lim64) : IntKind.u64.wrap ((x : Nat) : Int) = (x : Int) := by
  have h2 : ((x : Nat) : Int) ≤ 18446744073709551615 := by
    have : x < 18446744073709551616 := hx
    omega
  exact IntWalk.u64_in _ ⟨by omega, h2⟩
theorem u64_or (a b : Nat) (ha : a < lim64) (hb : b < lim64) : bits .or .u64 (a : Int) (b : Int) = ((a ||| b : Nat) : Int) := by
  have hx : a ||| b < lim64 := Nat.or_lt_two_pow ha hb
  show IntKind.u64.wrap ((BitVec.ofInt 64 (a : Int) ||| BitVec.ofInt 64 (b : Int)).toNat : Int) = _
  rw [BitVec.toNat_or, ofInt64 a ha, ofInt64 b hb]
  exact wrap64_nat _ hx
theorem u64_and (a b : Nat) (ha : a < lim64) (hb : b < lim64) : bits .and .u64 (a : Int) (b : Int) = ((a &&& b : Nat) : Int) := by
  have hx : a &&& b < lim64 := Nat.and_lt_two_pow _ hb
  show IntKind.u64.wrap ((BitVec.ofInt 64 (a : Int) &&& BitVec.ofInt 64 (b : Int)).toNat : Int) = _
  rw [BitVec.toNat_and, ofInt64 a ha, ofInt64 b hb]
  exact wrap64_nat _ hx
theorem pow_lt (i : Nat) (h : i < 64) : 2 ^ i < lim64 := Nat.pow_lt_pow_right (by omega) h
theorem has_word (m i : Nat) (hm : m < lim64) : (bits .and .u64 ((m : Int) / 2 ^ i) 1 == 1) = m.testBit i := by
  have h1 : ((m : Int) / 2 ^ i) = ((m / 2 ^ i : Nat) : Int) := by simp
  have h2 : m / 2 ^ i < lim64 := Nat.lt_of_le_of_lt (Nat.div_le_self _ _) hm
  rw [h1, show (1 : Int) = ((1 : Nat) : Int) from rfl, u64_and _ _ h2 (by decide), Nat.and_one_is_mod, Nat.testBit_eq_decide_div_mod_eq, Bool.eq_iff_iff]
  simp only [beq_iff_eq, decide_eq_true_eq]
  omega

set_option maxHeartbeats 400000 in
theorem setHas (b o c m i : Nat) (w : World) (hc : w.cell? ⟨b, o, none⟩ = some (.int .u64 (m : Int))) (hm : m < lim64) (hi : i < 64) :
    Calls Try.prog 66 #[.slice (some ⟨b, o, none⟩) 1 c, I i] w fun e w' => e = .returned (.bool (m.testBit i)) ∧ w = w' := by
  have h0 : i / 64 = 0 := by omega
  have h0' : (i : Int) / 64 = 0 := by omega
  have h1' : (i : Int) % 64 = i := by omega
  go_enter Try.func66, Try.ntmps66
  go_wp2
  go_ret
  exact ⟨ret_bool (has_word m i hm), rfl⟩

set_option maxHeartbeats 400000 in
theorem setAdd (b o c m i : Nat) (w : World) (hc : w.cell? ⟨b, o, none⟩ = some (.int .u64 (m : Int))) (hf : w.frozen? ⟨b, o, none⟩ = false) (hm : m < lim64) (hi : i < 64) :
    Calls Try.prog 82 #[.slice (some ⟨b, o, none⟩) 1 c, I i] w fun e w' => e = .returned (.tuple #[]) ∧ ∃ n, w' = (w.setCell ⟨b, o, none⟩ (.int .u64 ((m ||| 2 ^ i : Nat) : Int))).drewN n := by
  have h0 : i / 64 = 0 := by omega
  have h0' : (i : Int) / 64 = 0 := by omega
  have h1' : (i : Int) % 64 = i := by omega
  have hp : IntKind.u64.wrap ((2 : Int) ^ i) = ((2 ^ i : Nat) : Int) := by
    rw [show ((2 : Int) ^ i) = ((2 ^ i : Nat) : Int) by simp]
    exact wrap64_nat _ (pow_lt i hi)
  have Hr := Lib.hid (show bits .or .u64 (m : Int) (IntKind.u64.wrap ((2 : Int) ^ i)) = ((m ||| 2 ^ i : Nat) : Int) by rw [hp]; exact u64_or m (2 ^ i) hm (pow_lt i hi))
  clear hp
  go_enter Try.func82, Try.ntmps82
  go_wp2
  go_region
  all_goals
    go_wp2
    go_end0
    refine ⟨rfl, 1, ?_⟩
    rw [Hr.out]
    rfl

set_option maxHeartbeats 400000 in
theorem setJoin (b o c b' o' c' m m' : Nat) (w : World) (hc : w.cell? ⟨b, o, none⟩ = some (.int .u64 (m : Int))) (hf : w.frozen? ⟨b, o, none⟩ = false) (hm : m < lim64)
    (hc' : w.cell? ⟨b', o', none⟩ = some (.int .u64 (m' : Int))) (hm' : m' < lim64) :
    Calls Try.prog 83 #[.slice (some ⟨b, o, none⟩) 1 c, .slice (some ⟨b', o', none⟩) 1 c'] w fun e w' => e = .returned (.tuple #[]) ∧ w' = w.setCell ⟨b, o, none⟩ (.int .u64 ((m ||| m' : Nat) : Int)) := by
  have Hr := Lib.hid (u64_or m m' hm hm')
  go_enter Try.func83, Try.ntmps83
  go_wp2
  refine wp_loop_rounds 2 ?_
  rw [rounds_succ]
  go_wp2
  rw [rounds_succ]
  go_wp2
  go_end0
  exact ⟨rfl, by rw [Hr.out]⟩

/-- In w the value p is an order of n elements, in which f tells what is less. -/
def OrdRep (w : World) (p : Value) (n : Nat) (f : Nat → Nat → Bool) : Prop :=
  n ≤ 64 ∧ ∃ g gb c, p = .pointer (some ⟨g, 0, none⟩) ∧ w.cell? ⟨g, 0, none⟩ = some (I n) ∧ w.cell? ⟨g, 1, none⟩ = some (.slice (some ⟨gb, 0, none⟩) n c) ∧
    ∀ i < n, ∃ gi ci m, w.cell? ⟨gb, i, none⟩ = some (.slice (some ⟨gi, 0, none⟩) 1 ci) ∧ w.cell? ⟨gi, 0, none⟩ = some (.int .u64 ((m : Nat) : Int)) ∧ m < lim64 ∧ ∀ k < n, m.testBit k = f i k

theorem cell_below {w w' : World} {B : Nat} (hb : Below B w w') (hB : w.heap.size ≤ B) {a : Addr} {v : Value} (h : w.cell? a = some v) : w'.cell? a = some v := by
  rw [hb.cell (p := a) (Nat.lt_of_lt_of_le (World.block_lt_of_cell? _ _ h) hB)]
  exact h
theorem OrdRep.kept {w w' : World} {p : Value} {n : Nat} {f : Nat → Nat → Bool} (h : OrdRep w p n f) {B : Nat} (hb : Below B w w') (hB : w.heap.size ≤ B) : OrdRep w' p n f := by
  obtain ⟨hn, g, gb, c, hp, h0, h1, hr⟩ := h
  refine ⟨hn, g, gb, c, hp, cell_below hb hB h0, cell_below hb hB h1, fun i hi => ?_⟩
  obtain ⟨gi, ci, m, a, b, d⟩ := hr i hi
  exact ⟨gi, ci, m, cell_below hb hB a, cell_below hb hB b, d⟩

set_option maxHeartbeats 400000 in
theorem ordHas (g n i : Nat) (w : World) (h0 : w.cell? ⟨g, 0, none⟩ = some (I n)) (hi : i < n) :
    Calls Try.prog 65 #[.pointer (some ⟨g, 0, none⟩), I i] w fun e w' => e = .returned (.bool true) ∧ w = w' := by
  go_enter Try.func65, Try.ntmps65
  go_wp2
  go_ret
  exact ⟨rfl, rfl⟩

set_option maxHeartbeats 800000 in
set_option maxRecDepth 100000 in
theorem ordLess (p : Value) (n : Nat) (f : Nat → Nat → Bool) (i k : Nat) (w : World) (h : OrdRep w p n f) (hi : i < n) (hk : k < n) :
    Calls Try.prog 43 #[p, I i, I k] w fun e w' => e = .returned (.bool (f i k)) ∧ w = w' := by
  obtain ⟨hn, g, gb, c, rfl, h0, h1, hr⟩ := h
  obtain ⟨gi, ci, m, hc, hm, hml, hf⟩ := hr i hi
  have Hf := Lib.hid (hf k hk)
  have hi64 : i < 64 := by omega
  have hk64 : k < 64 := by omega
  clear hr hf
  go_enter Try.func43, Try.ntmps43
  go_wp2_with fail
  refine (ordHas g n i _ h0 hi).mono ?_
  rintro e w1 ⟨rfl, rfl⟩
  go_wp2_with fail
  refine (ordHas g n k _ h0 hk).mono ?_
  rintro e w1 ⟨rfl, rfl⟩
  go_wp2_with fail
  refine (setHas gi 0 ci m k _ hm hml hk64).mono ?_
  rintro e w1 ⟨rfl, rfl⟩
  go_wp2_with fail
  go_ret
  exact ⟨ret_bool Hf.out, rfl⟩

end Go.Proofs.Ytaedfidfcoigoaa
