/- wire.In: Uint, Int; tape.count. (Printed by mkW5.py, then gen.py.) -/
import Derived.Test.YtjdhcdbjfbhogaaW4
namespace Go.Proofs.Ytjdhcdbjfbhogaa
open Go.RowKit

theorem Rd.uint_ok (b : List Int) : (Rd.ok b).uint = match readU 0 0 b with | .inl (r, n) => (n, .ok r) | .inr e => (0, .bad e) := rfl
theorem readU_cons (i m : Nat) (c : Int) (b : List Int) : readU i m (c :: b) = if (i = 9 ∧ 1 < c) ∨ (0 < i ∧ c = 0) then .inr 8 else if c < 128 then .inl (b, m + (c % 128).toNat * 128 ^ i) else readU (i + 1) (m + (c % 128).toNat * 128 ^ i) b := rfl
/-- What the loop of In.Uint knows: k bytes were read, m is their number, s is the reader now. -/
def UAt (b0 : List Int) (k : Nat) (m : Int) : Rd → Prop
  | .ok b => k ≤ 9 ∧ (∃ m' : Nat, m = m' ∧ m' < 128 ^ k ∧ readU k m' b = readU 0 0 b0) ∧ ∀ c ∈ b, IsByte c
  | .bad e => readU 0 0 b0 = .inr e ∧ e ≠ 0
theorem shl_var (k : Nat) (hk : k ≤ 9) (X : Int) : Op.shift .shl .u64 X .i64 (7 * (k : Int)) = pure (.int .u64 (IntKind.u64.wrap (X * 2 ^ (7 * k)))) := by
  unfold Op.shift
  rw [if_neg (by omega)]
  have e : min (7 * (k : Int)).toNat (IntKind.u64).bits = 7 * k := by
    show min (7 * (k : Int)).toNat 64 = 7 * k
    omega
  simp only [e]
theorem pow_two (k : Nat) : (2 : Nat) ^ (7 * k) = 128 ^ k := by rw [Nat.pow_mul]
theorem or_step (m k : Nat) (x : Int) (hx : IsByte x) (hk : k ≤ 9) (h9 : k = 9 → x ≤ 1) (hm : m < 128 ^ k) :
    bits .or .u64 (m : Int) (IntKind.u64.wrap (IntKind.u64.wrap (bits .andNot .u8 x 128) * 2 ^ (7 * k))) = ((m + (x % 128).toNat * 128 ^ k : Nat) : Int) := by
  obtain ⟨h0, h1⟩ := hx
  rw [bits_andNot_u8 x ⟨h0, h1⟩, IntKind.wrap_u64, IntKind.wrap_u64]
  have hc : (x % 128).toNat * 128 ^ k < 18446744073709551616 := small_mul hk (by omega) (by intro e; have := h9 e; omega)
  have e1 : x % 128 % 18446744073709551616 = (((x % 128).toNat : Nat) : Int) := by omega
  have e2 : (((x % 128).toNat : Nat) : Int) * 2 ^ (7 * k) = (((x % 128).toNat * 128 ^ k : Nat) : Int) := by
    rw [← pow_two]
    push_cast
    rfl
  rw [e1, e2, Int.emod_eq_of_lt (by omega) (by omega)]
  have hm2 : m < 18446744073709551616 := by
    have := Nat.pow_le_pow_right (n := 128) (by omega) hk
    have e9 : 128 ^ 9 = 9223372036854775808 := by rfl
    omega
  rw [bits_or_u64_nat _ _ hm2 hc]
  congr 1
  have h3 := Nat.shiftLeft_add_eq_or_of_lt (b := m) (i := 7 * k) (by rw [pow_two]; exact hm) (x % 128).toNat
  rw [Nat.shiftLeft_eq, pow_two] at h3
  rw [Nat.or_comm, ← h3]
  omega
theorem UAt.bad_of {b0 b : List Int} {k : Nat} {m m2 x : Int} (h : UAt b0 k m (.ok (x :: b))) (hb : (k = 9 ∧ 1 < x) ∨ (0 < k ∧ x = 0)) : UAt b0 (k + 1) m2 (.bad 8) := by
  obtain ⟨_, ⟨m', _, _, h2⟩, _⟩ := h
  rw [readU_cons] at h2
  rw [if_pos hb] at h2
  exact ⟨h2.symm, by omega⟩
theorem UAt.last {b0 b : List Int} {k : Nat} {m x : Int} (h : UAt b0 k m (.ok (x :: b))) (hb : ¬ ((k = 9 ∧ 1 < x) ∨ (0 < k ∧ x = 0))) (hx : x < 128) :
    ∃ v : Nat, bits .or .u64 m (IntKind.u64.wrap (IntKind.u64.wrap (bits .andNot .u8 x 128) * 2 ^ (7 * k))) = v ∧ (Rd.ok b0).uint = (v, .ok b) := by
  obtain ⟨h1, ⟨m', rfl, hm, h2⟩, h3⟩ := h
  rw [readU_cons] at h2
  rw [if_neg hb, if_pos hx] at h2
  refine ⟨_, or_step m' k x (h3 x (by simp)) h1 (by intro e; omega) hm, ?_⟩
  rw [Rd.uint_ok, ← h2]
theorem UAt.next {b0 b : List Int} {k : Nat} {m x : Int} (h : UAt b0 k m (.ok (x :: b))) (hb : ¬ ((k = 9 ∧ 1 < x) ∨ (0 < k ∧ x = 0))) (hx : ¬ x < 128) :
    UAt b0 (k + 1) (bits .or .u64 m (IntKind.u64.wrap (IntKind.u64.wrap (bits .andNot .u8 x 128) * 2 ^ (7 * k)))) (.ok b) := by
  obtain ⟨h1, ⟨m', rfl, hm, h2⟩, h3⟩ := h
  rw [readU_cons] at h2
  rw [if_neg hb, if_neg hx] at h2
  refine ⟨by omega, ⟨_, or_step m' k x (h3 x (by simp)) h1 (by intro e; omega) hm, ?_, h2⟩, fun c hc => h3 c (by simp [hc])⟩
  have h4 : (x % 128).toNat * 128 ^ k ≤ 127 * 128 ^ k := Nat.mul_le_mul_right _ (by omega)
  rw [Nat.pow_succ]
  omega

set_option maxHeartbeats 4000000 in
set_option maxRecDepth 100000 in
theorem inUint (s : Rd) (p : Nat) (w : World) (h : InAt w p s) (hf : s.fine) :
    Calls Try.prog 78 #[.pointer (some ⟨p, 0, none⟩)] w fun r w' => r = .returned (.int .u64 s.uint.1) ∧ InAt w' p s.uint.2 ∧ w.grownBy w' (some p) := by
  cases s with
  | bad e =>
    have H := Lib.hid h
    obtain ⟨v, hb⟩ := h
    have c1 := hb.cell 1
    have h0 : ¬ e = 0 := hf.1
    clear hb hf
    go_enter Try.func78, Try.ntmps78
    go_wp2_with fail
    go_loopw [3, 4] (fun n i wr => n = .int .u64 0 ∧ i = .int .i64 0 ∧ wr = w) (fun _ _ _ => 0)
    case atStart => exact ⟨rfl, rfl, rfl⟩
    case round =>
      obtain ⟨rfl, rfl, rfl⟩ := hrel
      go_wp2_with fail
      go_ret
      exact ⟨rfl, H.out, World.grownBy.refl _ _⟩
  | ok b0 =>
    have H := Lib.hid h
    have Hf := Lib.hid (show ∀ c ∈ b0, IsByte c from hf)
    clear h hf
    go_enter Try.func78, Try.ntmps78
    go_wp2_with fail
    go_loopw [3, 4] (fun n i wr => ∃ (k : Nat) (m : Int) (s : Rd), n = .int .u64 m ∧ i = .int .i64 k ∧ k ≤ 10 ∧ Hid (InAt wr p s) ∧ Hid (w.grownBy wr (some p)) ∧ Hid (UAt b0 k m s)) (fun _ i _ => 11 - (intOf i).toNat)
    case atStart => exact ⟨0, 0, .ok b0, rfl, rfl, by omega, H, Lib.hid (World.grownBy.refl _ _), Lib.hid ⟨by omega, ⟨0, rfl, by simp, rfl⟩, Hf.out⟩⟩
    case round =>
      obtain ⟨k, m, s, rfl, rfl, hk, Hs, Hg, HU⟩ := hrel
      cases s with
      | bad e =>
        obtain ⟨v, hb⟩ := Hs.out
        have c1 := hb.cell 1
        have h0 : ¬ e = 0 := HU.out.2
        clear hb
        go_wp2_with fail
        go_ret
        rw [Rd.uint_ok, HU.out.1]
        exact ⟨rfl, Hs.out, Hg.out⟩
      | ok b =>
        obtain ⟨a, c, hb, _⟩ := Hs.out
        have c1 := hb.cell 1
        have hk9 : k ≤ 9 := HU.out.1
        have hsh := shl_var k hk9
        clear hb
        cases b with
        | nil =>
          have Hn := Lib.hid (inNext_nil p wr Hs.out)
          go_wp2_with (go_at_call 89; refine Hn.out.mono ?_; rintro r w1 ⟨rfl, h1, hg⟩; have H1 := Lib.hid h1; obtain ⟨v1, hb1⟩ := h1; have d1 := hb1.cell 1; clear hb1)
          go_roundw
          case rel => exact ⟨k + 1, _, .bad 7, rfl, by go_num, by omega, H1, Lib.hid (Hg.out.trans hg), Lib.hid ⟨by obtain ⟨_, ⟨m', _, _, h2⟩, _⟩ := HU.out; exact h2.symm, by omega⟩⟩
          case measure => simp [intOf]; omega
        | cons x b =>
          have Hn := Lib.hid (inNext_cons x b p wr Hs.out)
          have hx : IsByte x := HU.out.2.2 x (by simp)
          have hx0 := hx.1
          have hx1 := hx.2
          have hfb : (Rd.ok b).fine := fun c hc => HU.out.2.2 c (by simp [hc])
          have Hfb := Lib.hid hfb
          clear hx hfb
          by_cases h9 : (k : Int) = 9
          · by_cases hx2 : 1 < x
            · by_cases hx3 : x < 128
              · go_wp2_with (first | (go_at_call 89; refine Hn.out.mono ?_; rintro r w1 ⟨rfl, h1, hg⟩; have H1 := Lib.hid h1; obtain ⟨a1, cc1, hb1, _⟩ := h1; have d1 := hb1.cell 1; clear hb1) | (go_at_call 52; refine (inFail (.ok b) p 8 w1 H1.out Hfb.out).mono ?_; rintro r w2 ⟨rfl, h2, hg2⟩; have H2 := Lib.hid h2; obtain ⟨v2, hb2⟩ := h2; have d2 := hb2.cell 1; clear hb2))
                all_goals (go_roundw)
                all_goals first | exact ⟨k + 1, _, .bad 8, rfl, by go_num, by omega, H2, Lib.hid ((Hg.out.trans hg).trans hg2), Lib.hid (HU.out.bad_of (.inl ⟨by omega, hx2⟩))⟩ | (simp [intOf]; omega)
              · go_wp2_with (first | (go_at_call 89; refine Hn.out.mono ?_; rintro r w1 ⟨rfl, h1, hg⟩; have H1 := Lib.hid h1; obtain ⟨a1, cc1, hb1, _⟩ := h1; have d1 := hb1.cell 1; clear hb1) | (go_at_call 52; refine (inFail (.ok b) p 8 w1 H1.out Hfb.out).mono ?_; rintro r w2 ⟨rfl, h2, hg2⟩; have H2 := Lib.hid h2; obtain ⟨v2, hb2⟩ := h2; have d2 := hb2.cell 1; clear hb2))
                all_goals (go_roundw)
                all_goals first | exact ⟨k + 1, _, .bad 8, rfl, by go_num, by omega, H2, Lib.hid ((Hg.out.trans hg).trans hg2), Lib.hid (HU.out.bad_of (.inl ⟨by omega, hx2⟩))⟩ | (simp [intOf]; omega)
            · have hx3 : x < 128 := by omega
              have hk0 : (0 : Int) < k := by omega
              by_cases hxz : x = 0
              · go_wp2_with (first | (go_at_call 89; refine Hn.out.mono ?_; rintro r w1 ⟨rfl, h1, hg⟩; have H1 := Lib.hid h1; obtain ⟨a1, cc1, hb1, _⟩ := h1; have d1 := hb1.cell 1; clear hb1) | (go_at_call 52; refine (inFail (.ok b) p 8 w1 H1.out Hfb.out).mono ?_; rintro r w2 ⟨rfl, h2, hg2⟩; have H2 := Lib.hid h2; obtain ⟨v2, hb2⟩ := h2; have d2 := hb2.cell 1; clear hb2))
                all_goals (go_roundw)
                all_goals first | exact ⟨k + 1, _, .bad 8, rfl, by go_num, by omega, H2, Lib.hid ((Hg.out.trans hg).trans hg2), Lib.hid (HU.out.bad_of (.inr ⟨by omega, hxz⟩))⟩ | (simp [intOf]; omega)
              · obtain rfl : x = 1 := by omega
                go_wp2_with (go_at_call 89; refine Hn.out.mono ?_; rintro r w1 ⟨rfl, h1, hg⟩; have H1 := Lib.hid h1; obtain ⟨a1, cc1, hb1, _⟩ := h1; have d1 := hb1.cell 1; clear hb1)
                go_ret
                obtain ⟨v, hv, hu⟩ := HU.out.last (by omega) (by omega)
                first | rw [hv, hu] | (obtain rfl : k = 9 := (by omega); rw [show (2 : Int) ^ (7 * 9) = 9223372036854775808 by rfl] at hv; rw [hv, hu]) | (obtain rfl : k = 0 := (by omega); simp only [Nat.mul_zero, Int.pow_zero, Int.mul_one] at hv; rw [hv, hu])
                exact ⟨rfl, H1.out, Hg.out.trans hg⟩
          · by_cases hk0 : (0 : Int) < k
            · by_cases hxz : x = 0
              · have hx3 : x < 128 := by omega
                go_wp2_with (first | (go_at_call 89; refine Hn.out.mono ?_; rintro r w1 ⟨rfl, h1, hg⟩; have H1 := Lib.hid h1; obtain ⟨a1, cc1, hb1, _⟩ := h1; have d1 := hb1.cell 1; clear hb1) | (go_at_call 52; refine (inFail (.ok b) p 8 w1 H1.out Hfb.out).mono ?_; rintro r w2 ⟨rfl, h2, hg2⟩; have H2 := Lib.hid h2; obtain ⟨v2, hb2⟩ := h2; have d2 := hb2.cell 1; clear hb2))
                all_goals (go_roundw)
                all_goals first | exact ⟨k + 1, _, .bad 8, rfl, by go_num, by omega, H2, Lib.hid ((Hg.out.trans hg).trans hg2), Lib.hid (HU.out.bad_of (.inr ⟨by omega, hxz⟩))⟩ | (simp [intOf]; omega)
              · by_cases hx3 : x < 128
                · go_wp2_with (go_at_call 89; refine Hn.out.mono ?_; rintro r w1 ⟨rfl, h1, hg⟩; have H1 := Lib.hid h1; obtain ⟨a1, cc1, hb1, _⟩ := h1; have d1 := hb1.cell 1; clear hb1)
                  go_ret
                  obtain ⟨v, hv, hu⟩ := HU.out.last (by omega) (by omega)
                  first | rw [hv, hu] | (obtain rfl : k = 9 := (by omega); rw [show (2 : Int) ^ (7 * 9) = 9223372036854775808 by rfl] at hv; rw [hv, hu]) | (obtain rfl : k = 0 := (by omega); simp only [Nat.mul_zero, Int.pow_zero, Int.mul_one] at hv; rw [hv, hu])
                  exact ⟨rfl, H1.out, Hg.out.trans hg⟩
                · go_wp2_with (go_at_call 89; refine Hn.out.mono ?_; rintro r w1 ⟨rfl, h1, hg⟩; have H1 := Lib.hid h1; obtain ⟨a1, cc1, hb1, _⟩ := h1; have d1 := hb1.cell 1; clear hb1)
                  go_roundw
                  case rel => exact ⟨k + 1, _, .ok b, rfl, by go_num, by omega, H1, Lib.hid (Hg.out.trans hg), Lib.hid (HU.out.next (by omega) (by omega))⟩
                  case measure => simp [intOf]; omega
            · by_cases hx3 : x < 128
              · go_wp2_with (go_at_call 89; refine Hn.out.mono ?_; rintro r w1 ⟨rfl, h1, hg⟩; have H1 := Lib.hid h1; obtain ⟨a1, cc1, hb1, _⟩ := h1; have d1 := hb1.cell 1; clear hb1)
                go_ret
                obtain ⟨v, hv, hu⟩ := HU.out.last (by omega) (by omega)
                first | rw [hv, hu] | (obtain rfl : k = 9 := (by omega); rw [show (2 : Int) ^ (7 * 9) = 9223372036854775808 by rfl] at hv; rw [hv, hu]) | (obtain rfl : k = 0 := (by omega); simp only [Nat.mul_zero, Int.pow_zero, Int.mul_one] at hv; rw [hv, hu])
                exact ⟨rfl, H1.out, Hg.out.trans hg⟩
              · go_wp2_with (go_at_call 89; refine Hn.out.mono ?_; rintro r w1 ⟨rfl, h1, hg⟩; have H1 := Lib.hid h1; obtain ⟨a1, cc1, hb1, _⟩ := h1; have d1 := hb1.cell 1; clear hb1)
                go_roundw
                case rel => exact ⟨k + 1, _, .ok b, rfl, by go_num, by omega, H1, Lib.hid (Hg.out.trans hg), Lib.hid (HU.out.next (by omega) (by omega))⟩
                case measure => simp [intOf]; omega

theorem bits_andNot_one (z : Nat) (h : z < 18446744073709551616) : bits .and .u64 (z : Int) 1 = ((z % 2 : Nat) : Int) := by
  have := bits_and_u64_nat z 1 h (by omega)
  rw [Nat.and_one_is_mod] at this
  exact this
theorem xor_ones_i64 (a : Nat) (h : a < 9223372036854775808) : bits .xor .i64 (a : Int) (-1) = -1 - a := by
  have h1 := BitVec.xor_allOnes (x := BitVec.ofNat 64 a)
  have h2 := congrArg BitVec.toNat h1
  rw [BitVec.toNat_not, BitVec.toNat_ofNat, Nat.mod_eq_of_lt (by omega)] at h2
  show IntKind.i64.wrap ((BitVec.ofInt 64 (a : Int) ^^^ BitVec.ofInt 64 (-1)).toNat : Int) = _
  have e : BitVec.ofInt 64 (-1) = BitVec.allOnes 64 := by decide
  rw [e, BitVec.ofInt_natCast, h2, IntKind.wrap_i64]
  omega
theorem xor_zero_i64 (a : Nat) (h : a < 9223372036854775808) : bits .xor .i64 (a : Int) 0 = a := by
  show IntKind.i64.wrap ((BitVec.ofInt 64 (a : Int) ^^^ BitVec.ofInt 64 0).toNat : Int) = _
  have e : BitVec.ofInt 64 0 = 0#64 := by decide
  rw [e, BitVec.ofInt_natCast, BitVec.xor_zero, BitVec.toNat_ofNat, Nat.mod_eq_of_lt (by omega), IntKind.wrap_i64]
  omega
theorem bits_back (z : Nat) (h : z < 18446744073709551616) : bits .xor .i64 ((z : Int) / 2) (-((z : Int) % 2)) = back z := by
  unfold back
  have e : (z : Int) / 2 = ((z / 2 : Nat) : Int) := by omega
  by_cases hz : z % 2 = 1
  · rw [if_pos hz, show -((z : Int) % 2) = -1 by omega, e, xor_ones_i64 _ (by omega)]
    omega
  · rw [if_neg hz, show -((z : Int) % 2) = 0 by omega, e, xor_zero_i64 _ (by omega)]
set_option maxRecDepth 100000 in
theorem unzigzagF (z : Nat) (w : World) (h : z < 18446744073709551616) : Calls Try.prog 77 #[.int .u64 z] w fun e w' => e = .returned (I (back z)) ∧ w' = w := by
  have h1 := bits_andNot_one z h
  go_enter Try.func77, Try.ntmps77
  go_wp2_with fail
  go_ret
  exact ⟨ret_int (bits_back z h), rfl⟩
set_option maxRecDepth 100000 in
theorem inInt (s : Rd) (p : Nat) (w : World) (h : InAt w p s) (hf : s.fine) :
    Calls Try.prog 49 #[.pointer (some ⟨p, 0, none⟩)] w fun r w' => r = .returned (I s.int.1) ∧ InAt w' p s.int.2 ∧ w.grownBy w' (some p) := by
  have HU := Lib.hid (inUint s p w h hf)
  have Hlt := Lib.hid (Rd.uint_lt hf)
  clear h hf
  go_enter Try.func49, Try.ntmps49
  go_wp2_with (first | (go_at_call 78; refine HU.out.mono ?_; rintro e w1 ⟨rfl, h1, h2⟩; have H1 := Lib.hid h1; have H2 := Lib.hid h2; clear h1 h2) | (go_at_call 77; refine (unzigzagF _ _ Hlt.out).mono ?_; rintro e w2 ⟨rfl, rfl⟩))
  go_ret
  exact ⟨rfl, H1.out, H2.out⟩
set_option maxHeartbeats 1000000 in
set_option maxRecDepth 100000 in
theorem tapeCount (s : Rd) (p most : Nat) (w : World) (h : InAt w p s) (hf : s.fine) :
    Calls Try.prog 50 #[.pointer (some ⟨p, 0, none⟩), .int .u64 most] w fun r w' => r = .returned (.int .u64 (s.count most).1) ∧ InAt w' p (s.count most).2 ∧ w.grownBy w' (some p) := by
  have HU := Lib.hid (inUint s p w h hf)
  have Hf := Lib.hid (Rd.fine_uint hf)
  clear h hf
  by_cases hgt : most < s.uint.1
  · have hgt' : (most : Int) < s.uint.1 := by omega
    have hc : s.count most = (0, s.uint.2.fail 2) := if_pos hgt
    rw [hc]
    clear hc hgt
    go_enter Try.func50, Try.ntmps50
    go_wp2_with (first | (go_at_call 78; refine HU.out.mono ?_; rintro e w1 ⟨rfl, h1, h2⟩; have H1 := Lib.hid h1; have H2 := Lib.hid h2; clear h1 h2) | (go_at_call 52; refine (inFail _ _ 2 _ H1.out Hf.out).mono ?_; rintro e w2 ⟨rfl, h3, h4⟩; have H3 := Lib.hid h3; have H4 := Lib.hid h4; clear h3 h4))
    go_ret
    exact ⟨rfl, H3.out, H2.out.trans H4.out⟩
  · have hgt' : ¬ (most : Int) < s.uint.1 := by omega
    have hc : s.count most = s.uint := if_neg hgt
    rw [hc]
    clear hc hgt
    go_enter Try.func50, Try.ntmps50
    go_wp2_with (go_at_call 78; refine HU.out.mono ?_; rintro e w1 ⟨rfl, h1, h2⟩; have H1 := Lib.hid h1; have H2 := Lib.hid h2; clear h1 h2)
    go_ret
    exact ⟨rfl, H1.out, H2.out⟩

end Go.Proofs.Ytjdhcdbjfbhogaa
