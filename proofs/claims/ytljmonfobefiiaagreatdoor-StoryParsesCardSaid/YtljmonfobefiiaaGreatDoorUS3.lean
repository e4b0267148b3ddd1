import Derived.Test.YtljmonfobefiiaaGreatDoorUTG9
import Derived.Lib.ParseIntBMem
import Derived.Lib.AtoiErrMem
/- story.reader: must, skip, until, number. -/
namespace Go.Proofs.YtljmonfobefiiaaGreatDoor
open Go.RowKit

def RAt (w : World) (p : Nat) (r : RS) : Prop := Blk w p #[sv r.rest, .bool r.bad]

set_option maxHeartbeats 1000000 in
theorem mustC (r : RS) (c : Bool) (p : Nat) (w : World) (h : RAt w p r) :
    Calls Tryz.prog 44 #[.pointer (some ⟨p, 0, none⟩), .bool c] w fun e w' => e = .returned (.tuple #[]) ∧ RAt w' p (r.must c) ∧ w.grownBy w' (some p) := by
  obtain ⟨rest, bad⟩ := r
  have c1 : w.cell? ⟨p, 1, none⟩ = some (.bool bad) := Blk.cell h 1
  have f1 := Blk.frozen h 1
  have hs := Lib.hid (Blk.set h 1 (.bool (bad || !c)))
  clear h
  cases bad with
  | true =>
    go_enter Tryz.func44, Tryz.ntmps44
    go_wp2
    refine bodyPost_end (results_none rfl _ _ _) rfl ?_
    exact ⟨rfl, hs.out, grownSet w ⟨p, 1, none⟩ _⟩
  | false =>
    go_enter Tryz.func44, Tryz.ntmps44
    go_wp2
    refine bodyPost_end (results_none rfl _ _ _) rfl ?_
    exact ⟨rfl, hs.out, grownSet w ⟨p, 1, none⟩ _⟩

set_option maxHeartbeats 1000000 in
theorem skipC (r : RS) (s : Str) (p : Nat) (w : World) (h : RAt w p r) :
    Calls Tryz.prog 45 #[.pointer (some ⟨p, 0, none⟩), sv s] w fun e w' => e = .returned (.bool (r.has s)) ∧ RAt w' p (r.skip s) ∧ w.grownBy w' (some p) := by
  obtain ⟨rest, bad⟩ := r
  have c0 : w.cell? ⟨p, 0, none⟩ = some (sv rest) := Blk.cell h 0
  have f0 := Blk.frozen h 0
  have hs := Lib.hid (Blk.set h 0 (sv (Lib.trimPrefix rest s)))
  clear h
  have hc := Lib.hid (cutPrefixC rest s w)
  generalize sv rest = vr at c0 hc
  unfold sv at *
  go_enter Tryz.func45, Tryz.ntmps45
  go_wp2_with (go_at_call 83; refine hc.out.mono ?_; rintro e w1 ⟨rfl, rfl⟩)
  go_ret
  exact ⟨rfl, hs.out, grownSet w1 ⟨p, 0, none⟩ _⟩


theorem cutAt_le (seps : List Str) (s : Str) : cutAt seps s ≤ s.length := by
  unfold cutAt
  have key : ∀ (l : List Str) (a : Nat), a ≤ s.length → l.foldl (fun a p => if 0 ≤ Lib.index s p then min a (Lib.index s p).toNat else a) a ≤ s.length := by
    intro l
    induction l with
    | nil => intro a h; exact h
    | cons p l ih =>
      intro a h
      simp only [List.foldl_cons]
      split
      · exact ih _ (by omega)
      · exact ih _ h
  exact key seps _ (Nat.le_refl _)
def cutFrom (s : Str) (a : Nat) (l : List Str) : Nat := l.foldl (fun a p => if 0 ≤ Lib.index s p then min a (Lib.index s p).toNat else a) a
theorem cutFrom_snoc (s : Str) (a : Nat) (l : List Str) (p : Str) : cutFrom s a (l ++ [p]) = if 0 ≤ Lib.index s p then min (cutFrom s a l) (Lib.index s p).toNat else cutFrom s a l := by
  unfold cutFrom
  rw [List.foldl_append]
  rfl

set_option maxHeartbeats 2000000 in
theorem untilC (r : RS) (seps : List Str) (p g : Nat) (w : World) (h : RAt w p r) (hg : Gl w) (hl : r.rest.length ≤ 4000000000) (hgb : StrRow w g seps) (hn : seps.length ≤ 100) (_hp : 8 ≤ p) :
    Calls Tryz.prog 48 #[.pointer (some ⟨p, 0, none⟩), .slice (some ⟨g, 0, none⟩) seps.length seps.length] w fun e w' => e = .returned (sv (r.text seps)) ∧ RAt w' p (r.until seps) ∧ w.grownBy w' (some p) := by
  obtain ⟨rest, bad⟩ := r
  have c0 : w.cell? ⟨p, 0, none⟩ = some (sv rest) := Blk.cell h 0
  have f0 := Blk.frozen h 0
  have hl : rest.length ≤ 4000000000 := hl
  have hs := Lib.hid (Blk.set h 0 (sv (rest.drop (cutAt seps rest))))
  have hcut := Lib.hid (show cutAt seps rest = cutFrom rest rest.length seps from rfl)
  have hle := cutAt_le seps rest
  have hrow := Lib.hid hgb
  have hidx : ∀ q : Str, Calls Tryz.prog 41 #[sv rest, sv q] w fun e w' => e = .returned (I (Lib.index rest q)) ∧ w' = w := fun q => indexC rest q w hg hl
  have Hidx := Lib.hid hidx
  clear h hidx hgb hg
  generalize hcv : cutAt seps rest = cv at *
  unfold sv at *
  go_enter Tryz.func48, Tryz.ntmps48
  go_wp2_with fail
  go_loop [5, 17] (fun a i => ∃ (k : Nat), k ≤ seps.length ∧ a = I (cutFrom rest rest.length (seps.take k)) ∧ i = .int .i64 k) (fun _ i => seps.length - (intOf i).toNat)
  case atStart => exact ⟨0, by omega, by simp [cutFrom], rfl⟩
  case round =>
    obtain ⟨k, hk, rfl, rfl⟩ := hrel
    by_cases hlt : k < seps.length
    · have hcell : w.cell? ⟨g, k, none⟩ = some (sv seps[k]) := hrow.out.cell (by simp [hlt])
      have hst : cutFrom rest rest.length (seps.take (k + 1)) = if 0 ≤ Lib.index rest seps[k] then min (cutFrom rest rest.length (seps.take k)) (Lib.index rest seps[k]).toNat else cutFrom rest rest.length (seps.take k) := by
        rw [List.take_succ_eq_append_getElem hlt]
        exact cutFrom_snoc _ _ _ _
      have hst := Lib.hid hst
      have hi := Hidx.out seps[k]
      have Hi := Lib.hid hi
      clear hi
      generalize seps[k] = q at hcell hst Hi
      unfold sv at hcell
      generalize cutFrom rest rest.length (seps.take k) = a at hst ⊢
      by_cases h0 : 0 ≤ Lib.index rest q
      · have hst2 := Lib.hid (show cutFrom rest rest.length (seps.take (k + 1)) = min a (Lib.index rest q).toNat by rw [hst.out, if_pos h0])
        obtain ⟨ix, hix⟩ : ∃ ix : Nat, Lib.index rest q = ix := ⟨(Lib.index rest q).toNat, by omega⟩
        rw [hix] at Hi hst2 h0
        clear hst hix
        go_wp2_with (go_at_call 41; refine Hi.out.mono ?_; rintro e w1 ⟨rfl, rfl⟩)
        go_round
        case rel => exact ⟨k + 1, by omega, by rw [hst2.out]; go_num, by go_num⟩
        case measure => simp [intOf]; omega
      · have hst2 := Lib.hid (show cutFrom rest rest.length (seps.take (k + 1)) = a by rw [hst.out, if_neg h0])
        go_wp2_with (go_at_call 41; refine Hi.out.mono ?_; rintro e w1 ⟨rfl, rfl⟩)
        go_round
        case rel => exact ⟨k + 1, by omega, by rw [hst2.out], by go_num⟩
        case measure => simp [intOf]; omega
    · obtain rfl : k = seps.length := by omega
      rw [List.take_length] at *
      rw [← hcut.out] at *
      go_wp2_with fail
      go_ret
      rw [ext_drop]
      exact ⟨by simp only [ext_take]; rw [← hcv]; rfl, by unfold RAt RS.until; rw [hcv]; exact hs.out, grownSet w ⟨p, 0, none⟩ _⟩

end Go.Proofs.YtljmonfobefiiaaGreatDoor

/- strconv.ParseUint(s, 10, 31); story.reader.number. -/
namespace Go.Proofs.YtljmonfobefiiaaGreatDoor
open Go.RowKit

theorem uintM_step {acc : Nat} {c : UInt8} {r : Str} (hd : 48 ≤ c.toNat ∧ c.toNat ≤ 57) (ha : acc ≤ 2147483647) :
    Lib.parseUintM 2147483647 acc (c :: r) = if 2147483647 < acc * 10 + (c.toNat - 48) then .range else Lib.parseUintM 2147483647 (acc * 10 + (c.toNat - 48)) r := by
  simp only [Lib.parseUintM]
  rw [if_pos hd, if_neg (by omega)]
theorem uintM_bad {acc : Nat} {c : UInt8} {r : Str} (hd : ¬ (48 ≤ c.toNat ∧ c.toNat ≤ 57)) : Lib.parseUintM 2147483647 acc (c :: r) = .syntax := by
  simp only [Lib.parseUintM]
  rw [if_neg hd]

set_option maxHeartbeats 32000000 in
set_option maxRecDepth 100000 in
theorem parse31 (s : Str) (hne : s ≠ []) (hs : s.length ≤ 4000000000) (w : World) :
    Calls Tryz.prog 120 #[sv s, I 10, I 31] w fun e w' => e = .returned (Lib.uintTupleM 198 2147483647 (Lib.parseUintM 2147483647 0 s)) ∧ Below w.heap.size w w' := by
  obtain ⟨t, ht⟩ : ∃ t : ByteArray, t = ⟨s.toArray⟩ := ⟨_, rfl⟩
  have hts : t.data.toList = s := by rw [ht]
  have hsz : s.length = t.size := by rw [← hts, Lib.size_eq]
  have hemp : t.toList.isEmpty = false := by
    rw [← decide_eq_emptyBytes]
    exact decide_eq_false (fun h => hne (by rw [← hts, h]; rfl))
  have hcv := Lib.run_convert_string_bytes (P := Tryz.prog) w 9 62 5 t (u := .string) Tryz.underlying9 Tryz.underlying62 Tryz.underlying5
  have hcell : ∀ j, j < s.length → (Lib.bytesWorld w 5 t).cell? ⟨w.heap.size, j, none⟩ = some (.int .u8 (s.getD j 0).toNat) := fun j hj => by
    rw [← hts]
    exact Lib.bytesWorld_cell w 5 t j (by omega)
  have hbel := Lib.hid (Lib.bytesWorld_below w 5 t)
  have hmv : IntKind.u64.wrap (IntKind.u64.wrap 2147483648 - 1) = 2147483647 := by
    rw [IntKind.wrap_u64, IntKind.wrap_u64]
    decide
  obtain ⟨W, hW⟩ : ∃ W, W = Lib.bytesWorld w 5 t := ⟨_, rfl⟩
  rw [← hW] at hcv hcell hbel
  have Hcell := Lib.hid hcell
  unfold sv
  rw [← ht]
  clear hW hts hcell ht
  rw [hsz] at hs
  go_enter Tryz.func120, Tryz.ntmps120
  go_wp2
  go_loop [12, 13, 101] (fun vu vn vi => ∃ (k acc : Nat) (x : Int), vu = .bool false ∧ vn = .int .u64 x ∧ vi = .int .i64 k ∧ k ≤ t.size ∧ Hid (x = acc ∧ acc ≤ 2147483647 ∧ Lib.parseUintM 2147483647 0 s = Lib.parseUintM 2147483647 acc (s.drop k))) (fun _ _ vi => t.size - (intOf vi).toNat)
  case atStart => exact ⟨0, 0, 0, rfl, rfl, rfl, by omega, Lib.hid ⟨rfl, by omega, rfl⟩⟩
  case round =>
    obtain ⟨k, acc, x, rfl, rfl, rfl, hk, H⟩ := hrel
    have x0 : 0 ≤ x := by have := H.out; omega
    have x1 : x ≤ 2147483647 := by have := H.out; omega
    by_cases hlt : k < t.size
    · have hls : k < s.length := by omega
      have hc := Hcell.out k hls
      have hget : s.getD k 0 = s[k] := by simp [List.getD, List.getElem?_eq_getElem hls]
      have H2 := Lib.hid (show x = acc ∧ acc ≤ 2147483647 ∧ Lib.parseUintM 2147483647 0 s = Lib.parseUintM 2147483647 acc (s[k] :: s.drop (k + 1)) by rw [← List.drop_eq_getElem_cons hls]; exact H.out)
      rw [hget] at hc
      generalize s[k] = c at hc H2
      have hc256 : c.toNat < 256 := c.toNat_lt
      clear hget
      by_cases hd : 48 ≤ c.toNat ∧ c.toNat ≤ 57
      · obtain ⟨d, hdd⟩ : ∃ d : Int, d = (c.toNat : Int) := ⟨_, rfl⟩
        have hd0 : 48 ≤ d := by omega
        have hd1 : d ≤ 57 := by omega
        rw [← hdd] at hc
        by_cases hov : 2147483647 < x * 10 + (d - 48)
        · have Hst := Lib.hid (show Lib.parseUintM 2147483647 0 s = .range by
            obtain ⟨e1, e2, e3⟩ := H2.out
            rw [e3, uintM_step hd e2, if_pos (by omega)])
          clear H2 hdd hd hc256
          go_wp2
          go_ret2
          rw [Hst.out]
          exact ⟨rfl, hbel.out⟩
        · have Hst := Lib.hid (show x * 10 + (d - 48) = ((acc * 10 + (c.toNat - 48) : Nat) : Int) ∧ acc * 10 + (c.toNat - 48) ≤ 2147483647 ∧ Lib.parseUintM 2147483647 0 s = Lib.parseUintM 2147483647 (acc * 10 + (c.toNat - 48)) (s.drop (k + 1)) by
            obtain ⟨e1, e2, e3⟩ := H2.out
            refine ⟨by omega, by omega, ?_⟩
            rw [e3, uintM_step hd e2, if_neg (by omega)])
          clear H2 hdd hd hc256
          go_wp2
          go_round
          case rel => exact ⟨k + 1, _, x * 10 + (d - 48), rfl, by go_num, by go_num, by omega, Hst⟩
          case measure => simp [intOf]; omega
      · have Hst := Lib.hid (H2.out.2.2.trans (uintM_bad hd))
        have hv0 := bits_lo_u8 .or (c.toNat : Int) 32
        have hv1 := bits_hi_u8 .or (c.toNat : Int) 32
        have hu0 := bits_lo_u8 .or 95 32
        have hu1 := bits_hi_u8 .or 95 32
        clear H2
        go_wp2_with (go_at_call 148; refine (Tryz.internal_strconv_lower _ _).mono ?_; rintro e w' ⟨rfl, rfl⟩)
        all_goals go_ret2
        all_goals (rw [Hst.out]; exact ⟨rfl, hbel.out⟩)
    · obtain rfl : k = t.size := by omega
      have H2 := Lib.hid (show Lib.parseUintM 2147483647 0 s = .ok acc by rw [H.out.2.2, List.drop_eq_nil_of_le (by omega)]; rfl)
      have hx := H.out.1
      subst hx
      go_wp2
      go_ret2
      rw [H2.out]
      exact ⟨rfl, hbel.out⟩

/-- How a parse that failed is told: an error that is not nil. -/
def ErrV (v : Value) : Prop := ∃ t p, v = .iface t p
theorem toErr2 (fn : ByteArray) (s : Str) (b k : Int) (w : World) (hg : Gl w) (hs : s.length ≤ 4000000000) :
    Calls Tryz.prog 121 #[.string fn, sv s, I b, I k, .iface 198 (.int .i64 2)] w fun e w' => ∃ v, e = .returned v ∧ ErrV v ∧ Below w.heap.size w w' := by
  obtain ⟨te, pe, hv⟩ := hg.syn
  refine (Tryz.strconv_toError_syntax fn ⟨s.toArray⟩ b k (.iface te pe) w (by show s.toArray.size ≤ _; simp; omega) hv (.inr ⟨_, _, rfl⟩)).mono ?_
  rintro e w' ⟨N, rfl, h1, h2, h3⟩
  exact ⟨_, rfl, ⟨_, _, rfl⟩, h3⟩
theorem toErr1 (fn : ByteArray) (s : Str) (b k : Int) (w : World) (hg : Gl w) (hs : s.length ≤ 4000000000) :
    Calls Tryz.prog 121 #[.string fn, sv s, I b, I k, .iface 198 (.int .i64 1)] w fun e w' => ∃ v, e = .returned v ∧ ErrV v ∧ Below w.heap.size w w' := by
  obtain ⟨te, pe, hv⟩ := hg.rng
  refine (Tryz.strconv_toError_range fn ⟨s.toArray⟩ b k (.iface te pe) w (by show s.toArray.size ≤ _; simp; omega) hv (.inr ⟨_, _, rfl⟩)).mono ?_
  rintro e w' ⟨N, rfl, h1, h2, h3⟩
  exact ⟨_, rfl, ⟨_, _, rfl⟩, h3⟩
set_option maxRecDepth 100000 in
theorem parse31_nil (w : World) :
    Calls Tryz.prog 120 #[sv [], I 10, I 31] w fun e w' => e = .returned (.tuple #[.int .u64 0, .iface 198 (.int .i64 2)]) ∧ w = w' := by
  unfold sv
  go_enter Tryz.func120, Tryz.ntmps120
  go_wp2
  go_ret2
  exact ⟨rfl, rfl⟩
/-- ParseUint(s, 10, 31): the number, or an error. -/
def UintR (s : Str) (v : Value) : Prop := (∃ u, Lib.parseUintB 31 s = .ok u ∧ v = .tuple #[.int .u64 (u : Nat), .nilIface]) ∨ ((∀ u, Lib.parseUintB 31 s ≠ .ok u) ∧ ∃ er, ErrV er ∧ v = .tuple #[.int .u64 (numberV s), er])
set_option maxHeartbeats 2000000 in
theorem parseUintC (s : Str) (w : World) (hg : Gl w) (hs : s.length ≤ 4000000000) :
    Calls Tryz.prog 89 #[sv s, I 10, I 31] w fun e w' => (∃ v, e = .returned v ∧ UintR s v) ∧ Below w.heap.size w w' := by
  have hin : ∃ T, T = Lib.parseUintB 31 s ∧ Calls Tryz.prog 120 #[sv s, I 10, I 31] w fun e w' => e = .returned (Lib.uintTupleM 198 2147483647 T) ∧ Below w.heap.size w w' := by
    by_cases he : s = []
    · subst he
      refine ⟨.syntax, rfl, (parse31_nil w).mono ?_⟩
      rintro e w' ⟨rfl, rfl⟩
      exact ⟨rfl, Below.refl _ _⟩
    · exact ⟨_, rfl, by unfold Lib.parseUintB; rw [if_neg he]; exact parse31 s he hs w⟩
  obtain ⟨T, hT, hc⟩ := hin
  have HT := Lib.hid hT
  have Hc := Lib.hid hc
  have HG := Lib.hid hg
  have hs' := hs
  clear hT hc hg
  have Hs := Lib.hid hs
  clear hs hs'
  rcases T with u | _ | _
  ·
    have hu := (parseB_ok HT.out.symm).1
    unfold sv at *
    go_enter Tryz.func89, Tryz.ntmps89
    go_wp2_with (go_at_call 120; refine Hc.out.mono ?_; rintro e w1 ⟨rfl, hb⟩; unfold Lib.uintTupleM)
    go_ret2
    exact ⟨⟨_, rfl, .inl ⟨u, HT.out.symm, rfl⟩⟩, hb⟩
  ·
    have HN := Lib.hid (show numberV s = 0 by unfold numberV; rw [← HT.out])
    have HE := Lib.hid (show ∀ u, Lib.parseUintB 31 s ≠ .ok u by intro u; rw [← HT.out]; intro h; cases h)
    have Ht := Lib.hid (fun w1 hb => toErr2 ⟨#[80, 97, 114, 115, 101, 85, 105, 110, 116]⟩ s 10 31 w1 (Gl.below HG.out hb) Hs.out)
    unfold sv at *
    go_enter Tryz.func89, Tryz.ntmps89
    go_wp2_with (first | (go_at_call 120; refine Hc.out.mono ?_; rintro e w1 ⟨rfl, hb⟩; unfold Lib.uintTupleM) | (go_at_call 121; refine (Ht.out _ hb).mono ?_; rintro e w2 ⟨v, rfl, hv, hb2⟩))
    go_ret2
    exact ⟨⟨_, rfl, .inr ⟨HE.out, _, hv, by rw [HN.out]; rfl⟩⟩, hb.trans (hb2.mono hb.size)⟩
  ·
    have HN := Lib.hid (show numberV s = 2147483647 by unfold numberV; rw [← HT.out])
    have HE := Lib.hid (show ∀ u, Lib.parseUintB 31 s ≠ .ok u by intro u; rw [← HT.out]; intro h; cases h)
    have Ht := Lib.hid (fun w1 hb => toErr1 ⟨#[80, 97, 114, 115, 101, 85, 105, 110, 116]⟩ s 10 31 w1 (Gl.below HG.out hb) Hs.out)
    unfold sv at *
    go_enter Tryz.func89, Tryz.ntmps89
    go_wp2_with (first | (go_at_call 120; refine Hc.out.mono ?_; rintro e w1 ⟨rfl, hb⟩; unfold Lib.uintTupleM) | (go_at_call 121; refine (Ht.out _ hb).mono ?_; rintro e w2 ⟨v, rfl, hv, hb2⟩))
    go_ret2
    exact ⟨⟨_, rfl, .inr ⟨HE.out, _, hv, by rw [HN.out]; rfl⟩⟩, hb.trans (hb2.mono hb.size)⟩

theorem parseUintOk {s : Str} {u : Nat} (hu : Lib.parseUintB 31 s = .ok u) (w : World) (hg : Gl w) (hs : s.length ≤ 4000000000) :
    Calls Tryz.prog 89 #[sv s, I 10, I 31] w fun e w' => e = .returned (.tuple #[.int .u64 (u : Nat), .nilIface]) ∧ Below w.heap.size w w' := by
  refine (parseUintC s w hg hs).mono ?_
  rintro e w' ⟨⟨v, rfl, ⟨u', h1, rfl⟩ | ⟨h1, _⟩⟩, hb⟩
  · rw [hu] at h1
    injection h1 with h1
    subst h1
    exact ⟨rfl, hb⟩
  · exact absurd hu (h1 u)
theorem parseUintBad {s : Str} (hu : ∀ u, Lib.parseUintB 31 s ≠ .ok u) (w : World) (hg : Gl w) (hs : s.length ≤ 4000000000) :
    Calls Tryz.prog 89 #[sv s, I 10, I 31] w fun e w' => (∃ t p, e = .returned (.tuple #[.int .u64 (numberV s), .iface t p])) ∧ Below w.heap.size w w' := by
  refine (parseUintC s w hg hs).mono ?_
  rintro e w' ⟨⟨v, rfl, ⟨u', h1, rfl⟩ | ⟨h1, er, ⟨t, p, rfl⟩, rfl⟩⟩, hb⟩
  · exact absurd h1 (hu u')
  · exact ⟨⟨t, p, rfl⟩, hb⟩

set_option maxHeartbeats 2000000 in
set_option maxRecDepth 100000 in
theorem numberC (r : RS) (s : Str) (p : Nat) (w : World) (h : RAt w p r) (hg : Gl w) (_hp : 8 ≤ p) (hs : s.length ≤ 4000000000) :
    Calls Tryz.prog 50 #[.pointer (some ⟨p, 0, none⟩), sv s] w fun e w' => e = .returned (I (numberV s)) ∧ RAt w' p (r.number s) ∧ w.grownBy w' (some p) := by
  obtain ⟨rest, bad⟩ := r
  have hpw : p < w.heap.size := Blk.lt h
  have Hat : ∀ w1, Below w.heap.size w w1 → RAt w1 p ⟨rest, bad⟩ := fun w1 hb => Blk.kept h hb hpw
  have hN : ((numberV s : Nat) : Int) ≤ 2147483647 := by have := numberV_le s; omega
  have hcv : IntKind.i64.wrap ((numberV s : Nat) : Int) = numberV s := by rw [IntKind.wrap_i64]; omega
  by_cases hok : ∃ u, Lib.parseUintB 31 s = .ok u
  · obtain ⟨u, hu⟩ := hok
    have hnu : numberV s = u := by unfold numberV; rw [hu]
    have Hpu := Lib.hid (parseUintOk hu w hg hs)
    have Hdec := Lib.hid (parseB_ok hu).2
    have HG := Lib.hid hg
    rw [hnu] at hN hcv ⊢
    have Hit := Lib.hid (fun w1 hb => itoaC (u : Int) ⟨by omega, by omega⟩ w1 (Gl.below HG.out hb))
    have Hat := Lib.hid Hat
    clear h hg hu
    unfold sv at Hpu ⊢
    have Hbeq := Lib.hid (show (Lib.itoa (u : Int) == s) = isNum s by rw [Lib.itoa_nonneg, ← Hdec.out, Bool.eq_iff_iff, beq_iff_eq, decide_eq_true_eq])
    have Hfin := Lib.hid (show ∀ w1, Below w.heap.size w w1 → RAt (w1.setCell ⟨p, 1, none⟩ (.bool (bad || !isNum s))) p (RS.number ⟨rest, bad⟩ s) from fun w1 hb => Blk.set (Hat.out w1 hb) 1 (.bool (bad || !isNum s)))
    cases bad with
    | true =>
      go_enter Tryz.func50, Tryz.ntmps50
      go_wp2_with (go_at_call 89; refine Hpu.out.mono ?_; rintro e w1 ⟨rfl, hb⟩; have c1 : w1.cell? ⟨p, 1, none⟩ = some (.bool true) := Blk.cell (Hat.out w1 hb) 1; have f1 := Blk.frozen (Hat.out w1 hb) 1)
      go_ret
      exact ⟨rfl, Hfin.out _ hb, (grownBelow hb _).trans (grownSet w1 ⟨p, 1, none⟩ _)⟩
    | false =>
      go_enter Tryz.func50, Tryz.ntmps50
      go_wp2_with (first | (go_at_call 89; refine Hpu.out.mono ?_; rintro e w1 ⟨rfl, hb⟩; have c1 : w1.cell? ⟨p, 1, none⟩ = some (.bool false) := Blk.cell (Hat.out w1 hb) 1) | (go_at_call 46; refine (Hit.out _ hb).mono ?_; rintro e w2 ⟨rfl, hb2⟩; have hb3 := hb.trans (hb2.mono hb.size); have c2 : w2.cell? ⟨p, 1, none⟩ = some (.bool false) := Blk.cell (Hat.out w2 hb3) 1; have f1 := Blk.frozen (Hat.out w2 hb3) 1; unfold sv))
      go_ret
      rw [Hbeq.out]
      exact ⟨rfl, Hfin.out _ hb3, (grownBelow hb3 _).trans (grownSet w2 ⟨p, 1, none⟩ _)⟩
  · have hu : ∀ u, Lib.parseUintB 31 s ≠ .ok u := fun u hu => hok ⟨u, hu⟩
    have Hpu := Lib.hid (parseUintBad hu w hg hs)
    have hnum := parseB_bad hu
    have Hfin := Lib.hid (show ∀ w1, Below w.heap.size w w1 → RAt (w1.setCell ⟨p, 1, none⟩ (.bool true)) p (RS.number ⟨rest, bad⟩ s) from fun w1 hb => by
      have := Blk.set (Hat w1 hb) 1 (.bool true)
      unfold RAt RS.number
      rw [hnum]
      simpa using this)
    have HH := Lib.hid Hat
    clear h hg hu hok hnum Hat
    unfold sv at Hpu ⊢
    cases bad with
    | true =>
      go_enter Tryz.func50, Tryz.ntmps50
      go_wp2_with (go_at_call 89; refine Hpu.out.mono ?_; rintro e w1 ⟨⟨t, q, rfl⟩, hb⟩; have c1 : w1.cell? ⟨p, 1, none⟩ = some (.bool true) := Blk.cell (HH.out w1 hb) 1; have f1 := Blk.frozen (HH.out w1 hb) 1)
      go_ret
      exact ⟨rfl, Hfin.out _ hb, (grownBelow hb _).trans (grownSet w1 ⟨p, 1, none⟩ _)⟩
    | false =>
      go_enter Tryz.func50, Tryz.ntmps50
      go_wp2_with (go_at_call 89; refine Hpu.out.mono ?_; rintro e w1 ⟨⟨t, q, rfl⟩, hb⟩; have c1 : w1.cell? ⟨p, 1, none⟩ = some (.bool false) := Blk.cell (HH.out w1 hb) 1; have f1 := Blk.frozen (HH.out w1 hb) 1)
      go_ret
      exact ⟨rfl, Hfin.out _ hb, (grownBelow hb _).trans (grownSet w1 ⟨p, 1, none⟩ _)⟩
end Go.Proofs.YtljmonfobefiiaaGreatDoor

/- strconv.Atoi in words of numbers' own forms; names.parseDotted, within, eventWords, questionWords. -/
namespace Go.Proofs.YtljmonfobefiiaaGreatDoor
open Go.RowKit

theorem parse10_of : ∀ (s : Str) (acc v : Nat), decVal acc s = some v → v ≤ 2147483647 → Lib.parseUint10 acc s = .ok v
  | [], acc, v, h, hv => by simp only [decVal] at h; injection h with h; subst h; rfl
  | c :: s, acc, v, h, hv => by
    simp only [decVal] at h
    split at h
    · rename_i hd
      have hg := decVal_ge s _ v h
      simp only [Lib.parseUint10, if_pos hd]
      rw [if_neg (by omega), if_neg (by omega)]
      exact parse10_of s _ v h hv
    · cases h
theorem atoi_num {s : Str} {n : Nat} (h : num s = some n) : Lib.atoiAll s = .ok (n : Int) := by
  obtain ⟨h1, rfl⟩ := (num_iff _ _).1 h
  have hp := parse10_of _ _ _ (decVal_digits n) h1
  have hd := digits_are n
  cases hs : Lib.decDigits n with
  | nil => exact absurd hs (digits_ne n)
  | cons c r =>
    rw [hs] at hp hd
    have hc := hd c (by simp)
    unfold Lib.atoiAll
    simp only []
    rw [if_neg (by omega)]
    unfold Lib.parseMag
    rw [if_neg (by simp), hp]
    simp only []
    rw [if_neg (by omega), if_neg (by omega), if_neg (by omega)]
theorem atoiOk {s : Str} {n : Nat} (h : num s = some n) (w : World) (hs : s.length ≤ 4000000000) :
    Calls Tryz.prog 119 #[sv s] w fun e w' => e = .returned (.tuple #[I n, .nilIface]) ∧ Below w.heap.size w w' := by
  refine (Tryz.strconv_Atoi_ok ⟨s.toArray⟩ (by show s.toArray.size ≤ _; simp; omega) n (atoi_num h) w).mono ?_
  rintro e w' ⟨rfl, rfl | ⟨t, rfl⟩⟩
  · exact ⟨rfl, Below.refl _ _⟩
  · exact ⟨rfl, Lib.bytesWorld_below _ _ _⟩
/-- What Atoi gives for a string that is no number's own form. -/
def AtoiBad (s : Str) (v : Int) (er : Value) : Prop := ErrV er ∨ (er = .nilIface ∧ (v < 0 ∨ (0 ≤ v ∧ 2147483647 < v) ∨ (0 ≤ v ∧ v ≤ 2147483647 ∧ (Lib.itoa v == s) = false)))
theorem atoiBad {s : Str} (h : num s = none) (w : World) (hg : Gl w) (hs : s.length ≤ 4000000000) :
    Calls Tryz.prog 119 #[sv s] w fun e w' => (∃ v er, e = .returned (.tuple #[I v, er]) ∧ AtoiBad s v er) ∧ Below w.heap.size w w' := by
  rcases ha : Lib.atoiAll s with v | _ | _
  ·
    refine (Tryz.strconv_Atoi_ok ⟨s.toArray⟩ (by show s.toArray.size ≤ _; simp; omega) v ha w).mono ?_
    have hb : AtoiBad s v .nilIface := by
      refine .inr ⟨rfl, ?_⟩
      by_cases h0 : v < 0
      · exact .inl h0
      · by_cases h1 : 2147483647 < v
        · exact .inr (.inl ⟨by omega, h1⟩)
        · refine .inr (.inr ⟨by omega, by omega, ?_⟩)
          rw [beq_eq_false_iff_ne]
          intro e
          obtain ⟨u, rfl⟩ : ∃ u : Nat, v = u := ⟨v.toNat, by omega⟩
          rw [Lib.itoa_nonneg] at e
          rw [(num_iff s u).2 ⟨by omega, e.symm⟩] at h
          cases h
    rintro e w' ⟨rfl, rfl | ⟨t, rfl⟩⟩
    · exact ⟨⟨_, _, rfl, hb⟩, Below.refl _ _⟩
    · exact ⟨⟨_, _, rfl, hb⟩, Lib.bytesWorld_below _ _ _⟩
  ·
    obtain ⟨te, pe, hv⟩ := hg.syn
    refine (Tryz.strconv_Atoi_syntax ⟨s.toArray⟩ (by show s.toArray.size ≤ _; simp; omega) ha (.iface te pe) w hv (.inr ⟨_, _, rfl⟩)).mono ?_
    rintro e w' ⟨N, rfl, h1, h2, h3⟩
    exact ⟨⟨_, _, rfl, .inl ⟨_, _, rfl⟩⟩, h3⟩
  ·
    obtain ⟨te, pe, hv⟩ := hg.rng
    refine (Tryz.strconv_Atoi_range ⟨s.toArray⟩ (by show s.toArray.size ≤ _; simp; omega) ha (.iface te pe) w hv (.inr ⟨_, _, rfl⟩)).mono ?_
    rintro e w' ⟨N, rfl, h1, h2, h3⟩
    exact ⟨⟨_, _, rfl, .inl ⟨_, _, rfl⟩⟩, h3⟩

theorem splitC_le (c : UInt8) (s : Str) : ∀ t ∈ splitC c s, t.length ≤ s.length := by
  induction s with
  | nil => intro t ht; simp [splitC] at ht; subst ht; simp
  | cons x r ih =>
    intro t ht
    simp only [splitC] at ht
    split at ht
    · rcases List.mem_cons.1 ht with rfl | ht
      · simp
      · have := ih t ht; simp; omega
    · cases hs : splitC c r with
      | nil => exact absurd hs (splitC_ne c r)
      | cons a b =>
        rw [hs] at ht ih
        rcases List.mem_cons.1 ht with rfl | ht
        · have := ih a (by simp); simp; omega
        · have := ih t (by simp [ht]); simp; omega

theorem mapM_snoc_some {l : List Str} {s : Str} {ns : List Nat} {n : Nat} (h : l.mapM num = some ns) (hn : num s = some n) : (l ++ [s]).mapM num = some (ns ++ [n]) := by
  rw [List.mapM_append, h]
  simp [hn]
theorem mapM_none {l : List Str} {s : Str} (hm : s ∈ l) (hn : num s = none) : l.mapM num = none := by
  induction l with
  | nil => cases hm
  | cons a l ih =>
    rcases List.mem_cons.1 hm with rfl | hm
    · simp [List.mapM_cons, hn]
    · rw [List.mapM_cons, ih hm]
      cases num a <;> rfl
theorem mapM_length {l : List Str} {ns : List Nat} (h : l.mapM num = some ns) : ns.length = l.length := by
  induction l generalizing ns with
  | nil => simp at h; subst h; rfl
  | cons a l ih =>
    rw [List.mapM_cons] at h
    cases ha : num a with
    | none => rw [ha] at h; simp at h
    | some x =>
      cases hl : l.mapM num with
      | none => rw [ha, hl] at h; simp at h
      | some y =>
        rw [ha, hl] at h
        simp at h
        subst h
        simp [ih hl]

/-- What parseDotted returns. -/
def DotR (B : Nat) (w : World) (v : Value) (o : Option (List Nat)) : Prop := match o with
  | none => v = .slice none 0 0
  | some l => ∃ g c, v = .slice (some ⟨g, 0, none⟩) l.length c ∧ B ≤ g ∧ IntSl w v (l.map fun n : Nat => (n : Int))

set_option maxHeartbeats 4000000 in
set_option maxRecDepth 100000 in
theorem parseDottedC (s : Str) (many : Nat) (w : World) (hg : Gl w) (hs : s.length ≤ 4000000000) (hm0 : 1 ≤ many) (hm : many ≤ 100) :
    Calls Tryz.prog 86 #[sv s, I many] w fun e w' => (∃ v, e = .returned v ∧ DotR w.heap.size w' v (dotted? s many)) ∧ Below w.heap.size w w' := by
  have Hsp := Lib.hid (splitCw s 46 w hg hs)
  have Hle := Lib.hid (splitC_le 46 s)
  have Hd := Lib.hid (show dotted? s many = if (splitC 46 s).length = many then (splitC 46 s).mapM num else none from rfl)
  have hne : 0 < (splitC 46 s).length := by rw [splitC_length]; omega
  generalize splitC 46 s = ws at *
  unfold sv at Hsp ⊢
  by_cases hl : ws.length = many
  · have hl' : (ws.length : Int) = (many : Int) := by omega
    rw [if_pos hl] at Hd
    subst hl
    clear hl'
    have HG := Lib.hid hg
    clear hg
    go_enter Tryz.func86, Tryz.ntmps86
    go_wp2_with (go_at_call 22; refine Hsp.out.mono ?_; rintro e w1 ⟨rfl, hrow, hb0, hsz1⟩)
    have Hrow := Lib.hid hrow
    have Hb0 := Lib.hid hb0
    clear hrow hb0
    go_loopw [6, 19] (fun vo i wr => ∃ (k : Nat) (ns : List Nat) (av : Option Addr) (ac : Nat), vo = .slice av k ac ∧ k ≤ ws.length ∧ i = .int .i64 k ∧ ns.length = k ∧ Hid ((ws.take k).mapM num = some ns) ∧ Hid (Below w1.heap.size w1 wr) ∧ Hid (wr.ownsRow w1.heap.size 3 1 (.slice av k ac) k (iv (ns.map fun n : Nat => (n : Int))))) (fun _ i _ => ws.length - (intOf i).toNat)
    case atStart => exact ⟨0, [], none, 0, rfl, by omega, rfl, rfl, Lib.hid rfl, Lib.hid (Below.refl _ _), Lib.hid (World.ownsRow_nil _ _ _ _)⟩
    case round =>
      obtain ⟨k, ns, av, ac, rfl, hk, rfl, hnl, Hns, Hbw, Hown⟩ := hrel
      have hszr := Hbw.out.size
      by_cases hlt : k < ws.length
      · have hcell : wr.cell? ⟨w.heap.size, k, none⟩ = some (sv ws[k]) := (Hbw.out.cell (p := ⟨w.heap.size, k, none⟩) (by show w.heap.size < w1.heap.size; omega)).trans (Hrow.out.cell (by simp [hlt]))
        have htk : ws.take (k + 1) = ws.take k ++ [ws[k]] := List.take_succ_eq_append_getElem hlt
        have HGr := Lib.hid (HG.out.below (Hb0.out.trans (Hbw.out.mono (by omega))))
        have hq4 : (ws[k]).length ≤ 4000000000 := Nat.le_trans (Hle.out _ (List.getElem_mem _)) hs
        cases hn : num ws[k] with
        | some n =>
          have Hat := Lib.hid (atoiOk hn wr hq4)
          obtain ⟨hn1, hn2⟩ := (num_iff _ _).1 hn
          have Hit := Lib.hid (fun w2 (hb : Below wr.heap.size wr w2) => itoaC (n : Int) ⟨by omega, by omega⟩ w2 (Gl.below HGr.out hb))
          have hbq : (Lib.itoa (n : Int) == ws[k]) = true := by rw [Lib.itoa_nonneg, beq_iff_eq, hn2]
          have Hns2 := Lib.hid (show (ws.take (k + 1)).mapM num = some (ns ++ [n]) by rw [htk]; exact mapM_snoc_some Hns.out hn)
          clear htk hn hn2 hq4
          generalize ws[k] = q at hcell Hat hbq
          unfold sv at hcell Hat
          go_wp2_with (first
            | (go_at_call 119; refine Hat.out.mono ?_; rintro e w2 ⟨rfl, hb2⟩)
            | (go_at_call 46; refine (Hit.out _ hb2).mono ?_; rintro e w3 ⟨rfl, hb3⟩; have hb4 := hb2.trans (hb3.mono hb2.size); have hsz4 := hb4.size; have hown3 := owns_below Hown.out hb4; unfold sv)
            | (at_builtin; go_must (refine wpList_appB rfl _ _ 22 rfl 3 _ 1 8 Tryz.underlying22 info_int rfl (by omega) (by omega) w1.heap.size (.slice av k ac) k (iv (ns.map fun n : Nat => (n : Int))) rfl (hown3.alloc _) w3.heap.size 1 1 #[I n] 3 rfl (heap_alloc_new _ _) rfl rfl (by omega) (by omega) (by rw [World.size_alloc]; omega) ?_); intro g5 cap5 w5 hg1 hg2 hg3 ho5 hgr5 hB5))
          go_roundw
          case rel => exact ⟨k + 1, ns ++ [n], _, _, by go_num, by omega, by go_num, by simp [hnl], Hns2, Lib.hid ((Hbw.out.trans (hb4.mono (by omega))).trans (((Below.refl _ _).alloc (by omega) _).trans hB5)), Lib.hid (by simpa [iv] using ho5)⟩
          case measure => simp [intOf]; omega
        | none =>
          have Hat := Lib.hid (atoiBad hn wr HGr.out hq4)
          have Hit := Lib.hid (fun (v : Int) (h0 : 0 ≤ v) (h1 : v ≤ 2147483647) w2 (hb : Below wr.heap.size wr w2) => itoaC v ⟨by omega, by omega⟩ w2 (Gl.below HGr.out hb))
          have Hno := Lib.hid (mapM_none (List.getElem_mem hlt) hn)
          have Hbr := Lib.hid (Hb0.out.trans (Hbw.out.mono (by omega)))
          clear htk hn hq4
          generalize ws[k] = q at hcell Hat
          unfold sv at hcell Hat
          go_wp2_with (first
            | (go_at_call 119; refine Hat.out.mono ?_; rintro e w2 ⟨⟨v, er, rfl, (⟨t, p, rfl⟩ | ⟨rfl, (h1 | ⟨h0, h1⟩ | ⟨h0, h1, h2⟩)⟩)⟩, hb2⟩)
            | (go_at_call 46; refine (Hit.out _ h0 h1 _ hb2).mono ?_; rintro e w3 ⟨rfl, hb3⟩; have hb4 := hb2.trans (hb3.mono hb2.size); unfold sv))
          all_goals go_ret
          all_goals (rw [Hd.out, Hno.out])
          all_goals first | exact ⟨⟨_, rfl, rfl⟩, Hbr.out.trans (hb4.mono (by omega))⟩ | exact ⟨⟨_, rfl, rfl⟩, Hbr.out.trans (hb2.mono (by omega))⟩
      · obtain rfl : k = ws.length := by omega
        have Hend := Lib.hid (show DotR w.heap.size wr (.slice av ws.length ac) (ws.mapM num) by
          rw [List.take_length] at Hns
          rw [Hns.out]
          have hf := Flat.of_owns Hown.out
          have hl2 : (ns.map fun n : Nat => (n : Int)).length = ws.length := by simp [hnl]
          obtain ⟨_, h0 | ⟨g, cap', cur, hv, hbg, hh, _⟩⟩ := Hown.out
          · exact absurd h0.1 (by omega)
          · injection hv with e1 e2 e3
            subst e1 e3
            exact ⟨g, _, by rw [hnl], by omega, by unfold IntSl; rw [hl2]; exact hf⟩)
        have Hbr := Lib.hid (Hb0.out.trans (Hbw.out.mono (by omega)))
        go_wp2_with fail
        go_ret
        rw [Hd.out]
        exact ⟨⟨_, rfl, Hend.out⟩, Hbr.out⟩
  · have hl' : ((ws.length : Int) == (many : Int)) = false := beq_eq_false_iff_ne.2 (by omega)
    have hl2 : ¬ (ws.length : Int) = (many : Int) := by omega
    rw [if_neg hl] at Hd
    go_enter Tryz.func86, Tryz.ntmps86
    go_wp2_with (go_at_call 22; refine Hsp.out.mono ?_; rintro e w1 ⟨rfl, _, hb, _⟩)
    go_ret
    rw [Hd.out]
    exact ⟨⟨_, rfl, rfl⟩, hb⟩
end Go.Proofs.YtljmonfobefiiaaGreatDoor
