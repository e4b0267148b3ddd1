import Derived.Test.YtljmonfobefiiaaGreatDoorUTG6
import Derived.OpenShut
import Derived.Test.YtljmonfobefiiaaGreatDoorUTF4
import Derived.Test.YtljmonfobefiiaaGreatDoorUTG17
import Derived.Test.YtljmonfobefiiaaGreatDoorUTG16
import Derived.Test.YtljmonfobefiiaaGreatDoorUOT
import Derived.Deep.CutBlock
/- Slices of integers and of bytes that came in, as the walks want them. -/
namespace Go.Proofs.YtljmonfobefiiaaGreatDoor
open Go.RowKit

theorem bounds_u8 {n : Int} (h : (Lit.int .u8 n).wf = true) : IsByte n := by
  simp [Lit.wf, IntKind.min, IntKind.max, IntKind.signed, IntKind.bits] at h
  unfold IsByte
  omega
theorem int_row {w : World} {a : Option Addr} {len cap : Nat} {zs : List Int} (h : (a = none ∧ len = 0 ∧ cap = 0 ∧ zs = []) ∨
    ∃ x, a = some x ∧ len ≤ cap ∧ cap ≤ maxLen ∧ zs.length = cap ∧ (∀ i, i < zs.length → w.cell? (x.add i) = some (.int .i64 (zs.getD i 0))) ∧ ∀ n ∈ zs, (Lit.int .i64 n).wf = true) :
    ∃ l : List Int, IntSl w (.slice a len cap) l ∧ ∀ x ∈ l, InI64 x := by
  rcases h with ⟨rfl, rfl, rfl, rfl⟩ | ⟨x, rfl, h1, h2, h3, h4, h5⟩
  · exact ⟨[], Flat.nil _ _ _ _, fun x hx => by simp at hx⟩
  · refine ⟨zs.take len, ?_, fun y hy => bounds_i64 (h5 y (List.mem_of_mem_take hy))⟩
    have hlen : (zs.take len).length = len := by rw [List.length_take]; omega
    unfold IntSl
    by_cases hz : 0 < zs.length
    · obtain ⟨b, off, rfl, hc⟩ := ints_at h4 hz
      unfold maxLen at h2
      have := Flat.of_cells (w := w) (k := 1) (n := len) (c := cap) (b := b) (o := off) (xs := iv (zs.take len)) (by rw [iv, List.length_map, hlen, Nat.mul_one]) (by omega) (fun j u hu => by
        have hj : j < len := by have := (List.getElem?_eq_some_iff.1 hu).1; simp [iv] at this; omega
        rw [hc j (by omega), ← hu]
        have hjz : j < zs.length := by omega
        simp [iv, hj, hjz])
      rw [hlen]
      exact this
    · have h0 : zs = [] := List.length_eq_zero_iff.1 (by omega)
      subst h0
      have : len = 0 := by simp at h3; omega
      subst this
      exact Flat.nil _ _ _ _

end Go.Proofs.YtljmonfobefiiaaGreatDoor

/- The reference: Few, SameBytes. -/
namespace Go.Proofs.YtljmonfobefiiaaGreatDoor
open Go.RowKit

end Go.Proofs.YtljmonfobefiiaaGreatDoor

/- The reference: Ints. Rows of a tape that are the call's own; Normal, its rows said whole; equal tapes compared. -/
namespace Go.Proofs.YtljmonfobefiiaaGreatDoor
open Go.RowKit

theorem TapeIn.owns {w : World} {B B' : Nat} {k k2 : Option Addr} {c c2 : Nat} {evs : List Ev} {l : List Ans} (h1 : w.ownsRow B 49 8 (.slice k evs.length c) evs.length (evs.flatMap ec)) (h2 : w.ownsRow B' 78 6 (.slice k2 l.length c2) l.length (l.flatMap ac)) : TapeIn w k c k2 c2 evs l := ⟨Flat.of_owns h1, Flat.of_owns h2⟩

theorem own_ne {w : World} {B n k : Nat} {e : TypeId} {v : Value} {xs : List Value} (h : w.ownsRow B e k v n xs) {j : Nat} (hj : j < B) : v.ownBlock = none ∨ v.ownBlock ≠ some j := by
  cases hv : v.ownBlock with
  | none => exact .inl rfl
  | some g => exact .inr (fun e => by have := (h.lt g hv).1; simp at e; omega)

end Go.Proofs.YtljmonfobefiiaaGreatDoor

/- Two rows of one tape that grow side by side. -/
namespace Go.Proofs.YtljmonfobefiiaaGreatDoor
open Go.RowKit

/-- What one ask gives: the answer. -/
def Ask.ans (a : Ask) : Ans := ⟨⟨a.node, a.handler, a.count, a.kind, a.index⟩, a.n⟩
def runEv (l : List Stp) : List Ev := l.map Stp.ev
def runAns (l : List Stp) : List Ans := l.flatMap fun s => s.asks.map Ask.ans
/-- The tape at gt: its rows are the call's own, each in a block of its own. -/
structure Two (W0 W : World) (gt : Nat) (ve va : Value) (evs : List Ev) (l : List Ans) : Prop where
  blk : Blk W gt #[ve, va]
  oe : W.ownsRow (gt + 1) 49 8 ve evs.length (evs.flatMap ec)
  oa : W.ownsRow (gt + 1) 78 6 va l.length (l.flatMap ac)
  ne : ∀ j, ve.ownBlock = some j → va.ownBlock ≠ some j
  below : Below gt W0 W
theorem Two.later {W0 W X : World} {gt : Nat} {ve va : Value} {evs : List Ev} {l : List Ans} (h : Two W0 W gt ve va evs l) (hb : Below W.heap.size W X) : Two W0 X gt ve va evs l :=
  ⟨h.blk.kept hb h.blk.lt, owns_below h.oe hb, owns_below h.oa hb, h.ne, h.below.trans (hb.mono (by have := h.blk.lt; omega))⟩
theorem Two.appE {W0 X w6 : World} {gt : Nat} {ve va : Value} {evs : List Ev} {l : List Ans} (h : Two W0 X gt ve va evs l) (e : Ev) {g6 cap6 n : Nat} (h2 : ve.ownBlock = some g6 ∨ g6 = X.heap.size)
    (h3 : w6.ownsRow (gt + 1) 49 8 (.slice (some ⟨g6, 0, none⟩) (n + 1) cap6) (n + 1) (evs.flatMap ec ++ ec e)) (hn : n = evs.length) (h4 : X.grownBy w6 ve.ownBlock) :
    Two W0 (w6.setCell ⟨gt, 0, none⟩ (.slice (some ⟨g6, 0, none⟩) (n + 1) cap6)) gt (.slice (some ⟨g6, 0, none⟩) (n + 1) cap6) va (evs ++ [e]) l := by
  subst hn
  have hge : gt + 1 ≤ g6 := (h3.lt g6 rfl).1
  have hb6 : Blk w6 gt #[ve, va] := h.blk.grown h4 (fun e => by have := (h.oe.lt gt e).1; omega)
  refine ⟨hb6.set 0 _, ?_, ?_, ?_, ?_⟩
  · rw [List.length_append, List.flatMap_append]
    simp only [List.flatMap_cons, List.flatMap_nil, List.append_nil]
    exact h3.kept (grown_set w6 ⟨gt, 0, none⟩ _) (own_ne h3 (by show gt < gt + 1; omega))
  · refine (h.oa.kept h4 ?_).kept (grown_set w6 ⟨gt, 0, none⟩ _) (own_ne h.oa (by show gt < gt + 1; omega))
    cases hv : va.ownBlock with
    | none => exact .inl rfl
    | some j => exact .inr (fun e => h.ne j e.symm hv)
  · intro j hj hv
    simp [Value.ownBlock] at hj
    subst hj
    rcases h2 with h2 | h2
    · exact h.ne _ h2 hv
    · have := (h.oa.lt _ hv).2
      omega
  · refine (h.below.grown h4 (by have := h.blk.lt; omega) (fun j hj => by have := (h.oe.lt j hj).1; omega)).setCell (by simp) _
theorem Two.appA {W0 X w6 : World} {gt : Nat} {ve va : Value} {evs : List Ev} {l : List Ans} (h : Two W0 X gt ve va evs l) (a : Ans) {g6 cap6 n : Nat} (h2 : va.ownBlock = some g6 ∨ g6 = X.heap.size)
    (h3 : w6.ownsRow (gt + 1) 78 6 (.slice (some ⟨g6, 0, none⟩) (n + 1) cap6) (n + 1) (l.flatMap ac ++ ac a)) (hn : n = l.length) (h4 : X.grownBy w6 va.ownBlock) :
    Two W0 (w6.setCell ⟨gt, 1, none⟩ (.slice (some ⟨g6, 0, none⟩) (n + 1) cap6)) gt ve (.slice (some ⟨g6, 0, none⟩) (n + 1) cap6) evs (l ++ [a]) := by
  subst hn
  have hge : gt + 1 ≤ g6 := (h3.lt g6 rfl).1
  have hb6 : Blk w6 gt #[ve, va] := h.blk.grown h4 (fun e => by have := (h.oa.lt gt e).1; omega)
  refine ⟨hb6.set 1 _, ?_, ?_, ?_, ?_⟩
  · refine (h.oe.kept h4 ?_).kept (grown_set w6 ⟨gt, 1, none⟩ _) (own_ne h.oe (by show gt < gt + 1; omega))
    cases hv : ve.ownBlock with
    | none => exact .inl rfl
    | some j => exact .inr (fun e => h.ne j hv e.symm)
  · rw [List.length_append, List.flatMap_append]
    simp only [List.flatMap_cons, List.flatMap_nil, List.append_nil]
    exact h3.kept (grown_set w6 ⟨gt, 1, none⟩ _) (own_ne h3 (by show gt < gt + 1; omega))
  · intro j hj hv
    simp [Value.ownBlock] at hv
    subst hv
    rcases h2 with h2 | h2
    · exact h.ne _ hj h2
    · have := (h.oe.lt _ hj).2
      omega
  · refine (h.below.grown h4 (by have := h.blk.lt; omega) (fun j hj => by have := (h.oa.lt j hj).1; omega)).setCell (by simp) _
theorem runEv_snoc {l : List Stp} {k : Nat} (h : k < l.length) : runEv (l.take (k + 1)) = runEv (l.take k) ++ [l[k].ev] := by
  unfold runEv
  rw [List.take_succ_eq_append_getElem h, List.map_append]
  rfl
theorem runAns_snoc {l : List Stp} {k : Nat} (h : k < l.length) : runAns (l.take (k + 1)) = runAns (l.take k) ++ l[k].asks.map Ask.ans := by
  unfold runAns
  rw [List.take_succ_eq_append_getElem h, List.flatMap_append]
  simp
theorem runEv_length (l : List Stp) : (runEv l).length = l.length := by simp [runEv]
theorem runAns_length : ∀ (l : List Stp) (m : Nat), (∀ s ∈ l, s.asks.length ≤ m) → (runAns l).length ≤ l.length * m
  | [], _, _ => by simp [runAns]
  | s :: l, m, h => by
    have ih := runAns_length l m (fun t ht => h t (by simp [ht]))
    have h0 := h s (by simp)
    simp only [runAns, List.flatMap_cons, List.length_append, List.length_map, List.length_cons] at ih ⊢
    rw [Nat.add_mul]
    omega
theorem asks_snoc {l : List Ask} {j : Nat} (h : j < l.length) (r : List Ans) : r ++ (l.take (j + 1)).map Ask.ans = (r ++ (l.take j).map Ask.ans) ++ [l[j].ans] := by
  rw [List.take_succ_eq_append_getElem h, List.map_append, List.append_assoc]
  rfl
end Go.Proofs.YtljmonfobefiiaaGreatDoor

/- story.Parse. -/
namespace Go.Proofs.YtljmonfobefiiaaGreatDoor
open Go.RowKit

/-! ### Plain facts -/
theorem hasSuffix_nl (s : Str) : Lib.hasSuffix s [10] = decide (s.getLast? = some 10) := by
  rw [Bool.eq_iff_iff]
  unfold Lib.hasSuffix
  rw [List.isSuffixOf_iff_suffix, decide_eq_true_eq]
  constructor
  · rintro ⟨t, rfl⟩
    simp
  · intro h
    have hne : s ≠ [] := by rintro rfl; simp at h
    refine ⟨s.dropLast, ?_⟩
    rw [List.getLast?_eq_some_getLast hne] at h
    injection h with h
    rw [← h]
    exact List.dropLast_concat_getLast hne
theorem trimSuffix_nl (s : Str) (h : s.getLast? = some 10) : Lib.trimSuffix s [10] = s.dropLast := by
  unfold Lib.trimSuffix
  rw [hasSuffix_nl, h]
  simp [List.dropLast_eq_take]
theorem splitC_sum (c : UInt8) (s : Str) : ((splitC c s).map List.length).sum ≤ s.length := by
  induction s with
  | nil => simp [splitC]
  | cons x r ih =>
    simp only [splitC]
    split
    · simp; omega
    · cases hs : splitC c r with
      | nil => exact absurd hs (splitC_ne c r)
      | cons a b => rw [hs] at ih; simp at ih ⊢; omega
theorem asks_len (f : Nat) (r : RS) : (r.asks f).1.length ≤ r.rest.length := by
  induction f generalizing r with
  | zero => simp [RS.asks]
  | succ f ih =>
    by_cases hb : r.bad = true
    · rw [RS.asks_bad _ _ hb]; simp
    · by_cases hh : r.has [32, 91] = true
      · rw [RS.asks_yes f r (by simpa using hb) hh]
        have h1 := ih (r.skip [32, 91]).askR
        have h2 := RS.askR_le (r.skip [32, 91])
        have h3 := RS.skip_less r _ hh
        have h4 : ([32, 91] : Str).length = 2 := rfl
        simp only [List.length_cons]
        omega
      · rw [RS.asks_no _ _ (by simpa using hh)]; simp
theorem lineA_len (i : Nat) (s : Str) : (lineA i s).1.length ≤ s.length := by
  have h1 := asks_len (s.length + 1) (lineR i s)
  have h2 : (lineR i s).rest.length ≤ (lineHead i s).rest.length := RS.until_le (lineHead i s) evSeps
  have h3 : (lineHead i s).rest.length ≤ s.length := RS.skip_le ⟨s, false⟩ (head i)
  unfold lineA
  omega
theorem num_le {s : Str} {n : Nat} (h : num s = some n) : n ≤ 2147483647 := ((num_iff _ _).1 h).1
theorem mapM_le {l : List Str} {ns : List Nat} (h : l.mapM num = some ns) : ∀ n ∈ ns, n ≤ 2147483647 := by
  induction l generalizing ns with
  | nil => simp at h; subst h; simp
  | cons a l ih =>
    rw [List.mapM_cons] at h
    cases ha : num a with
    | none => rw [ha] at h; simp at h
    | some x =>
      cases hl : l.mapM num with
      | none => rw [ha, hl] at h; simp at h
      | some y =>
        rw [ha, hl] at h
        simp at h
        subst h
        intro n hn
        rcases List.mem_cons.1 hn with rfl | hn
        · exact num_le ha
        · exact ih hl n hn
theorem dotted_le {s : Str} {m : Nat} {l : List Nat} (h : dotted? s m = some l) : ∀ n ∈ l, n ≤ 2147483647 := by
  unfold dotted? at h
  split at h
  · exact mapM_le h
  · cases h
theorem parseQn_ok {s : Str} {q : Qn} (h : parseQn s = some q) : q.ok := by
  unfold parseQn at h
  simp only [] at h
  split at h
  · cases h
  · split at h
    · rename_i a b c i h3 h1
      split at h
      · injection h with h
        subst h
        have hk := kindTo_le quWords ((splitC 32 s).getD 0 []) 4
        have ha := dotted_le h3
        have hi := dotted_le h1
        have h4 : kindOf quWords ((splitC 32 s).getD 0 []) ≤ 3 := hk
        generalize kindOf quWords ((splitC 32 s).getD 0 []) = kq at h4 ⊢
        intro n hn
        have e0 := ha a (by simp)
        have e1 := ha b (by simp)
        have e2 := ha c (by simp)
        have e3 := hi i (by simp)
        simp [Qn.ints] at hn
        unfold InI64
        omega
      · cases h
    · cases h
theorem askA_ok (r : RS) : (r.askA).ok := by
  refine ⟨?_, ?_⟩
  · show ((parseQn (r.text [[32, 61, 32], [93]])).getD qnNil).ok
    cases h : parseQn (r.text [[32, 61, 32], [93]]) with
    | some q => exact parseQn_ok h
    | none =>
      intro n hn
      simp [qnNil, Qn.ints] at hn
      subst hn
      unfold InI64
      omega
  · show InI64 (r.askN : Int)
    have := numberV_le (r.ask1.text [[47], [93]])
    have h : r.askN = numberV (r.ask1.text [[47], [93]]) := rfl
    unfold InI64
    omega
theorem asks_ok (f : Nat) (r : RS) : ∀ a ∈ (r.asks f).1, a.ok := by
  induction f generalizing r with
  | zero => simp [RS.asks]
  | succ f ih =>
    by_cases hb : r.bad = true
    · rw [RS.asks_bad _ _ hb]; simp
    · by_cases hh : r.has [32, 91] = true
      · rw [RS.asks_yes f r (by simpa using hb) hh]
        intro a ha
        rcases List.mem_cons.1 ha with rfl | ha
        · exact askA_ok _
        · exact ih _ a ha
      · rw [RS.asks_no _ _ (by simpa using hh)]; simp
theorem line_eq (i : Nat) (s : Str) : line i s = if (lineEnd i s).bad then none else some ((lineEv i s).getD evNil, (lineA i s).1) := rfl
theorem lines_cons (i : Nat) (s : Str) (l : List Str) : lines i (s :: l) = match line i s with
    | none => none
    | some (e, a) => match lines (i + 1) l with
      | none => none
      | some (es, more) => some (e :: es, a ++ more) := rfl

/-! ### What stands in memory -/
theorem own_types {W : World} {B B' e e' k k' n n' : Nat} {v v' : Value} {xs xs' : List Value} (h : W.ownsRow B e k v n xs) (h' : W.ownsRow B' e' k' v' n' xs') (hne : e ≠ e') : ∀ j, v.ownBlock = some j → v'.ownBlock ≠ some j := by
  intro j hj hj'
  obtain ⟨_, h0 | ⟨g, cap, cur, hv, hb, hh, _⟩⟩ := h
  · rw [h0.1] at hj; cases hj
  · obtain ⟨_, h0' | ⟨g', cap', cur', hv', hb', hh', _⟩⟩ := h'
    · rw [h0'.1] at hj'; cases hj'
    · rw [hv] at hj; rw [hv'] at hj'
      simp [Value.ownBlock] at hj hj'
      subst hj hj'
      rw [hh] at hh'
      injection hh' with hh'
      injection hh' with h1 h2 h3
      exact hne h2
theorem own_str {W : World} {B e k n g : Nat} {v : Value} {xs : List Value} {l : List Str} (h : W.ownsRow B e k v n xs) (hs : StrRow W g l) (hne : e ≠ 9) : v.ownBlock ≠ some g := by
  intro hj
  obtain ⟨_, h0 | ⟨g', cap, cur, hv, hb, hh, _⟩⟩ := h
  · rw [h0.1] at hj; cases hj
  · rw [hv] at hj
    simp [Value.ownBlock] at hj
    subst hj
    unfold StrRow at hs
    rw [hh] at hs
    injection hs with hs
    injection hs with h1 h2 h3
    exact hne h2
theorem StrRow.grownV {w w' : World} {g : Nat} {l : List Str} {row : Option Nat} (h : StrRow w g l) (hb : w.grownBy w' row) (hne : row ≠ some g) : StrRow w' g l := (hb.block g h.lt (fun e => hne e.symm)).trans h
/-- Many answers behind a tape's answers. -/
theorem Two.appAs {W0 X w6 : World} {gt : Nat} {ve va u : Value} {evs : List Ev} {l more : List Ans} {n m : Nat} (h : Two W0 X gt ve va evs l)
    (h3 : w6.ownsRow (gt + 1) 78 6 u (n + m) (l.flatMap ac ++ more.flatMap ac)) (hn : n = l.length) (hm : m = more.length) (h4 : X.grownBy w6 va.ownBlock) :
    Two W0 (w6.setCell ⟨gt, 1, none⟩ u) gt ve u evs (l ++ more) := by
  subst hn hm
  have hb6 : Blk w6 gt #[ve, va] := h.blk.grown h4 (fun e => by have := (h.oa.lt gt e).1; omega)
  have hoe : w6.ownsRow (gt + 1) 49 8 ve evs.length (evs.flatMap ec) := h.oe.kept h4 (by
    cases hv : ve.ownBlock with
    | none => exact .inl rfl
    | some j => exact .inr (fun e => h.ne j hv e.symm))
  refine ⟨hb6.set 1 _, ?_, ?_, own_types hoe h3 (by decide), ?_⟩
  · exact hoe.kept (grown_set w6 ⟨gt, 1, none⟩ _) (own_ne hoe (by show gt < gt + 1; omega))
  · rw [List.length_append, List.flatMap_append]
    exact h3.kept (grown_set w6 ⟨gt, 1, none⟩ _) (own_ne h3 (by show gt < gt + 1; omega))
  · refine (h.below.grown h4 (by have := h.blk.lt; omega) (fun j hj => by have := (h.oa.lt j hj).1; omega)).setCell (by simp) _

/-- The answer of Parse: the tape and the code. -/
def PRes.evs : PRes → List Ev
  | .ok e _ => e
  | _ => []
def PRes.ans : PRes → List Ans
  | .ok _ a => normA a
  | _ => []
def PRes.code : PRes → Int
  | .ok _ _ => 0
  | .form => 8
  | .limit => 2
theorem loadTp {w : World} {g : Nat} {cs : Array Value} (hb : Blk w g cs) (hl : cs.size = 2) : (loadVar 32 ⟨g, 0, none⟩).run Tryz.prog w = .ok (.agg cs) w := by
  obtain ⟨t, ht⟩ := hb
  exact run_loadVar_row w g t 32 cs (0, 0) _ ht Tryz.underlying32 rfl (by rw [hl]; kernel_rfl)
def ParseP (w : World) (r : PRes) (e : Ending) (w' : World) : Prop := (∃ k c k2 c2, e = .returned (.tuple #[tv k c k2 c2 r.evs r.ans, I r.code]) ∧ TapeIn w' k c k2 c2 r.evs r.ans) ∧ Below w.heap.size w w'
theorem parseFin {w W : World} {r : PRes} {tmps : Array Value} {k k2 : Option Addr} {c c2 : Nat} (hb : Blk W w.heap.size #[.slice k r.evs.length c, .slice k2 r.ans.length c2]) (hT : TapeIn W k c k2 c2 r.evs r.ans) (hB : Below w.heap.size w W)
    (h2 : tmps.getD 2 undef = .pointer (some ⟨w.heap.size, 0, none⟩)) (h3 : tmps.getD 3 undef = I r.code) :
    bodyPost Tryz.prog Tryz.f9 (ParseP w r) .ret { tmps := tmps, defers := [] } W := by
  have hr := results_c2 Tryz.results9 tmps W w.heap.size _ (loadTp hb rfl) h2
  rw [h3] at hr
  exact bodyPost_ret hr rfl ⟨⟨k, c, k2, c2, rfl, hT⟩, hB⟩
theorem zeroFin {w W : World} {r : PRes} {tmps : Array Value} (hr : r.evs = [] ∧ r.ans = []) (hb : Blk W w.heap.size #[.slice none 0 0, .slice none 0 0]) (hB : Below w.heap.size w W)
    (h2 : tmps.getD 2 undef = .pointer (some ⟨w.heap.size, 0, none⟩)) (h3 : tmps.getD 3 undef = I r.code) :
    bodyPost Tryz.prog Tryz.f9 (ParseP w r) .ret { tmps := tmps, defers := [] } W :=
  parseFin (k := none) (c := 0) (k2 := none) (c2 := 0) (by rw [hr.1, hr.2]; exact hb) (by rw [hr.1, hr.2]; exact ⟨Flat.nil _ _ _ _, Flat.nil _ _ _ _⟩) hB h2 h3
set_option maxHeartbeats 16000000 in
set_option maxRecDepth 100000 in
theorem parseC (s : Str) (w : World) (hg : Gl w) (hs : s.length ≤ 10000) :
    Calls Tryz.prog 9 #[sv s] w (ParseP w (story s)) := by
  have HR := Lib.hid (show story s = if 5000 < s.count 10 then .limit else if s = [] then .ok [] [] else if s.getLast? = some 10 then (match lines 0 (splitC 10 s.dropLast) with | some (e, a) => .ok e a | none => .form) else .form from rfl)
  have hB0 : Below w.heap.size w (w.alloc (.cells #[.slice none 0 0, .slice none 0 0] 32)) := (Below.refl _ _).alloc (Nat.le_refl _) _
  have hb0 := Blk.new w #[.slice none 0 0, .slice none 0 0] 32
  have HB0 := Lib.hid hB0
  have Hb0 := Lib.hid hb0
  have HG := Lib.hid hg
  have hcnt : s.count 10 ≤ s.length := List.count_le_length
  obtain ⟨r, hr⟩ : ∃ r, r = story s := ⟨_, rfl⟩
  rw [← hr] at HR ⊢
  clear hr hB0 hb0 hg
  by_cases hc : 5000 < s.count 10
  · have hrr := HR.out
    rw [if_pos hc] at hrr
    subst hrr
    have hc' : (5000 : Int) < ((s.count 10 : Nat) : Int) := by omega
    have Hct := Lib.hid (countC s 10 (w.alloc (.cells #[.slice none 0 0, .slice none 0 0] 32)))
    clear HR hcnt hc
    generalize s.count 10 = n at Hct hc'
    unfold sv at Hct ⊢
    go_enter Tryz.func9, Tryz.ntmps9
    go_wp2_with (go_at_call 20; refine Hct.out.mono ?_; rintro e w1 ⟨rfl, rfl⟩)
    exact zeroFin ⟨rfl, rfl⟩ Hb0.out HB0.out rfl rfl
  · have hc' : ¬ (5000 : Int) < ((s.count 10 : Nat) : Int) := by omega
    have Hct := Lib.hid (countC s 10 (w.alloc (.cells #[.slice none 0 0, .slice none 0 0] 32)))
    have Hcut := Lib.hid (fun X => cutSuffixC s [10] X (by omega))
    have hb2 := (Blk.new w #[.slice none 0 0, .slice none 0 0] 32).alloc (.cells #[.slice none 0 0, .slice none 0 0] 32)
    have hB2 : Below w.heap.size w ((w.alloc (.cells #[.slice none 0 0, .slice none 0 0] 32)).alloc (.cells #[.slice none 0 0, .slice none 0 0] 32)) := HB0.out.alloc (by rw [World.size_alloc]; omega) _
    have Hb2 := Lib.hid hb2
    have HB2 := Lib.hid hB2
    clear hb2 hB2
    have hrr := HR.out
    rw [if_neg hc] at hrr
    by_cases hs0 : s = []
    · rw [if_pos hs0] at hrr
      subst hrr hs0
      clear HR hcnt hc
      generalize ([] : Str).count 10 = n at Hct hc'
      unfold sv at Hct Hcut ⊢
      go_enter Tryz.func9, Tryz.ntmps9
      go_wp2_with (first | (go_at_call 20; refine Hct.out.mono ?_; rintro e w1 ⟨rfl, rfl⟩) | (go_at_call 21; refine (Hcut.out _).mono ?_; rintro e w2 ⟨rfl, rfl⟩))
      exact zeroFin ⟨rfl, rfl⟩ Hb2.out HB2.out rfl rfl
    · rw [if_neg hs0] at hrr
      have hemp : List.isEmpty s = false := by cases s with | nil => exact absurd rfl hs0 | cons a b => rfl
      by_cases hnl : s.getLast? = some 10
      · rw [if_pos hnl] at hrr
        have hsuf : Lib.hasSuffix s [10] = true := by rw [hasSuffix_nl]; exact decide_eq_true hnl
        have htr := trimSuffix_nl s hnl
        rw [hsuf, htr] at Hcut
        have hbody : s.dropLast.length ≤ 10000 := by simp; omega
        have hsum : ((splitC 10 s.dropLast).map List.length).sum ≤ 10000 := Nat.le_trans (splitC_sum 10 s.dropLast) hbody
        have hwl : (splitC 10 s.dropLast).length ≤ 10001 := by
          rw [splitC_length]
          have := List.count_le_length (a := (10 : UInt8)) (l := s.dropLast)
          omega
        have HspX := Lib.hid (fun X (hX : Gl X) => splitCw s.dropLast 10 X hX (by omega))
        have Hrr := Lib.hid hrr
        clear HR hcnt hc hrr hsuf htr hnl hs0
        generalize s.dropLast = body at HspX Hcut hbody hsum hwl Hrr
        generalize splitC 10 body = ws at HspX hsum hwl Hrr
        generalize s.count 10 = n at Hct hc'
        unfold sv at Hct Hcut HspX ⊢
        go_enter Tryz.func9, Tryz.ntmps9
        go_wp2_with (first | (go_at_call 20; refine Hct.out.mono ?_; rintro e w1 ⟨rfl, rfl⟩) | (go_at_call 21; refine (Hcut.out _).mono ?_; rintro e w2 ⟨rfl, rfl⟩) | (go_at_call 22; refine (HspX.out _ ((HG.out.alloc _).alloc _)).mono ?_; rintro e X0 ⟨rfl, hrw, hbX, hzX⟩))
        have hz0 : (w.alloc (.cells #[.slice none 0 0, .slice none 0 0] 32)).heap.size = w.heap.size + 1 := World.size_alloc _ _
        have hz1 : ((w.alloc (.cells #[.slice none 0 0, .slice none 0 0] 32)).alloc (.cells #[.slice none 0 0, .slice none 0 0] 32)).heap.size = w.heap.size + 1 + 1 := by rw [World.size_alloc, hz0]
        have htw : Two (w.alloc (.cells #[.slice none 0 0, .slice none 0 0] 32)) X0 (w.heap.size + 1) (.slice none 0 0) (.slice none 0 0) [] [] := by
          refine ⟨?_, World.ownsRow_nil _ _ _ _, World.ownsRow_nil _ _ _ _, fun j hj => by simp [Value.ownBlock] at hj, ?_⟩
          · have := (Blk.new (w.alloc (.cells #[.slice none 0 0, .slice none 0 0] 32)) #[.slice none 0 0, .slice none 0 0] 32)
            rw [hz0] at this
            exact this.kept hbX (by omega)
          · exact ((Below.refl _ _).alloc (by omega) _).trans (hbX.mono (by omega))
        rw [hz1] at hrw
        have HGW := Lib.hid (HG.out.alloc (.cells #[.slice none 0 0, .slice none 0 0] 32))
        have Htw := Lib.hid htw
        have Hrw := Lib.hid hrw
        have hbX2 := hbX.size
        rw [hz1] at hbX2 hzX
        clear htw hrw hbX hz1 Hcut Hct HspX hc' Hb2 HB2
        obtain ⟨W0, hW0⟩ : ∃ W0, W0 = w.alloc (.cells #[.slice none 0 0, .slice none 0 0] 32) := ⟨_, rfl⟩
        rw [← hW0] at Hb0 HB0 HGW Htw hz0
        clear hW0
        go_loopw [32] (fun i wr => ∃ (k : Nat) (ke : Option Addr) (ce : Nat) (ka : Option Addr) (ca : Nat) (E : List Ev) (A : List Ans), i = .int .i64 k ∧ k ≤ ws.length ∧ E.length = k ∧ Hid (Two W0 wr (w.heap.size + 1) (.slice ke k ce) (.slice ka A.length ca) E A) ∧ Hid (StrRow wr (w.heap.size + 1 + 1) ws) ∧ Hid (lines 0 ws = match lines k (ws.drop k) with | none => none | some (es, more) => some (E ++ es, A ++ more)) ∧ Hid (A.length + ((ws.drop k).map List.length).sum ≤ 10000) ∧ Hid (∀ a ∈ A, a.ok)) (fun i _ => ws.length - (intOf i).toNat)
        case atStart => exact ⟨0, none, 0, none, 0, [], [], rfl, by omega, rfl, Htw, Hrw, Lib.hid (by rw [List.drop_zero]; cases lines 0 ws with | none => rfl | some x => rfl), Lib.hid (by simpa using hsum), Lib.hid (by simp)⟩
        case round =>
          obtain ⟨k, ke, ce, ka, ca, E, A, rfl, hk, hE, Htw, Hrw, Hln, Hsm, Hok⟩ := hrel
          have hgt := Htw.out.blk.lt
          have hR0 : Blk wr w.heap.size #[.slice none 0 0, .slice none 0 0] := Hb0.out.kept Htw.out.below (by omega)
          have hGr : Gl wr := HGW.out.below (by rw [hz0]; exact Htw.out.below)
          have hBr : Below w.heap.size w wr := HB0.out.trans (Htw.out.below.mono (by omega))
          by_cases hlt : k < ws.length
          · have hcell : wr.cell? ⟨w.heap.size + 1 + 1, k, none⟩ = some (sv ws[k]) := StrRow.cell Hrw.out (by simp [hlt])
            have hdr := List.drop_eq_getElem_cons hlt
            have hsm := Hsm.out
            rw [hdr] at hsm
            simp only [List.map_cons, List.sum_cons] at hsm
            have hln := Hln.out
            rw [hdr, lines_cons, line_eq] at hln
            have hla := lineA_len k ws[k]
            have hoA := asks_ok (ws[k].length + 1) (lineR k ws[k])
            have HoA := Lib.hid (show ∀ a ∈ (lineA k ws[k]).1, a.ok from hoA)
            have hlc := lineC k ws[k] wr.heap.size (wr.alloc (.cells #[sv ws[k], .bool false] 69)) (Blk.new _ _ _) (hGr.alloc _) (by have := hGr.low; omega) (by omega) (by omega)
            have Hlc := Lib.hid hlc
            have Hln2 := Lib.hid hln
            have Hsm2 := Lib.hid hsm
            have HGr := Lib.hid hGr
            have HBr := Lib.hid hBr
            have HR0 := Lib.hid hR0
            clear hdr hsm hln hlc hoA hR0 hGr hBr
            generalize ws[k] = text at hcell Hlc Hln2 Hsm2 HoA hla
            generalize (lineEv k text).getD evNil = ev at Hlc Hln2
            generalize (lineA k text).1 = la at Hlc Hln2 HoA hla
            generalize lineEnd k text = le at Hlc Hln2
            unfold sv at hcell Hlc
            go_upto_region 14 with (go_at_call 23; refine Hlc.out.mono ?_; rintro e w1 ⟨va, rfl, hsl, hfr, k1, g1⟩; obtain ⟨qa, qc, rfl, _⟩ := hsl.open; unfold eva)
            have hpa : (wr.alloc (.cells #[.string ⟨text.toArray⟩, .bool false] 69)).heap.size = wr.heap.size + 1 := World.size_alloc _ _
            have hs1 := g1.size
            have hfr2 : ∀ x, qa = some x → wr.heap.size + 1 ≤ x.block := fun x hx => by
              have := hfr x.block (by rw [hx]; rfl)
              omega
            have hbw1 : Below wr.heap.size wr w1 := ((Below.refl _ _).alloc (Nat.le_refl _) _).grown g1 (by omega) (fun j hj => by have := Option.some.inj hj; omega)
            have hev1 := Blk.new w1 (eva ev) 49
            have hTw1 := (Htw.out.later hbw1).later ((Below.refl w1.heap.size w1).alloc (Nat.le_refl _) (.cells (eva ev) 49))
            have hrd1 : RAt (w1.alloc (.cells (eva ev) 49)) wr.heap.size le := RAt.below k1 ((Below.refl _ _).alloc (Nat.le_refl _) _)
            have hrw1 : StrRow (w1.alloc (.cells (eva ev) 49)) (w.heap.size + 1 + 1) ws := (StrRow.below (Hrw.out.below hbw1) ((Below.refl _ _).alloc (Nat.le_refl _) _))
            have hsl1 : AnsSl (w1.alloc (.cells (eva ev) 49)) (.slice qa la.length qc) la := hsl.kept ((Below.refl _ _).alloc (Nat.le_refl _) _) (Nat.le_refl _)
            have hR1 : Blk (w1.alloc (.cells (eva ev) 49)) w.heap.size #[.slice none 0 0, .slice none 0 0] := (HR0.out.kept hbw1 HR0.out.lt).alloc _
            have hB1 : Below w.heap.size w (w1.alloc (.cells (eva ev) 49)) := (HBr.out.trans (hbw1.mono HBr.out.size)).alloc (by have := HBr.out.size; omega) _
            have hw1z : wr.heap.size < w1.heap.size := by omega
            have hzV : (w1.alloc (.cells (eva ev) 49)).heap.size = w1.heap.size + 1 := World.size_alloc _ _
            unfold eva at hev1 hTw1 hrd1 hrw1 hsl1 hR1 hB1 hzV
            obtain ⟨V, hV⟩ : ∃ V, V = w1.alloc (.cells #[I ev.kind, I ev.node, I ev.arg, I ev.msg.node, I ev.msg.handler, I ev.msg.count, I ev.msg.index, I ev.msg.copy] 49) := ⟨_, rfl⟩
            rw [← hV] at hev1 hTw1 hrd1 hrw1 hsl1 hR1 hB1 hzV ⊢
            have Hzv := Lib.hid hzV
            clear hV hsl hfr k1 g1 hpa hs1 hbw1 hzV
            have cb : V.cell? ⟨wr.heap.size, 1, none⟩ = some (.bool le.bad) := Blk.cell hrd1 1
            have HTw1 := Lib.hid hTw1
            have Hrw1 := Lib.hid hrw1
            have Hsl1 := Lib.hid hsl1
            have HR1 := Lib.hid hR1
            have HB1 := Lib.hid hB1
            have Hev1 := Lib.hid hev1
            clear hTw1 hrw1 hsl1 hR1 hB1 hrd1 hev1
            cases hbad : le.bad with
            | true =>
              rw [hbad] at cb Hln2
              have HF := Lib.hid (show r = .form by rw [Hrr.out, Hln2.out]; rfl)
              have z0 := HR1.out.cell 0; have z1 := HR1.out.cell 1
              have f0 := HR1.out.frozen 0; have f1 := HR1.out.frozen 1
              go_wp2_with fail
              have h1 := (HR1.out.set 0 (.slice none 0 0)).set 1 (.slice none 0 0)
              have hg := (grownSet V ⟨w.heap.size, 0, none⟩ (.slice none 0 0)).trans (grownSet _ ⟨w.heap.size, 1, none⟩ (.slice none 0 0))
              have hfr := HF.out
              subst hfr
              exact zeroFin ⟨rfl, rfl⟩ h1 (HB1.out.grown hg HB1.out.size (fun j hj => by have h := Option.some.inj hj; change w.heap.size = j at h; omega)) rfl rfl
            | false =>
              rw [hbad] at cb Hln2
              have HL3 := Lib.hid (show lines 0 ws = match lines (k + 1) (ws.drop (k + 1)) with | none => none | some (es, more) => some ((E ++ [ev]) ++ es, (A ++ la) ++ more) by
                rw [Hln2.out]
                simp only [Bool.false_eq_true, if_false]
                cases lines (k + 1) (ws.drop (k + 1)) with
                | none => rfl
                | some x => simp)
              have t0 : V.cell? ⟨w.heap.size + 1, 0, none⟩ = some (.slice ke k ce) := HTw1.out.blk.cell 0
              have m0 := Hev1.out.cell 0; have m1 := Hev1.out.cell 1; have m2 := Hev1.out.cell 2; have m3 := Hev1.out.cell 3; have m4 := Hev1.out.cell 4; have m5 := Hev1.out.cell 5; have m6 := Hev1.out.cell 6; have m7 := Hev1.out.cell 7
              have HEk := Lib.hid hE
              clear hE
              go_upto_region 17 with (at_builtin; go_must (refine wpList_appB rfl _ _ 29 rfl 49 _ 8 64 Tryz.underlying29 info_Event rfl (by omega) (by omega) (w.heap.size + 1 + 1) (.slice ke k ce) k (E.flatMap ec) rfl (by have h := HTw1.out.oe; rw [HEk.out] at h; exact h.alloc _) V.heap.size 1 1 #[I ev.kind, I ev.node, I ev.arg, I ev.msg.node, I ev.msg.handler, I ev.msg.count, I ev.msg.index, I ev.msg.copy] 49 rfl (heap_alloc_new _ _) rfl rfl (by omega) (by omega) (by rw [World.size_alloc]; have := Hzv.out; omega) ?_); intro g6 cap6 w6 hg1 hg2 hg3 ho6 hgr6 hB6; have hb6 := (HTw1.out.later ((Below.refl _ _).alloc (Nat.le_refl _) (.cells #[I ev.kind, I ev.node, I ev.arg, I ev.msg.node, I ev.msg.handler, I ev.msg.count, I ev.msg.index, I ev.msg.copy] 49))).blk.grown hgr6 (fun e => by have := (HTw1.out.oe.lt _ e).1; omega); have x0 := hb6.cell 0; have y0 := hb6.frozen 0)
              have HTwA := HTw1.out.later ((Below.refl _ _).alloc (Nat.le_refl _) (.cells #[I ev.kind, I ev.node, I ev.arg, I ev.msg.node, I ev.msg.handler, I ev.msg.count, I ev.msg.index, I ev.msg.copy] 49))
              have hTwY := HTwA.appE ev hg3 (by simpa [ec, iv, Ev.ints] using ho6) HEk.out.symm hgr6
              have hVA : (V.alloc (.cells #[I ev.kind, I ev.node, I ev.arg, I ev.msg.node, I ev.msg.handler, I ev.msg.count, I ev.msg.index, I ev.msg.copy] 49)).heap.size = V.heap.size + 1 := World.size_alloc _ _
              have hrwA := Hrw1.out.below ((Below.refl V.heap.size V).alloc (Nat.le_refl _) (.cells #[I ev.kind, I ev.node, I ev.arg, I ev.msg.node, I ev.msg.handler, I ev.msg.count, I ev.msg.index, I ev.msg.copy] 49))
              have hrw6 := hrwA.grownV hgr6 (own_str HTwA.oe hrwA (by decide))
              have hrwY := hrw6.grown (grownSet w6 ⟨w.heap.size + 1, 0, none⟩ (.slice (some ⟨g6, 0, none⟩) (k + 1) cap6)) (by show w.heap.size + 1 + 1 ≠ w.heap.size + 1; omega)
              have hslA := Hsl1.out.kept ((Below.refl V.heap.size V).alloc (Nat.le_refl _) (.cells #[I ev.kind, I ev.node, I ev.arg, I ev.msg.node, I ev.msg.handler, I ev.msg.count, I ev.msg.index, I ev.msg.copy] 49)) (Nat.le_refl _)
              have hsl6 : AnsSl w6 (.slice qa la.length qc) la := Flat.grownO hslA hgr6 (fun x hx hrow => by
                have h1 := hfr2 x hx
                have h2 := (Htw.out.oe.lt _ hrow).2
                omega)
              have hslY : AnsSl (w6.setCell ⟨w.heap.size + 1, 0, none⟩ (.slice (some ⟨g6, 0, none⟩) (k + 1) cap6)) (.slice qa la.length qc) la := Flat.grownO hsl6 (grownSet w6 ⟨w.heap.size + 1, 0, none⟩ (.slice (some ⟨g6, 0, none⟩) (k + 1) cap6)) (fun x hx hrow => by
                have h1 := hfr2 x hx
                have h2 := Option.some.inj hrow
                change w.heap.size + 1 = x.block at h2
                omega)
              have h6z := hgr6.size
              have hYz : (w6.setCell ⟨w.heap.size + 1, 0, none⟩ (.slice (some ⟨g6, 0, none⟩) (k + 1) cap6)).heap.size = w6.heap.size := by simp
              obtain ⟨Y, hY⟩ : ∃ Y, Y = w6.setCell ⟨w.heap.size + 1, 0, none⟩ (.slice (some ⟨g6, 0, none⟩) (k + 1) cap6) := ⟨_, rfl⟩
              rw [← hY] at hTwY hrwY hslY hYz ⊢
              have hYs : w.heap.size + 1 + 1 ≤ Y.heap.size := by have := Hzv.out; omega
              have HTwY := Lib.hid hTwY
              have HrwY := Lib.hid hrwY
              have HslY := Lib.hid hslY
              clear hY hTwY hrwY hslY hYz hsl6 hslA hrw6 hrwA HTwA hVA h6z ho6 hgr6 hB6 hb6 x0 y0 t0 m0 m1 m2 m3 m4 m5 m6 m7 hg3
              have t1 : Y.cell? ⟨w.heap.size + 1, 1, none⟩ = some (.slice ka A.length ca) := HTwY.out.blk.cell 1
              have hlaA : A.length + la.length ≤ 10000 := by have := Hsm2.out; omega
              go_wp2_with (at_builtin; go_must (refine wpList_appG rfl _ _ 30 rfl 78 _ 6 48 Tryz.underlying30 info_Answer rfl (by omega) (by omega) (w.heap.size + 1 + 1) (.slice ka A.length ca) A.length (A.flatMap ac) rfl HTwY.out.oa (.slice qa la.length qc) rfl la.length (la.flatMap ac) HslY.out (by intro u hu; obtain ⟨x, _, hx⟩ := List.mem_flatMap.1 hu; simp [ac, iv, Ans.ints] at hx; rcases hx with rfl | rfl | rfl | rfl | rfl | rfl <;> rfl) (by omega) hYs ?_); intro u w7 ho7 hgr7 hB7; have hb7 := HTwY.out.blk.grown hgr7 (fun e => by have := (HTwY.out.oa.lt _ e).1; omega); have x1 := hb7.cell 1; have y1 := hb7.frozen 1; obtain ⟨ub, uc, rfl, _⟩ := (Flat.of_owns ho7).open)
              go_roundw
              case rel =>
                refine ⟨k + 1, some ⟨g6, 0, none⟩, cap6, ub, uc, E ++ [ev], A ++ la, by go_num, by omega, by simp [HEk.out], ?_, ?_, HL3, ?_, ?_⟩
                · rw [List.length_append]
                  exact Lib.hid (HTwY.out.appAs ho7 rfl rfl hgr7)
                · exact Lib.hid ((HrwY.out.grownV hgr7 (own_str HTwY.out.oa HrwY.out (by decide))).grown (grownSet w7 ⟨w.heap.size + 1, 1, none⟩ (.slice ub (A.length + la.length) uc)) (by show w.heap.size + 1 + 1 ≠ w.heap.size + 1; omega))
                · have := Hsm2.out
                  exact Lib.hid (by rw [List.length_append]; omega)
                · exact Lib.hid (fun x hx => (List.mem_append.1 hx).elim (Hok.out x) (HoA.out x))
              case measure => simp [intOf]; omega
          · obtain rfl : k = ws.length := by omega
            have HEk := Lib.hid hE
            clear hE
            have hfin := Hrr.out
            rw [Hln.out, List.drop_eq_nil_of_le (Nat.le_refl _)] at hfin
            simp only [lines, List.append_nil] at hfin
            have hAl : A.length ≤ 10000 := by have := Hsm.out; omega
            have hTIn : EvSl wr (.slice ke E.length ce) E ∧ AnsSl wr (.slice ka A.length ca) A := by
              refine ⟨?_, Flat.of_owns Htw.out.oa⟩
              have h := Flat.of_owns Htw.out.oe
              rw [← HEk.out] at h
              exact h
            have Hnf := Lib.hid (normalF E A (.slice ke E.length ce) (.slice ka A.length ca) wr hTIn.1 hTIn.2 Hok.out (by have := HEk.out; omega) (by omega))
            have hHE := HEk.out
            rw [hHE] at Hnf
            have t0 : wr.cell? ⟨w.heap.size + 1, 0, none⟩ = some (.slice ke ws.length ce) := Htw.out.blk.cell 0
            have t1 : wr.cell? ⟨w.heap.size + 1, 1, none⟩ = some (.slice ka A.length ca) := Htw.out.blk.cell 1
            have HR0 := Lib.hid hR0
            have HBr := Lib.hid hBr
            have Hfin := Lib.hid hfin
            clear hR0 hBr hGr hfin hTIn hHE Htw Hln Hrr Hsm Hrw
            go_wp2_with (go_at_call 24; refine Hnf.out.mono ?_; rintro e w2 ⟨ue, ua, rfl, oe, oa, hb2⟩; obtain ⟨kx, cx, kx2, cx2, rfl, rfl, hT⟩ := TapeIn.of (by rw [HEk.out]; exact oe) oa; have h2 := HR0.out.kept hb2 HR0.out.lt; have z0 := h2.cell 0; have z1 := h2.cell 1; have f0 := h2.frozen 0; have f1 := h2.frozen 1)
            have hg := (grownSet w2 ⟨w.heap.size, 0, none⟩ (.slice kx E.length cx)).trans (grownSet _ ⟨w.heap.size, 1, none⟩ (.slice kx2 (normA A).length cx2))
            have hbl := (h2.set 0 (.slice kx E.length cx)).set 1 (.slice kx2 (normA A).length cx2)
            have hr := Hfin.out
            subst hr
            have hBf : Below w.heap.size w w2 := HBr.out.trans (hb2.mono HBr.out.size)
            have hlw : w.heap.size < wr.heap.size := by omega
            have oe1 := Flat.of_owns (owns_step oe hg hlw)
            rw [← HEk.out] at oe1
            have oa1 := Flat.of_owns (owns_step oa hg hlw)
            exact parseFin (r := .ok E A) hbl ⟨oe1, oa1⟩ (hBf.grown hg hBf.size (fun j hj => by have h := Option.some.inj hj; change w.heap.size = j at h; omega)) rfl rfl
      · rw [if_neg hnl] at hrr
        subst hrr
        have hsuf : Lib.hasSuffix s [10] = false := by rw [hasSuffix_nl]; exact decide_eq_false hnl
        rw [hsuf] at Hcut
        clear HR hcnt hc hsuf hnl hs0
        generalize Lib.trimSuffix s [10] = body at Hcut
        generalize s.count 10 = n at Hct hc'
        unfold sv at Hct Hcut ⊢
        go_enter Tryz.func9, Tryz.ntmps9
        go_wp2_with (first | (go_at_call 20; refine Hct.out.mono ?_; rintro e w1 ⟨rfl, rfl⟩) | (go_at_call 21; refine (Hcut.out _).mono ?_; rintro e w2 ⟨rfl, rfl⟩))
        exact zeroFin ⟨rfl, rfl⟩ Hb2.out HB2.out rfl rfl

end Go.Proofs.YtljmonfobefiiaaGreatDoor

/- The reference: Decimal, find, number, before. -/
namespace Go.Proofs.YtljmonfobefiiaaGreatDoor
open Go.RowKit

theorem ext_mid (s : Str) (i j : Nat) : (⟨s.toArray⟩ : ByteArray).extract i j = ⟨((s.drop i).take (j - i)).toArray⟩ := ba_ext (Lib.extract_data ⟨s.toArray⟩ i j)
theorem digit_piece (d : Nat) (h : d < 10) : (⟨#[48, 49, 50, 51, 52, 53, 54, 55, 56, 57]⟩ : ByteArray).extract d (d + 1) = ⟨([UInt8.ofNat (48 + d)] : Str).toArray⟩ := by
  have key : ∀ x : Fin 10, (⟨#[48, 49, 50, 51, 52, 53, 54, 55, 56, 57]⟩ : ByteArray).extract x.val (x.val + 1) = ⟨([UInt8.ofNat (48 + x.val)] : Str).toArray⟩ := by decide +kernel
  exact key ⟨d, h⟩
def digs (k : Nat) : Str := if k = 0 then [] else Lib.decDigits k
theorem digs_step (k : Nat) (h : k ≠ 0) : digs k = digs (k / 10) ++ [UInt8.ofNat (48 + k % 10)] := by
  unfold digs
  rw [if_neg h]
  by_cases h10 : k < 10
  · rw [Lib.decDigits_one h10, if_pos (by omega), Nat.mod_eq_of_lt h10]
    rfl
  · rw [decDigits_unfold k h10, if_neg (by omega)]

set_option maxHeartbeats 1000000 in
set_option maxRecDepth 100000 in
theorem decimalC (n : Nat) (hn : n ≤ 4611686018427387904) (w : World) : Calls Tryz.prog 16 #[I n] w fun e w' => e = .returned (sv (Lib.decDigits n)) ∧ w = w' := by
  by_cases h0 : n = 0
  · subst h0
    go_enter Tryz.func16, Tryz.ntmps16
    go_wp2
    go_ret
    exact ⟨by rw [Lib.decDigits_one (by omega)]; rfl, rfl⟩
  · have h0' : ¬ (n : Int) = 0 := by omega
    have hb0 : ((n : Int) == 0) = false := beq_eq_false_iff_ne.2 h0'
    have H0 := Lib.hid (show Lib.decDigits n = digs n by unfold digs; rw [if_neg h0])
    obtain ⟨T, hT⟩ : ∃ T, T = Lib.decDigits n := ⟨_, rfl⟩
    rw [← hT] at H0 ⊢
    have hTl : T.length ≤ 9223372036854775807 := by rw [hT]; have := digits_len n; omega
    have HT := Lib.hid (show T.length ≤ n + 1 by rw [hT]; exact digits_len n)
    clear hT h0
    unfold sv
    go_enter Tryz.func16, Tryz.ntmps16
    go_wp2
    go_loop [4, 5] (fun vs vk => ∃ (k : Nat) (s : Str), vs = .string ⟨s.toArray⟩ ∧ vk = .int .i64 k ∧ k ≤ n ∧ Hid (T = digs k ++ s)) (fun _ vk => (intOf vk).toNat)
    case atStart => exact ⟨n, [], rfl, rfl, Nat.le_refl _, Lib.hid (by rw [H0.out]; simp)⟩
    case round =>
      obtain ⟨k, s, rfl, rfl, hk, H⟩ := hrel
      by_cases hz : k = 0
      · subst hz
        have HF := Lib.hid (show T = s by rw [H.out]; rfl)
        have hn0 : ¬ (n : Int) < 0 := by omega
        clear H
        go_wp2
        go_ret
        exact ⟨by rw [HF.out]; rfl, rfl⟩
      · have hz' : ¬ (k : Int) = 0 := by omega
        have hb : ((k : Int) != 0) = true := by rw [bne_iff_ne]; exact hz'
        have hm : (k : Int).tmod 10 = ((k % 10 : Nat) : Int) := by rw [Int.tmod_eq_emod_of_nonneg (by omega)]; omega
        have hd : (k : Int).tdiv 10 = ((k / 10 : Nat) : Int) := by rw [Int.tdiv_eq_ediv_of_nonneg (by omega)]; omega
        have H2 := Lib.hid (show T = digs (k / 10) ++ (UInt8.ofNat (48 + k % 10) :: s) by rw [H.out, digs_step k hz]; simp)
        have hsl : s.length + 1 ≤ 9223372036854775807 := by
          have h1 := congrArg List.length H2.out
          simp only [List.length_append, List.length_cons] at h1
          omega
        have hpc := digit_piece (k % 10) (by omega)
        have hd0 : k % 10 < 10 := by omega
        have hk10 : k / 10 < k := by omega
        clear hz H
        generalize UInt8.ofNat (48 + k % 10) = c at hpc H2
        generalize k % 10 = d at hm hpc hd0
        generalize hq : k / 10 = q at hd H2 hk10
        go_wp2
        refine ⟨⟨q, c :: s, ?_, rfl, by omega, H2⟩, by simp [intOf]; omega⟩
        exact congrArg Value.string (ba_app [c] s)

theorem occAt_beq (s p : Str) (i : Nat) (hi : i + p.length ≤ s.length) : ((s.drop i).take p.length == p) = Lib.occAt s p i := by
  rw [Lib.occAt_iff_take s p i hi]
set_option maxHeartbeats 1000000 in
theorem findC (s p : Str) (w : World) (hp : p ≠ []) (hs : s.length ≤ 4000000000) (hpl : p.length ≤ 1000000) : Calls Tryz.prog 56 #[sv s, sv p] w fun e w' => e = .returned (I (Lib.index s p)) ∧ w = w' := by
  obtain ⟨T, hT⟩ : ∃ T, T = Lib.index s p := ⟨_, rfl⟩
  have HT := Lib.hid hT
  rw [← hT]
  clear hT
  unfold sv
  go_enter Tryz.func56, Tryz.ntmps56
  go_wp2
  go_loop [5] (fun vi => ∃ i : Nat, vi = .int .i64 i ∧ i ≤ s.length ∧ Hid (Lib.NoOcc s p i)) (fun vi => s.length + 1 - (intOf vi).toNat)
  case atStart => exact ⟨0, rfl, by omega, Lib.hid (Lib.NoOcc.zero _ _)⟩
  case round =>
    obtain ⟨i, rfl, hi, H⟩ := hrel
    by_cases hlt : i + p.length ≤ s.length
    · have hlt' : (i : Int) + (p.length : Int) ≤ (s.length : Int) := by omega
      have hpos : 0 < p.length := List.length_pos_iff.2 hp
      have hex := ext_mid s i (i + p.length)
      have hbe := occAt_beq s p i hlt
      cases ho : Lib.occAt s p i with
      | true =>
        rw [ho] at hbe
        have HF := Lib.hid (show T = i by rw [HT.out]; exact Lib.index_hit H.out hi ho)
        clear ho
        go_wp2
        go_ret
        exact ⟨by rw [HF.out]; rfl, rfl⟩
      | false =>
        rw [ho] at hbe
        have HN := Lib.hid (H.out.succ ho)
        clear ho H
        go_wp2
        go_round
        case rel => exact ⟨i + 1, by go_num, by omega, HN⟩
        case measure => simp [intOf]; omega
    · have hlt' : ¬ (i : Int) + (p.length : Int) ≤ (s.length : Int) := by omega
      have HF := Lib.hid (show T = -1 by rw [HT.out]; exact Lib.index_past hp H.out (by omega))
      go_wp2
      go_ret
      exact ⟨by rw [HF.out]; rfl, rfl⟩

/-- What the reference's number gives. -/
def numI (s : Str) : Int := match num s with
  | some n => n
  | none => -1
theorem numI_some {s : Str} {n : Nat} (h : num s = some n) : numI s = n := by unfold numI; rw [h]
theorem numI_none {s : Str} (h : num s = none) : numI s = -1 := by unfold numI; rw [h]
theorem decVal_big {s : Str} {acc : Nat} (h : 2147483647 < acc) : ∀ v, decVal acc s = some v → 2147483647 < v := fun v hv => by
  have := decVal_ge s acc v hv
  omega
theorem num_none_of {s : Str} {k acc : Nat} (hd : decVal 0 (s.take k) = some acc) (h : ∀ v, decVal acc (s.drop k) = some v → 2147483647 < v) : num s = none := by
  cases hn : num s with
  | none => rfl
  | some n =>
    obtain ⟨h1, h2⟩ := (num_iff s n).1 hn
    have h3 : decVal 0 s = some n := by rw [h2]; exact decVal_digits n
    rw [← List.take_append_drop k s, decVal_append, hd] at h3
    have := h n h3
    omega
theorem decVal_snoc {s : Str} {k acc : Nat} (hk : k < s.length) (hd : decVal 0 (s.take k) = some acc) (hc : 48 ≤ (s[k]).toNat ∧ (s[k]).toNat ≤ 57) : decVal 0 (s.take (k + 1)) = some (acc * 10 + ((s[k]).toNat - 48)) := by
  rw [List.take_succ_eq_append_getElem hk, decVal_append, hd]
  simp only [Option.bind_some, decVal, if_pos hc]

set_option maxHeartbeats 2000000 in
set_option maxRecDepth 100000 in
theorem numC (s : Str) (w : World) (hs : s.length ≤ 1000000) : Calls Tryz.prog 58 #[sv s] w fun e w' => e = .returned (I (numI s)) ∧ w = w' := by
  obtain ⟨T, hT⟩ : ∃ T, T = numI s := ⟨_, rfl⟩
  have HT := Lib.hid hT
  rw [← hT]
  clear hT
  unfold sv
  go_enter Tryz.func58, Tryz.ntmps58
  go_wp2
  go_loop [3, 4] (fun vn vi => ∃ (i : Nat) (x : Int) (acc : Nat), vn = .int .i64 x ∧ vi = .int .i64 i ∧ i ≤ s.length ∧ Hid (x = acc ∧ acc ≤ 3000000009 ∧ decVal 0 (s.take i) = some acc)) (fun _ vi => s.length - (intOf vi).toNat)
  case atStart => exact ⟨0, 0, 0, rfl, rfl, by omega, Lib.hid ⟨rfl, by omega, rfl⟩⟩
  case round =>
    obtain ⟨i, x, acc, rfl, rfl, hi, H⟩ := hrel
    have x0 : 0 ≤ x := by have := H.out; omega
    have x1 : x ≤ 3000000009 := by have := H.out; omega
    by_cases hlt : i < s.length
    · have hb : (⟨s.toArray⟩ : ByteArray)[i]'(by show i < s.toArray.size; simpa using hlt) = s[i] := rfl
      have Hsn := Lib.hid (fun hc => decVal_snoc hlt H.out.2.2 hc)
      have Hdr := Lib.hid (List.drop_eq_getElem_cons hlt)
      have hc256 : (s[i]).toNat < 256 := (s[i]).toNat_lt
      obtain ⟨d, hdd⟩ : ∃ d : Int, ((s[i]).toNat : Int) = d := ⟨_, rfl⟩
      have Hdd := Lib.hid hdd
      have d0 : 0 ≤ d := by omega
      have d1 : d < 256 := by omega
      by_cases h48 : 48 ≤ d
      · by_cases h57 : d ≤ 57
        · have hcc : 48 ≤ (s[i]).toNat ∧ (s[i]).toNat ≤ 57 := by omega
          by_cases hbig : 300000000 < x
          · have HF := Lib.hid (show T = -1 by
              rw [HT.out]
              refine numI_none (num_none_of H.out.2.2 (fun v hv => ?_))
              rw [Hdr.out] at hv
              simp only [decVal, if_pos hcc] at hv
              exact decVal_big (by have := H.out; omega) v hv)
            clear Hsn Hdr hcc hc256
            go_wp2
            go_ret
            exact ⟨by rw [HF.out]; rfl, rfl⟩
          · have HN := Lib.hid (show 10 * x + d - 48 = ((acc * 10 + ((s[i]).toNat - 48) : Nat) : Int) ∧ acc * 10 + ((s[i]).toNat - 48) ≤ 3000000009 ∧ decVal 0 (s.take (i + 1)) = some (acc * 10 + ((s[i]).toNat - 48)) by
              refine ⟨by have := H.out; omega, by have := H.out; omega, Hsn.out hcc⟩)
            clear Hsn Hdr hcc hc256
            go_wp2
            go_round
            case rel => exact ⟨i + 1, 10 * x + d - 48, _, by go_num, by go_num, by omega, HN⟩
            case measure => simp [intOf]; omega
        · have HF := Lib.hid (show T = -1 by
            rw [HT.out]
            refine numI_none (num_none_of H.out.2.2 (fun v hv => ?_))
            rw [Hdr.out] at hv
            simp only [decVal, if_neg (show ¬ (48 ≤ (s[i]).toNat ∧ (s[i]).toNat ≤ 57) by omega)] at hv
            cases hv)
          clear Hsn Hdr hc256
          go_wp2
          go_ret
          exact ⟨by rw [HF.out]; rfl, rfl⟩
      · have HF := Lib.hid (show T = -1 by
          rw [HT.out]
          refine numI_none (num_none_of H.out.2.2 (fun v hv => ?_))
          rw [Hdr.out] at hv
          simp only [decVal, if_neg (show ¬ (48 ≤ (s[i]).toNat ∧ (s[i]).toNat ≤ 57) by omega)] at hv
          cases hv)
        clear Hsn Hdr hc256
        go_wp2
        go_ret
        exact ⟨by rw [HF.out]; rfl, rfl⟩
    · obtain rfl : i = s.length := by omega
      have hacc := H.out
      rw [List.take_length] at hacc
      obtain ⟨a1, a2, a3⟩ := hacc
      subst a1
      have Hdec := Lib.hid (decimalC acc (by omega) w)
      have HV := Lib.hid (show T = if Lib.decDigits acc = s ∧ acc ≤ 2147483647 then (acc : Int) else -1 by
        rw [HT.out]
        by_cases hc : Lib.decDigits acc = s ∧ acc ≤ 2147483647
        · rw [if_pos hc]
          exact numI_some ((num_iff s acc).2 ⟨hc.2, hc.1.symm⟩)
        · rw [if_neg hc]
          refine numI_none ?_
          cases hn : num s with
          | none => rfl
          | some n =>
            obtain ⟨h1, h2⟩ := (num_iff s n).1 hn
            rw [h2, decVal_digits n] at a3
            injection a3 with a3
            subst a3
            exact absurd ⟨h2.symm, h1⟩ hc)
      clear H a3
      by_cases hs0 : s = []
      · subst hs0
        have HF := Lib.hid (show T = -1 by rw [HV.out, if_neg (fun h => digits_ne acc h.1)])
        go_wp2
        go_ret
        exact ⟨by rw [HF.out]; rfl, rfl⟩
      · have hemp : List.isEmpty s = false := by cases s with | nil => exact absurd rfl hs0 | cons a b => rfl
        by_cases he : Lib.decDigits acc = s
        · have hbe : (s == Lib.decDigits acc) = true := by rw [beq_iff_eq]; exact he.symm
          by_cases hle : acc ≤ 2147483647
          · have HF := Lib.hid (show T = acc by rw [HV.out, if_pos ⟨he, hle⟩])
            have hle' : ¬ (2147483647 : Int) < (acc : Int) := by omega
            clear he hle
            unfold sv at Hdec
            go_wp2_with (go_at_call 16; refine Hdec.out.mono ?_; rintro e w1 ⟨rfl, rfl⟩)
            go_ret
            exact ⟨by rw [HF.out]; rfl, rfl⟩
          · have HF := Lib.hid (show T = -1 by rw [HV.out, if_neg (fun h => hle h.2)])
            have hle' : (2147483647 : Int) < (acc : Int) := by omega
            clear he hle
            unfold sv at Hdec
            go_wp2_with (go_at_call 16; refine Hdec.out.mono ?_; rintro e w1 ⟨rfl, rfl⟩)
            go_ret
            exact ⟨by rw [HF.out]; rfl, rfl⟩
        · have hbe : (s == Lib.decDigits acc) = false := beq_eq_false_iff_ne.2 (fun e => he e.symm)
          have HF := Lib.hid (show T = -1 by rw [HV.out, if_neg (fun h => he h.1)])
          clear he
          unfold sv at Hdec
          go_wp2_with (go_at_call 16; refine Hdec.out.mono ?_; rintro e w1 ⟨rfl, rfl⟩)
          go_ret
          exact ⟨by rw [HF.out]; rfl, rfl⟩
end Go.Proofs.YtljmonfobefiiaaGreatDoor

/- The reference: before, numbers. -/
namespace Go.Proofs.YtljmonfobefiiaaGreatDoor
open Go.RowKit

set_option maxHeartbeats 2000000 in
set_option maxRecDepth 100000 in
theorem beforeC (s : Str) (seps : List Str) (g : Nat) (w : World) (hgb : StrRow w g seps) (hne : ∀ q ∈ seps, q ≠ [] ∧ q.length ≤ 1000000) (hl : s.length ≤ 4000000000) (hn : seps.length ≤ 100) :
    Calls Tryz.prog 25 #[sv s, .slice (some ⟨g, 0, none⟩) seps.length seps.length] w fun e w' => e = .returned (.tuple #[sv (s.take (cutAt seps s)), sv (s.drop (cutAt seps s))]) ∧ Below w.heap.size w w' := by
  have hcut := Lib.hid (show cutAt seps s = cutFrom s s.length seps from rfl)
  have hle := cutAt_le seps s
  have hrow := Lib.hid hgb
  have Hne := Lib.hid hne
  clear hgb hne
  generalize hcv : cutAt seps s = cv at *
  have Hcv := Lib.hid hcv
  clear hcv
  have Hf := Lib.hid (fun q (hq : q ≠ [] ∧ q.length ≤ 1000000) => findC s q w hq.1 hl hq.2)
  unfold sv at *
  go_enter Tryz.func25, Tryz.ntmps25
  go_wp2_with fail
  go_loop [6, 7] (fun a i => ∃ (k : Nat), k ≤ seps.length ∧ a = I (cutFrom s s.length (seps.take k)) ∧ i = .int .i64 k) (fun _ i => seps.length - (intOf i).toNat)
  case atStart => exact ⟨0, by omega, by simp [cutFrom], rfl⟩
  case round =>
    obtain ⟨k, hk, rfl, rfl⟩ := hrel
    by_cases hlt : k < seps.length
    · have hcell : w.cell? ⟨g, k, none⟩ = some (sv seps[k]) := hrow.out.cell (by simp [hlt])
      have hst : cutFrom s s.length (seps.take (k + 1)) = if 0 ≤ Lib.index s seps[k] then min (cutFrom s s.length (seps.take k)) (Lib.index s seps[k]).toNat else cutFrom s s.length (seps.take k) := by
        rw [List.take_succ_eq_append_getElem hlt]
        exact cutFrom_snoc _ _ _ _
      have hst := Lib.hid hst
      have Hi := Lib.hid (Hf.out seps[k] (Hne.out _ (List.getElem_mem hlt)))
      generalize seps[k] = q at hcell hst Hi
      unfold sv at hcell
      generalize cutFrom s s.length (seps.take k) = a at hst ⊢
      by_cases h0 : 0 ≤ Lib.index s q
      · have hst2 := Lib.hid (show cutFrom s s.length (seps.take (k + 1)) = min a (Lib.index s q).toNat by rw [hst.out, if_pos h0])
        obtain ⟨ix, hix⟩ : ∃ ix : Nat, Lib.index s q = ix := ⟨(Lib.index s q).toNat, by omega⟩
        rw [hix] at Hi hst2 h0
        clear hst hix
        go_wp2_with (go_at_call 56; refine Hi.out.mono ?_; rintro e w1 ⟨rfl, rfl⟩)
        go_round
        case rel => exact ⟨k + 1, by omega, by rw [hst2.out]; go_num, by go_num⟩
        case measure => simp [intOf]; omega
      · have hst2 := Lib.hid (show cutFrom s s.length (seps.take (k + 1)) = a by rw [hst.out, if_neg h0])
        go_wp2_with (go_at_call 56; refine Hi.out.mono ?_; rintro e w1 ⟨rfl, rfl⟩)
        go_round
        case rel => exact ⟨k + 1, by omega, by rw [hst2.out], by go_num⟩
        case measure => simp [intOf]; omega
    · obtain rfl : k = seps.length := by omega
      rw [List.take_length] at *
      rw [← hcut.out] at *
      go_upto_region 8 with fail
      refine wp_region_ordN 8 [(0, true), (1, true), (2, true), (3, true), (4, true), (5, true), (6, true), (7, true)] (fun _ => True) (by kernel_rfl) rfl rfl (by kernel_rfl) trivial ?_
      iterate 8 (refine wpOrd_take ?_ (by rfl) ?_ ?_; rotate_left; (intro w hSw; (try dsimp only at hSw); go_simp; try with_reducible rfl); (try simp only [Act.put, List.setIfInBounds_toArray, List.set_cons_zero, List.set_cons_succ]))
      refine wpOrd_nil ?_
      go_wp2_with fail
      refine NoPanic.normal ?_
      go_wp2_with fail
      go_ret2
      rw [ext_drop]
      exact ⟨by first | rfl | (simp only [ext_take]; rfl), (Below.refl _ _).drew⟩

def strLen : Value → Nat
  | .string b => b.size
  | _ => 0
theorem cut_split (c : UInt8) (s : Str) : (cutAt [[c]] s = s.length ∧ splitC c s = [s]) ∨ (∃ a b, s = a ++ c :: b ∧ cutAt [[c]] s = a.length ∧ splitC c s = a :: splitC c b) := by
  have hcut : ∀ t : Str, cutAt [[c]] t = if 0 ≤ Lib.index t [c] then min t.length (Lib.index t [c]).toNat else t.length := fun t => rfl
  induction s with
  | nil => exact .inl ⟨rfl, rfl⟩
  | cons x r ih =>
    by_cases hx : x = c
    · subst hx
      refine .inr ⟨[], r, rfl, ?_, ?_⟩
      · rw [hcut, index_cons_eq]
        simp
      · simp [splitC]
    · have hidx := index_cons_ne x c r hx
      rcases ih with ⟨h1, h2⟩ | ⟨a, b, h1, h2, h3⟩
      · refine .inl ⟨?_, ?_⟩
        · rw [hcut] at h1 ⊢
          rw [hidx]
          rcases Lib.index_spec r [c] with ⟨e, _⟩ | ⟨i, e, hi, _, _⟩
          · rw [e]; rfl
          · rw [e] at h1 ⊢
            rw [if_pos (by omega)] at h1
            have hr := Lib.index_room r [c] (by rw [e]; omega)
            rw [e] at hr
            simp at hr
            omega
        · simp only [splitC, if_neg hx, h2]
      · refine .inr ⟨x :: a, b, by rw [h1]; rfl, ?_, ?_⟩
        · rw [hcut] at h2 ⊢
          rw [hidx]
          have hlr : a.length < r.length := by rw [h1]; simp
          rcases Lib.index_spec r [c] with ⟨e, _⟩ | ⟨i, e, hi, _, _⟩
          · rw [e] at h2
            rw [if_neg (by omega)] at h2
            omega
          · rw [e] at h2 ⊢
            rw [if_pos (by omega)] at h2
            have e1 : ((i : Int) == -1) = false := beq_eq_false_iff_ne.2 (by omega)
            simp only [e1, Bool.false_eq_true, if_false]
            rw [if_pos (by omega)]
            simp only [List.length_cons]
            omega
        · simp only [splitC, if_neg hx, h3]
/-- What the reference's numbers gives at a separator of one byte. -/
def numbersI (c : UInt8) (s : Str) : List Int := if s = [] then [] else (splitC c s).map numI
theorem numI_nil : numI [] = -1 := numI_none num_nil
theorem numbersI_last {c : UInt8} {s : Str} (h : splitC c s = [s]) (hs : s ≠ []) : numbersI c s = [numI s] := by unfold numbersI; rw [if_neg hs, h]; rfl
theorem numbersI_end {c : UInt8} {a : Str} (h : splitC c (a ++ [c]) = a :: splitC c []) : numbersI c (a ++ [c]) = [numI a, -1] := by
  unfold numbersI
  rw [if_neg (by simp), h]
  simp [splitC, numI_nil]
theorem numbersI_more {c : UInt8} {a b : Str} (h : splitC c (a ++ c :: b) = a :: splitC c b) (hb : b ≠ []) : numbersI c (a ++ c :: b) = numI a :: numbersI c b := by
  unfold numbersI
  rw [if_neg (by simp), h, if_neg hb]
  rfl

set_option maxHeartbeats 4000000 in
set_option maxRecDepth 100000 in
theorem numbersC (s : Str) (c : UInt8) (w : World) (hl : s.length ≤ 1000000) :
    Calls Tryz.prog 60 #[sv s, sv [c]] w fun e w' => (∃ va, e = .returned va ∧ IntSl w' va (numbersI c s)) ∧ Below w.heap.size w w' := by
  obtain ⟨T, hT⟩ : ∃ T, T = numbersI c s := ⟨_, rfl⟩
  have HT := Lib.hid hT
  rw [← hT]
  clear hT
  unfold sv
  go_enter Tryz.func60, Tryz.ntmps60
  go_wp2_with fail
  go_loopw [0, 5] (fun vs vo wr => ∃ (t : Str) (k : Nat) (av : Option Addr) (ac' : Nat) (out : List Int), vs = .string ⟨t.toArray⟩ ∧ vo = .slice av k ac' ∧ k = out.length ∧ (t ≠ [] → out.length + t.length ≤ 1000000) ∧ t.length ≤ s.length ∧ Hid (T = out ++ numbersI c t) ∧ Hid (Below w.heap.size w wr) ∧ Hid (wr.ownsRow w.heap.size 3 1 (.slice av k ac') k (iv out))) (fun vs _ _ => strLen vs)
  case atStart => exact ⟨s, 0, none, 0, [], rfl, rfl, rfl, fun _ => by simpa using hl, Nat.le_refl _, Lib.hid (by rw [HT.out]; rfl), Lib.hid (Below.refl _ _), Lib.hid (World.ownsRow_nil _ _ _ _)⟩
  case round =>
    obtain ⟨t, k, av, ac', out, rfl, rfl, rfl, hlen, hts, H, Hb, Hrow⟩ := hrel
    by_cases ht : t = []
    · subst ht
      have HF := Lib.hid (show T = out by rw [H.out]; simp [numbersI])
      have Hfl := Lib.hid (show IntSl wr (.slice av out.length ac') out from Flat.of_owns Hrow.out)
      clear H
      go_wp2_with fail
      go_ret
      exact ⟨⟨_, rfl, by rw [HF.out]; exact Hfl.out⟩, Hb.out⟩
    · have hemp : List.isEmpty t = false := by cases t with | nil => exact absurd rfl ht | cons a b => rfl
      have hpos : 0 < t.length := List.length_pos_iff.2 ht
      have hlen := hlen ht
      have Hbf := Lib.hid (beforeC t [[c]] wr.heap.size (wr.alloc (.cells #[.string ⟨#[c]⟩] 9)) (heap_alloc_new _ _) (by simp) (by omega) (by simp))
      have hwz : w.heap.size ≤ wr.heap.size := Hb.out.size
      rcases cut_split c t with ⟨h1, h2⟩ | ⟨a, b, h0, h1, h2⟩
      · have HN := Lib.hid (show T = (out ++ [numI t]) ++ numbersI c [] by rw [H.out, numbersI_last h2 ht]; simp [numbersI])
        rw [h1, List.take_length, List.drop_length] at Hbf
        have Hnm := Lib.hid (fun X => numC t X (by omega))
        clear H h1 h2 ht
        unfold sv at Hbf Hnm
        go_wp2_with (first
          | (go_at_call 25; refine Hbf.out.mono ?_; rintro e w1 ⟨rfl, D1⟩; have hz1 := D1.size)
          | (go_at_call 58; refine (Hnm.out w1).mono ?_; rintro e w2 ⟨rfl, rfl⟩)
          | (at_builtin; go_must (refine wpList_appB rfl _ _ 22 rfl 3 _ 1 8 Tryz.underlying22 info_int rfl (by omega) (by omega) w.heap.size (.slice av out.length ac') out.length (iv out) rfl ((owns_below (Hrow.out.alloc _) D1).alloc _) w1.heap.size 1 1 #[I (numI t)] 3 rfl (heap_alloc_new _ _) rfl rfl (by omega) (by omega) (by rw [World.size_alloc] at *; omega) ?_); intro g5 cap5 w5 hg1 hg2 hg3 ho5 hgr5 hB5))
        go_roundw
        case rel => exact ⟨[], out.length + 1, some ⟨g5, 0, none⟩, cap5, out ++ [numI t], rfl, rfl, by simp, fun h => absurd rfl h, Nat.zero_le _, HN, Lib.hid (((Hb.out.alloc hwz _).trans (D1.mono (by rw [World.size_alloc]; omega))).trans (((Below.refl _ _).alloc (by rw [World.size_alloc] at hz1; omega) _).trans hB5)), Lib.hid (by simpa [iv] using ho5)⟩
        case measure => exact hpos
      · subst h0
        have htk : (a ++ c :: b).take (cutAt [[c]] (a ++ c :: b)) = a := by rw [h1]; simp
        have hdk : (a ++ c :: b).drop (cutAt [[c]] (a ++ c :: b)) = c :: b := by rw [h1]; simp
        rw [htk, hdk] at Hbf
        have hla : (a ++ c :: b).length = a.length + 1 + b.length := by simp; omega
        have Hnm := Lib.hid (fun X => numC a X (by omega))
        have hex : (⟨(c :: b).toArray⟩ : ByteArray).extract 1 (b.length + 1) = ⟨b.toArray⟩ := ext_drop (c :: b) 1
        have hmin : min (1 : Int) ((b.length : Int) + 1) = 1 := by omega
        have Hsz := Lib.hid (show b.length < (a ++ c :: b).length by omega)
        by_cases hb0 : b = []
        · subst hb0
          have HN := Lib.hid (show T = ((out ++ [numI a]) ++ [-1]) ++ numbersI c [] by rw [H.out, numbersI_end h2]; simp [numbersI])
          clear H h1 h2 ht htk hdk
          unfold sv at Hbf Hnm
          go_upto_region 7 with (first
          | (go_at_call 25; refine Hbf.out.mono ?_; rintro e w1 ⟨rfl, D1⟩; have hz1 := D1.size)
          | (go_at_call 58; refine (Hnm.out w1).mono ?_; rintro e w2 ⟨rfl, rfl⟩)
          | (at_builtin; go_must (refine wpList_appB rfl _ _ 22 rfl 3 _ 1 8 Tryz.underlying22 info_int rfl (by omega) (by omega) w.heap.size (.slice av out.length ac') out.length (iv out) rfl ((owns_below (Hrow.out.alloc _) D1).alloc _) w1.heap.size 1 1 #[I (numI a)] 3 rfl (heap_alloc_new _ _) rfl rfl (by omega) (by omega) (by rw [World.size_alloc] at *; omega) ?_); intro g5 cap5 w5 hg1 hg2 hg3 ho5 hgr5 hB5))
          have hB05 : Below w.heap.size w w5 := ((Hb.out.alloc hwz _).trans (D1.mono (by rw [World.size_alloc]; omega))).trans (((Below.refl _ _).alloc (by rw [World.size_alloc] at hz1; omega) _).trans hB5)
          have HB05 := Lib.hid hB05
          have Ho5 := Lib.hid ho5
          have hz5 := hB05.size
          clear hB05 ho5 hgr5 hB5 hg3
          go_wp2_with (at_builtin; go_must (refine wpList_appB rfl _ _ 22 rfl 3 _ 1 8 Tryz.underlying22 info_int rfl (by omega) (by omega) w.heap.size (.slice (some ⟨g5, 0, none⟩) (out.length + 1) cap5) (out.length + 1) _ rfl (Ho5.out.alloc _) w5.heap.size 1 1 #[I (-1)] 3 rfl (heap_alloc_new _ _) rfl rfl (by omega) (by omega) (by rw [World.size_alloc]; omega) ?_); intro g6 cap6 w6 hg4 hg5 hg6 ho6 hgr6 hB6)
          go_roundw
          case rel => exact ⟨[], out.length + 1 + 1, some ⟨g6, 0, none⟩, cap6, (out ++ [numI a]) ++ [-1], rfl, rfl, by simp, fun h => absurd rfl h, Nat.zero_le _, HN, Lib.hid (HB05.out.trans (((Below.refl _ _).alloc (by omega) _).trans hB6)), Lib.hid (by simpa [iv] using ho6)⟩
          case measure => exact Nat.lt_of_le_of_lt (Nat.zero_le _) Hsz.out
        · have hemb : List.isEmpty b = false := by cases b with | nil => exact absurd rfl hb0 | cons a b => rfl
          have HN := Lib.hid (show T = (out ++ [numI a]) ++ numbersI c b by rw [H.out, numbersI_more h2 hb0]; simp)
          clear H h1 h2 ht htk hdk
          unfold sv at Hbf Hnm
          go_wp2_with (first
          | (go_at_call 25; refine Hbf.out.mono ?_; rintro e w1 ⟨rfl, D1⟩; have hz1 := D1.size)
          | (go_at_call 58; refine (Hnm.out w1).mono ?_; rintro e w2 ⟨rfl, rfl⟩)
          | (at_builtin; go_must (refine wpList_appB rfl _ _ 22 rfl 3 _ 1 8 Tryz.underlying22 info_int rfl (by omega) (by omega) w.heap.size (.slice av out.length ac') out.length (iv out) rfl ((owns_below (Hrow.out.alloc _) D1).alloc _) w1.heap.size 1 1 #[I (numI a)] 3 rfl (heap_alloc_new _ _) rfl rfl (by omega) (by omega) (by rw [World.size_alloc] at *; omega) ?_); intro g5 cap5 w5 hg1 hg2 hg3 ho5 hgr5 hB5))
          go_roundw
          case rel => exact ⟨b, out.length + 1, some ⟨g5, 0, none⟩, cap5, out ++ [numI a], rfl, rfl, by simp, fun h => by simp; omega, by omega, HN, Lib.hid (((Hb.out.alloc hwz _).trans (D1.mono (by rw [World.size_alloc]; omega))).trans (((Below.refl _ _).alloc (by rw [World.size_alloc] at hz1; omega) _).trans hB5)), Lib.hid (by simpa [iv] using ho5)⟩
          case measure => exact Hsz.out

end Go.Proofs.YtljmonfobefiiaaGreatDoor

/- The reference: WellEvent, dots, Event. -/
namespace Go.Proofs.YtljmonfobefiiaaGreatDoor
open Go.RowKit

def wellN (n : Int) : Bool := decide (0 ≤ n) && decide (n ≤ 2147483647)
theorem number78 (n : Int) (w : World) : Calls Tryz.prog 78 #[I n] w fun e w' => e = .returned (.bool (wellN n)) ∧ w = w' := by
  by_cases h1 : 0 ≤ n
  · go_enter Tryz.func78, Tryz.ntmps78
    go_wp2
    go_ret
    exact ⟨by simp [wellN, h1], rfl⟩
  · go_enter Tryz.func78, Tryz.ntmps78
    go_wp2
    go_ret
    exact ⟨by simp [wellN]; omega, rfl⟩
def wellC (a b c h : Int) : Bool := decide (0 ≤ a) && decide (a < 12) && decide (0 ≤ b) && decide (b < h) && wellN c
set_option maxHeartbeats 1000000 in
theorem cause79 (a b c h : Int) (w : World) : Calls Tryz.prog 79 #[.agg #[I a, I b, I c], I h] w fun e w' => e = .returned (.bool (wellC a b c h)) ∧ Below w.heap.size w w' := by
  have hB : Below w.heap.size w (w.alloc (.cells #[I a, I b, I c] 45)) := (Below.refl _ _).alloc (Nat.le_refl _) _
  have Hn := Lib.hid (number78 c)
  by_cases h1 : 0 ≤ a
  · by_cases h2 : a < 12
    · by_cases h3 : 0 ≤ b
      · by_cases h4 : b < h
        · go_enter Tryz.func79, Tryz.ntmps79
          go_wp2_with (go_at_call 78; refine (Hn.out _).mono ?_; rintro e w1 ⟨rfl, rfl⟩)
          go_ret
          exact ⟨by simp [wellC, h1, h2, h3, h4], hB⟩
        · go_enter Tryz.func79, Tryz.ntmps79
          go_wp2_with fail
          go_ret
          exact ⟨by simp [wellC]; intros; omega, hB⟩
      · go_enter Tryz.func79, Tryz.ntmps79
        go_wp2_with fail
        go_ret
        exact ⟨by simp [wellC]; intros; omega, hB⟩
    · go_enter Tryz.func79, Tryz.ntmps79
      go_wp2_with fail
      go_ret
      exact ⟨by simp [wellC]; intros; omega, hB⟩
  · go_enter Tryz.func79, Tryz.ntmps79
    go_wp2_with fail
    go_ret
    exact ⟨by simp [wellC]; intros; omega, hB⟩

def Msg.zero (m : Msg) : Bool := eqL m.ints [0, 0, 0, 0, 0]
def wellEv (e : Ev) : Bool :=
  if e.node < 0 then false
  else if 11 < e.node then false
  else if e.kind = 1 ∨ e.kind = 2 ∨ e.kind = 4 then wellN e.arg && e.msg.zero
  else if e.kind = 3 ∨ e.kind = 5 ∨ e.kind = 6 then decide (e.arg = 0) && wellC e.msg.node e.msg.handler e.msg.count 40 && wellN e.msg.index && wellN e.msg.copy
  else if e.kind = 7 then decide (e.arg = 0) && e.msg.zero
  else false
theorem run_msg_zero (a0 a1 a2 a3 a4 : Int) (w : World) : (binOp .eql 47 (.agg #[I a0, I a1, I a2, I a3, I a4]) (.agg #[I 0, I 0, I 0, I 0, I 0])).run Tryz.prog w = .ok (.bool (eqL [a0, a1, a2, a3, a4] [0, 0, 0, 0, 0])) w := run_eql_Msg a0 a1 a2 a3 a4 0 0 0 0 0 w

set_option maxHeartbeats 4000000 in
theorem wellEventC (e : Ev) (w : World) : Calls Tryz.prog 35 #[.agg (eva e)] w fun r w' => r = .returned (.bool (wellEv e)) ∧ Below w.heap.size w w' := by
  obtain ⟨kind, node, arg, ⟨m0, m1, m2, m3, m4⟩⟩ := e
  have hB : Below w.heap.size w (w.alloc (.cells #[I kind, I node, I arg, I m0, I m1, I m2, I m3, I m4] 49)) := (Below.refl _ _).alloc (Nat.le_refl _) _
  have HB := Lib.hid hB
  clear hB
  have Hn := Lib.hid number78
  have Hc := Lib.hid cause79
  have hz := fun w => run_msg_zero m0 m1 m2 m3 m4 w
  unfold eva
  simp only []
  obtain ⟨z, hzz⟩ : ∃ z, z = eqL [m0, m1, m2, m3, m4] [0, 0, 0, 0, 0] := ⟨_, rfl⟩
  have Hz := Lib.hid (show (⟨m0, m1, m2, m3, m4⟩ : Msg).zero = z by rw [hzz]; rfl)
  rw [← hzz] at hz
  clear hzz
  by_cases h1 : node < 0
  · go_enter Tryz.func35, Tryz.ntmps35
    go_wp2_with fail
    go_ret
    exact ⟨by simp [wellEv, h1], HB.out⟩
  · by_cases h2 : 11 < node
    · go_enter Tryz.func35, Tryz.ntmps35
      go_wp2_with fail
      go_ret
      exact ⟨by simp [wellEv, h2], HB.out⟩
    · by_cases hA : kind = 1 ∨ kind = 2 ∨ kind = 4
      · have HW := Lib.hid (show wellEv ⟨kind, node, arg, ⟨m0, m1, m2, m3, m4⟩⟩ = (wellN arg && z) by rw [← Hz.out]; simp [wellEv, h1, h2, hA])
        cases hwn : wellN arg with
        | false =>
          have Hn2 := Lib.hid (fun X => hwn ▸ number78 arg X)
          rw [HW.out, hwn]
          clear hwn HW
          rcases hA with rfl | rfl | rfl
          all_goals (go_enter Tryz.func35, Tryz.ntmps35)
          all_goals (go_wp2_with (go_at_call 78; refine (Hn2.out _).mono ?_; rintro e w1 ⟨rfl, rfl⟩))
          all_goals go_ret
          all_goals exact ⟨rfl, HB.out⟩
        | true =>
          have Hn2 := Lib.hid (fun X => hwn ▸ number78 arg X)
          rw [HW.out, hwn]
          clear hwn HW
          rcases hA with rfl | rfl | rfl
          all_goals (go_enter Tryz.func35, Tryz.ntmps35)
          all_goals (go_wp2_with (go_at_call 78; refine (Hn2.out _).mono ?_; rintro e w1 ⟨rfl, rfl⟩))
          all_goals go_ret
          all_goals exact ⟨by simp, HB.out⟩
      · by_cases hM : kind = 3 ∨ kind = 5 ∨ kind = 6
        · have HW := Lib.hid (show wellEv ⟨kind, node, arg, ⟨m0, m1, m2, m3, m4⟩⟩ = (decide (arg = 0) && wellC m0 m1 m2 40 && wellN m3 && wellN m4) by simp [wellEv, h1, h2, hA, hM])
          obtain ⟨r, hr⟩ : ∃ r, r = wellEv ⟨kind, node, arg, ⟨m0, m1, m2, m3, m4⟩⟩ := ⟨_, rfl⟩
          rw [← hr] at HW ⊢
          clear hr
          have Hc2 := Lib.hid (Hc.out m0 m1 m2 40)
          generalize wellC m0 m1 m2 40 = C at Hc2 HW
          have Hx := Lib.hid (show ∀ X, Below (w.alloc (.cells #[I kind, I node, I arg, I m0, I m1, I m2, I m3, I m4] 49)).heap.size (w.alloc (.cells #[I kind, I node, I arg, I m0, I m1, I m2, I m3, I m4] 49)) X → X.cell? ⟨w.heap.size, 6, none⟩ = some (I m3) ∧ X.cell? ⟨w.heap.size, 7, none⟩ = some (I m4) from fun X hX => ⟨((Blk.new w _ _).kept hX (Blk.new w _ _).lt).cell 6, ((Blk.new w _ _).kept hX (Blk.new w _ _).lt).cell 7⟩)
          by_cases h0 : arg = 0
          · subst h0
            cases C with
            | true =>
              cases hX : wellN m3 with
              | true =>
                have HF := Lib.hid (show r = wellN m4 by rw [HW.out, hX]; simp)
                rcases hM with rfl | rfl | rfl
                all_goals (go_enter Tryz.func35, Tryz.ntmps35)
                all_goals (go_wp2_with (first | (go_at_call 79; refine (Hc2.out _).mono ?_; rintro e w1 ⟨rfl, D⟩; have cx := (Hx.out _ D).1; have cy := (Hx.out _ D).2; replace D := Lib.hid D) | (go_at_call 78; refine (Hn.out _ _).mono ?_; rintro e w2 ⟨rfl, rfl⟩)))
                all_goals go_ret
                all_goals exact ⟨by rw [HF.out]; rfl, HB.out.trans (D.out.mono HB.out.size)⟩
              | false =>
                have HF := Lib.hid (show r = false by rw [HW.out, hX]; simp)
                rcases hM with rfl | rfl | rfl
                all_goals (go_enter Tryz.func35, Tryz.ntmps35)
                all_goals (go_wp2_with (first | (go_at_call 79; refine (Hc2.out _).mono ?_; rintro e w1 ⟨rfl, D⟩; have cx := (Hx.out _ D).1; have cy := (Hx.out _ D).2; replace D := Lib.hid D) | (go_at_call 78; refine (Hn.out _ _).mono ?_; rintro e w2 ⟨rfl, rfl⟩)))
                all_goals go_ret
                all_goals exact ⟨by rw [HF.out]; rfl, HB.out.trans (D.out.mono HB.out.size)⟩
            | false =>
              have HF := Lib.hid (show r = false by rw [HW.out]; simp)
              rcases hM with rfl | rfl | rfl
              all_goals (go_enter Tryz.func35, Tryz.ntmps35)
              all_goals (go_wp2_with (go_at_call 79; refine (Hc2.out _).mono ?_; rintro e w1 ⟨rfl, D⟩))
              all_goals go_ret
              all_goals exact ⟨by rw [HF.out]; rfl, HB.out.trans (D.mono HB.out.size)⟩
          · have hb0 : (arg == 0) = false := beq_eq_false_iff_ne.2 h0
            have HF := Lib.hid (show r = false by rw [HW.out]; simp [h0])
            rcases hM with rfl | rfl | rfl
            all_goals (go_enter Tryz.func35, Tryz.ntmps35)
            all_goals (go_wp2_with fail)
            all_goals go_ret
            all_goals exact ⟨by rw [HF.out]; rfl, HB.out⟩
        · by_cases h7 : kind = 7
          · subst h7
            have HW := Lib.hid (show wellEv ⟨7, node, arg, ⟨m0, m1, m2, m3, m4⟩⟩ = (decide (arg = 0) && z) by rw [← Hz.out]; simp [wellEv, h1, h2])
            by_cases h0 : arg = 0
            · subst h0
              rw [HW.out]
              go_enter Tryz.func35, Tryz.ntmps35
              go_wp2_with fail
              go_ret
              exact ⟨by simp, HB.out⟩
            · have hb0 : (arg == 0) = false := beq_eq_false_iff_ne.2 h0
              rw [HW.out]
              go_enter Tryz.func35, Tryz.ntmps35
              go_wp2_with fail
              go_ret
              exact ⟨by simp, HB.out⟩
          · have HF := Lib.hid (show wellEv ⟨kind, node, arg, ⟨m0, m1, m2, m3, m4⟩⟩ = false by simp [wellEv, h1, h2, hA, hM, h7])
            rw [HF.out]
            have k1 : (kind == 1) = false := beq_eq_false_iff_ne.2 (fun e => hA (.inl e))
            have k2 : (kind == 2) = false := beq_eq_false_iff_ne.2 (fun e => hA (.inr (.inl e)))
            have k4 : (kind == 4) = false := beq_eq_false_iff_ne.2 (fun e => hA (.inr (.inr e)))
            have k3 : (kind == 3) = false := beq_eq_false_iff_ne.2 (fun e => hM (.inl e))
            have k5 : (kind == 5) = false := beq_eq_false_iff_ne.2 (fun e => hM (.inr (.inl e)))
            have k6 : (kind == 6) = false := beq_eq_false_iff_ne.2 (fun e => hM (.inr (.inr e)))
            have k7 : (kind == 7) = false := beq_eq_false_iff_ne.2 h7
            clear hA hM h7
            go_enter Tryz.func35, Tryz.ntmps35
            go_wp2_with fail
            go_ret
            exact ⟨rfl, HB.out⟩

/-- Numbers with dots between them. -/
def dotsS : List Int → Str
  | [] => []
  | [n] => Lib.decDigits n.toNat
  | n :: m :: l => Lib.decDigits n.toNat ++ [46] ++ dotsS (m :: l)
theorem dotsS_snoc (l : List Int) (n : Int) : dotsS (l ++ [n]) = (if l = [] then [] else dotsS l ++ [46]) ++ Lib.decDigits n.toNat := by
  induction l with
  | nil => simp [dotsS]
  | cons a l ih =>
    cases l with
    | nil => simp [dotsS]
    | cons b l =>
      simp only [List.cons_append, dotsS] at ih ⊢
      rw [ih]
      simp
def rawEv (e : Ev) : Str :=
  let h := evWords.getD e.kind.toNat [] ++ [32] ++ Lib.decDigits e.node.toNat
  if e.kind = 1 ∨ e.kind = 2 ∨ e.kind = 4 then h ++ [32] ++ Lib.decDigits e.arg.toNat
  else if e.kind = 7 then h
  else h ++ [32] ++ dotsS e.msg.ints
def textEv (e : Ev) : Str := if wellEv e = true then rawEv e else []

end Go.Proofs.YtljmonfobefiiaaGreatDoor

/- The reference: dots, MsgKey, Event. -/
namespace Go.Proofs.YtljmonfobefiiaaGreatDoor
open Go.RowKit

theorem decl_pow : ∀ (k n : Nat), n < 10 ^ (k + 1) → (Lib.decDigits n).length ≤ k + 1
  | 0, n, h => by rw [Lib.decDigits_one (by simpa using h)]; simp
  | k + 1, n, h => by
    by_cases h1 : n < 10
    · rw [Lib.decDigits_one h1]; simp
    · rw [decDigits_unfold n h1]
      have := decl_pow k (n / 10) (by rw [Nat.pow_succ] at h; omega)
      simp
      omega
theorem decl (n : Nat) (h : n ≤ 2147483647) : (Lib.decDigits n).length ≤ 10 := decl_pow 9 n (by omega)
theorem dotsS_take {l : List Int} {k : Nat} (h : k < l.length) : dotsS (l.take (k + 1)) = (if k = 0 then [] else dotsS (l.take k) ++ [46]) ++ Lib.decDigits l[k].toNat := by
  rw [List.take_succ_eq_append_getElem h, dotsS_snoc]
  by_cases h0 : k = 0
  · subst h0; simp
  · have hne : l.take k ≠ [] := by
      intro e
      have := congrArg List.length e
      simp at this
      rcases this with rfl | rfl
      · exact h0 rfl
      · simp at h
    rw [if_neg hne, if_neg h0]

set_option maxHeartbeats 1000000 in
theorem dotsC (l : List Int) (hr : ∀ x ∈ l, 0 ≤ x ∧ x ≤ 2147483647) (hn : l.length ≤ 100) (v : Value) (w : World) (h : IntSl w v l) : Calls Tryz.prog 36 #[v] w fun e w' => e = .returned (sv (dotsS l)) ∧ w = w' := by
  obtain ⟨a, c, rfl, hm⟩ := h.open
  have Hr := Lib.hid hr
  have H := Lib.hid h
  clear h hr
  obtain ⟨T, hT⟩ : ∃ T, T = dotsS l := ⟨_, rfl⟩
  have HT := Lib.hid hT
  rw [← hT]
  clear hT
  unfold sv
  go_enter Tryz.func36, Tryz.ntmps36
  go_wp2
  go_loop [3, 4] (fun vs vi => ∃ (k : Nat) (s : Str), vs = .string ⟨s.toArray⟩ ∧ vi = .int .i64 k ∧ k ≤ l.length ∧ s.length ≤ 12 * k ∧ Hid (s = dotsS (l.take k))) (fun _ vi => l.length - (intOf vi).toNat)
  case atStart => exact ⟨0, [], rfl, rfl, by omega, by simp, Lib.hid (by simp [dotsS])⟩
  case round =>
    obtain ⟨k, s, rfl, rfl, hk, hs, Hs⟩ := hrel
    by_cases hlt : k < l.length
    · obtain ⟨b, o, rfl, x0⟩ := IntSl.at H.out (i := k) (x := l[k]) (by simp [hlt])
      have hrk := Hr.out l[k] (List.getElem_mem hlt)
      have HS := Lib.hid (dotsS_take hlt)
      obtain ⟨n, hn'⟩ : ∃ n : Nat, l[k] = n := ⟨l[k].toNat, by omega⟩
      rw [hn'] at x0 hrk HS
      have hn31 : n ≤ 2147483647 := by omega
      have hd : (Lib.decDigits n).length ≤ 10 := decl n hn31
      have Hd := Lib.hid (decimalC n (by omega) w)
      rw [Int.toNat_natCast] at HS
      clear hn'
      generalize Lib.decDigits n = t at hd Hd HS
      unfold sv at Hd
      by_cases h0 : k = 0
      · subst h0
        rw [Nat.add_zero] at x0
        have hs0 : s = [] := by rw [Hs.out]; simp [dotsS]
        subst hs0
        have HF := Lib.hid (show t = dotsS (l.take (0 + 1)) by rw [HS.out]; simp)
        have hl2 : ¬ 9223372036854775807 < t.length := by omega
        clear HS
        go_wp2_with (go_at_call 16; refine Hd.out.mono ?_; rintro e w1 ⟨rfl, rfl⟩)
        go_round
        case rel => exact ⟨1, t, congrArg Value.string (ba_app [] t), by go_num, by omega, by omega, HF⟩
        case measure => simp [intOf]; omega
      · have HF := Lib.hid (show (s ++ [46]) ++ t = dotsS (l.take (k + 1)) by rw [HS.out, if_neg h0, Hs.out])
        have hl1 : ¬ 9223372036854775807 < s.length + 1 := by omega
        have hl2 : ¬ 9223372036854775807 < s.length + 1 + t.length := by omega
        have hl3 : s.length + 1 + t.length ≤ 12 * (k + 1) := by omega
        have hk0 : (0 : Int) < k := by omega
        clear HS
        go_wp2_with (go_at_call 16; refine Hd.out.mono ?_; rintro e w1 ⟨rfl, rfl⟩)
        go_round
        case rel => exact ⟨k + 1, (s ++ [46]) ++ t, congrArg Value.string ((congrArg (· ++ _) (ba_app s [46])).trans (ba_app (s ++ [46]) t)), by go_num, by omega, by simp; omega, HF⟩
        case measure => simp [intOf]; omega
    · obtain rfl : k = l.length := by omega
      have HF := Lib.hid (show T = s by rw [HT.out, Hs.out, List.take_length])
      go_wp2
      go_ret
      exact ⟨by rw [HF.out]; rfl, rfl⟩

theorem msgKeyC (m : Msg) (w : World) : Calls Tryz.prog 37 #[.agg #[I m.node, I m.handler, I m.count, I m.index, I m.copy]] w fun e w' => (∃ v, e = .returned v ∧ IntSl w' v m.ints) ∧ Below w.heap.size w w' := by
  obtain ⟨m0, m1, m2, m3, m4⟩ := m
  have hB : Below w.heap.size w ((w.alloc (.cells #[I m0, I m1, I m2, I m3, I m4] 47)).alloc (.cells #[I m0, I m1, I m2, I m3, I m4] 3)) := ((Below.refl _ _).alloc (Nat.le_refl _) _).alloc (by simp) _
  have HB := Lib.hid hB
  have hx : IntSl ((w.alloc (.cells #[I m0, I m1, I m2, I m3, I m4] 47)).alloc (.cells #[I m0, I m1, I m2, I m3, I m4] 3)) (.slice (some ⟨w.heap.size + 1, 0, none⟩) 5 5) [m0, m1, m2, m3, m4] := by
    have hb := Blk.new (w.alloc (.cells #[I m0, I m1, I m2, I m3, I m4] 47)) #[I m0, I m1, I m2, I m3, I m4] 3
    rw [World.size_alloc] at hb
    exact Flat.of_cells rfl (by simp) (fun j u hu => by rw [Nat.zero_add, hb.cell j]; simpa [iv] using hu)
  have HX := Lib.hid hx
  clear hB hx
  dsimp only
  go_enter Tryz.func37, Tryz.ntmps37
  go_wp2
  go_ret
  exact ⟨⟨_, rfl, HX.out⟩, HB.out⟩

end Go.Proofs.YtljmonfobefiiaaGreatDoor

/- The reference: Event. -/
namespace Go.Proofs.YtljmonfobefiiaaGreatDoor
open Go.RowKit

theorem wellN_iff {n : Int} : wellN n = true ↔ 0 ≤ n ∧ n ≤ 2147483647 := by simp [wellN]
theorem wellC_iff {a b c h : Int} : wellC a b c h = true ↔ (0 ≤ a ∧ a < 12) ∧ (0 ≤ b ∧ b < h) ∧ 0 ≤ c ∧ c ≤ 2147483647 := by simp [wellC, wellN, and_assoc]
/-- What a well-formed event is. -/
def EvOk (e : Ev) : Prop :=
  0 ≤ e.node ∧ e.node ≤ 11 ∧
  (((e.kind = 1 ∨ e.kind = 2 ∨ e.kind = 4) ∧ (0 ≤ e.arg ∧ e.arg ≤ 2147483647) ∧ e.msg = ⟨0, 0, 0, 0, 0⟩) ∨
   ((e.kind = 3 ∨ e.kind = 5 ∨ e.kind = 6) ∧ e.arg = 0 ∧ ((0 ≤ e.msg.node ∧ e.msg.node < 12) ∧ (0 ≤ e.msg.handler ∧ e.msg.handler < 40) ∧ 0 ≤ e.msg.count ∧ e.msg.count ≤ 2147483647) ∧ (0 ≤ e.msg.index ∧ e.msg.index ≤ 2147483647) ∧ 0 ≤ e.msg.copy ∧ e.msg.copy ≤ 2147483647) ∨
   (e.kind = 7 ∧ e.arg = 0 ∧ e.msg = ⟨0, 0, 0, 0, 0⟩))
theorem Msg.zero_iff (m : Msg) : m.zero = true ↔ m = ⟨0, 0, 0, 0, 0⟩ := by
  obtain ⟨a, b, c, d, e⟩ := m
  by_cases h : [a, b, c, d, e] = [0, 0, 0, 0, 0]
  · have h1 : (⟨a, b, c, d, e⟩ : Msg).zero = true := eqL_true h
    simp only [h1, true_iff]
    simpa using h
  · have h1 : (⟨a, b, c, d, e⟩ : Msg).zero = false := eqL_false h
    rw [h1]
    simpa using h
theorem wellEv_iff (e : Ev) : wellEv e = true ↔ EvOk e := by
  unfold wellEv EvOk
  split
  · simp; omega
  · split
    · simp; omega
    · split
      · rename_i h1 h2 h
        rw [Bool.and_eq_true, wellN_iff, Msg.zero_iff]
        constructor
        · rintro ⟨h3, h4⟩; exact ⟨by omega, by omega, .inl ⟨h, h3, h4⟩⟩
        · rintro ⟨_, _, ⟨_, h3, h4⟩ | ⟨h5, _⟩ | ⟨h5, _⟩⟩
          · exact ⟨h3, h4⟩
          · omega
          · omega
      · split
        · rename_i h1 h2 h3 h
          rw [Bool.and_eq_true, Bool.and_eq_true, Bool.and_eq_true, wellN_iff, wellN_iff, wellC_iff, decide_eq_true_eq]
          constructor
          · rintro ⟨⟨⟨h4, h5⟩, h6⟩, h7⟩; exact ⟨by omega, by omega, .inr (.inl ⟨h, h4, h5, h6, h7⟩)⟩
          · rintro ⟨_, _, ⟨h5, _⟩ | ⟨_, h4, h5, h6, h7⟩ | ⟨h5, _⟩⟩
            · omega
            · exact ⟨⟨⟨h4, h5⟩, h6⟩, h7⟩
            · omega
        · split
          · rename_i h1 h2 h3 h4 h
            rw [Bool.and_eq_true, Msg.zero_iff, decide_eq_true_eq]
            constructor
            · rintro ⟨h5, h6⟩; exact ⟨by omega, by omega, .inr (.inr ⟨h, h5, h6⟩)⟩
            · rintro ⟨_, _, ⟨h5, _⟩ | ⟨h5, _⟩ | ⟨_, h5, h6⟩⟩
              · omega
              · omega
              · exact ⟨h5, h6⟩
          · rename_i h1 h2 h3 h4 h5
            constructor
            · intro h; cases h
            · rintro ⟨_, _, ⟨h, _⟩ | ⟨h, _⟩ | ⟨h, _⟩⟩
              · exact absurd h h3
              · exact absurd h h4
              · exact absurd h h5

theorem evWord_len (k : Nat) : (evWords.getD k []).length ≤ 7 := by
  by_cases h : k < 8
  · have : ∀ x : Fin 8, (evWords.getD x.val []).length ≤ 7 := by decide
    exact this ⟨k, h⟩
  · rw [List.getD_eq_getElem?_getD, List.getElem?_eq_none (by simp [evWords]; omega)]; simp
def evRow : Array Value := #[sv [], sv [115, 116, 97, 114, 116], sv [105, 110, 118, 111, 107, 101], sv [100, 101, 108, 105, 118, 101, 114], sv [116, 105, 109, 101, 114], sv [100, 114, 111, 112], sv [100, 117, 112], sv [99, 114, 97, 115, 104]]
theorem evRow_get (k : Nat) (h : k < 8) : evRow[k]? = some (sv (evWords.getD k [])) := by
  rcases (show k = 0 ∨ k = 1 ∨ k = 2 ∨ k = 3 ∨ k = 4 ∨ k = 5 ∨ k = 6 ∨ k = 7 by omega) with rfl | rfl | rfl | rfl | rfl | rfl | rfl | rfl
  all_goals rfl

theorem dotsS_len : ∀ (l : List Int), (∀ x ∈ l, 0 ≤ x ∧ x ≤ 2147483647) → (dotsS l).length ≤ 12 * l.length
  | [], _ => by simp [dotsS]
  | [n], h => by
    have := decl n.toNat (by have := h n (by simp); omega)
    simp [dotsS]; omega
  | n :: m :: l, h => by
    have := decl n.toNat (by have := h n (by simp); omega)
    have := dotsS_len (m :: l) (fun x hx => h x (by simp at hx ⊢; exact .inr hx))
    simp [dotsS] at this ⊢; omega

set_option maxHeartbeats 4000000 in
theorem eventC (e : Ev) (w : World) : Calls Tryz.prog 17 #[.agg (eva e)] w fun r w' => r = .returned (sv (textEv e)) ∧ Below w.heap.size w w' := by
  cases hwell : wellEv e with
  | false =>
    have Hw := Lib.hid (fun X => hwell ▸ wellEventC e X)
    have HF := Lib.hid (show textEv e = [] by unfold textEv; rw [hwell]; rfl)
    rw [HF.out]
    clear hwell HF
    obtain ⟨kind, node, arg, ⟨m0, m1, m2, m3, m4⟩⟩ := e
    have hB : Below w.heap.size w (w.alloc (.cells #[I kind, I node, I arg, I m0, I m1, I m2, I m3, I m4] 49)) := (Below.refl _ _).alloc (Nat.le_refl _) _
    have HB := Lib.hid hB
    clear hB
    unfold eva at *
    dsimp only at *
    go_enter Tryz.func17, Tryz.ntmps17
    go_wp2_with (go_at_call 35; refine (Hw.out _).mono ?_; rintro r w1 ⟨rfl, D⟩)
    go_ret
    exact ⟨rfl, HB.out.trans (D.mono HB.out.size)⟩
  | true =>
    have Hw := Lib.hid (fun X => hwell ▸ wellEventC e X)
    have hok := (wellEv_iff e).1 hwell
    have HF := Lib.hid (show textEv e = rawEv e by unfold textEv; rw [if_pos hwell])
    rw [HF.out]
    clear hwell HF
    obtain ⟨kind, node, arg, ⟨m0, m1, m2, m3, m4⟩⟩ := e
    have hk : 1 ≤ kind ∧ kind ≤ 7 := by obtain ⟨_, _, h⟩ := hok; dsimp only at h; omega
    obtain ⟨k, rfl⟩ : ∃ k : Nat, kind = k := ⟨kind.toNat, by omega⟩
    obtain ⟨nd, rfl⟩ : ∃ n : Nat, node = n := ⟨node.toNat, by have := hok.1; dsimp only at this; omega⟩
    have hnd : nd ≤ 11 := by have := hok.2.1; dsimp only at this; omega
    have hk8 : k < 8 := by omega
    have Hok := Lib.hid hok
    clear hok
    obtain ⟨word, hword⟩ : ∃ x, x = evWords.getD k [] := ⟨_, rfl⟩
    have hwl : word.length ≤ 7 := by rw [hword]; exact evWord_len k
    have Hrow := Lib.hid (hword ▸ evRow_get k hk8)
    obtain ⟨dn, hdn⟩ : ∃ x, x = Lib.decDigits nd := ⟨_, rfl⟩
    have hdl : dn.length ≤ 10 := by rw [hdn]; exact decl nd (by omega)
    have Hdn := Lib.hid (fun X => hdn ▸ decimalC nd (by omega) X)
    have HT := Lib.hid (show rawEv ⟨k, nd, arg, ⟨m0, m1, m2, m3, m4⟩⟩ = (if k = 1 ∨ k = 2 ∨ k = 4 then (word ++ [32] ++ dn) ++ [32] ++ Lib.decDigits arg.toNat else if k = 7 then word ++ [32] ++ dn else (word ++ [32] ++ dn) ++ [32] ++ dotsS [m0, m1, m2, m3, m4]) by
      unfold rawEv
      dsimp only
      rw [Int.toNat_natCast, Int.toNat_natCast, ← hword, ← hdn]
      have e1 : ((k : Int) = 1 ∨ (k : Int) = 2 ∨ (k : Int) = 4) = (k = 1 ∨ k = 2 ∨ k = 4) := by apply propext; omega
      have e2 : ((k : Int) = 7) = (k = 7) := by apply propext; omega
      simp only [e1, e2]
      rfl)
    obtain ⟨T, hT⟩ : ∃ x, x = rawEv ⟨k, nd, arg, ⟨m0, m1, m2, m3, m4⟩⟩ := ⟨_, rfl⟩
    rw [← hT] at HT ⊢
    clear hT hword hdn
    have HB := Lib.hid (show Below w.heap.size w (w.alloc (.cells #[I k, I nd, I arg, I m0, I m1, I m2, I m3, I m4] 49)) from (Below.refl _ _).alloc (Nat.le_refl _) _)
    have Hevb := Lib.hid (show Blk (w.alloc (.cells #[I k, I nd, I arg, I m0, I m1, I m2, I m3, I m4] 49)) w.heap.size #[I k, I nd, I arg, I m0, I m1, I m2, I m3, I m4] from Blk.new w _ _)
    unfold eva at *
    unfold sv at Hdn
    dsimp only at *
    go_enter Tryz.func17, Tryz.ntmps17
    go_upto_region 4 with (go_at_call 35; refine (Hw.out _).mono ?_; rintro r w1 ⟨rfl, D⟩)
    have hev1 : Blk w1 w.heap.size #[I k, I nd, I arg, I m0, I m1, I m2, I m3, I m4] := Hevb.out.kept D (by simp)
    have hB1 : Below w.heap.size w w1 := HB.out.trans (D.mono HB.out.size)
    have hs1 : w.heap.size < w1.heap.size := hev1.lt
    clear HB Hevb Hw D
    go_cut [4] from 9 to 18 (fun t wd => t = .string ⟨(word ++ [32] ++ dn).toArray⟩ ∧ Blk wd w.heap.size #[I k, I nd, I arg, I m0, I m1, I m2, I m3, I m4] ∧ Hid (Below w.heap.size w wd))
    case first =>
      have hev := hev1.drew
      have hbb : Below w.heap.size w w1.drew := hB1.drew
      clear hev1 hB1
      refine wp_region_T 9 (.take 1 (.take 2 (.take 6 (.take 7 (.fork 0 8 (.take 3 (.fork 4 8 (.take 5 (.move 8 .nil)) (.move 4 (.take 5 .nil)))) (.move 0 (.take 3 (.move 4 (.take 5 .nil))))))))) (fun X => (∀ j, X.cell? ⟨w.heap.size, j, none⟩ = (#[I k, I nd, I arg, I m0, I m1, I m2, I m3, I m4] : Array Value)[j]?)) (by kernel_rfl) rfl (by kernel_rfl) hev.cell ?_
      iterate 4 (refine wpT_take rfl ?_ (by rfl) ?_ ?_; rotate_left; (intro w hSw; (try dsimp only at hSw); go_simp; try with_reducible rfl); (try simp only [Act.put, List.setIfInBounds_toArray, List.set_cons_zero, List.set_cons_succ]))
      generalize w1.drew = w2 at hev hbb ⊢
      have hl1 : ¬ 9223372036854775807 < word.length + 1 := by omega
      have hl2 : ¬ 9223372036854775807 < word.length + 1 + dn.length := by omega
      have hkI : (0 : Int) ≤ k := by omega
      have hkI8 : (k : Int) < 8 := by omega
      refine wpT_fork ?_ ?_
      · refine wpT_move rfl (fun K hK => ?_)
        go_simp
        have hrb : Blk (w2.alloc (.cells evRow 9)) w2.heap.size evRow := Blk.new _ _ _
        have hev3 := hev.alloc (.cells evRow 9)
        have hbb3 : Below w.heap.size w (w2.alloc (.cells evRow 9)) := hbb.alloc hbb.size _
        obtain ⟨B, hB⟩ : ∃ B, B = w2.heap.size := ⟨_, rfl⟩
        rw [← hB] at hrb ⊢
        unfold evRow sv at hrb hev3 hbb3
        generalize w2.alloc _ = w3 at hrb hev3 hbb3 ⊢
        clear hB hev hbb
        have hc : w3.cell? ⟨B, k, none⟩ = some (.string ⟨word.toArray⟩) := (hrb.cell k).trans Hrow.out
        refine hK.out _ _ hev3.cell ?_
        clear hK K
        (try simp only [Act.put, List.setIfInBounds_toArray, List.set_cons_zero, List.set_cons_succ])
        (refine wpT_take rfl ?_ (by rfl) ?_ ?_; rotate_left; (intro w hSw; (try dsimp only at hSw); go_simp; try with_reducible rfl); (try simp only [Act.put, List.setIfInBounds_toArray, List.set_cons_zero, List.set_cons_succ]))
        refine wpT_fork ?_ ?_
        · refine wpT_move rfl (fun K hK => ?_)
          go_simp
          refine hK.out _ _ hev3.cell ?_
          clear hK K
          (try simp only [Act.put, List.setIfInBounds_toArray, List.set_cons_zero, List.set_cons_succ])
          (refine wpT_take rfl ?_ (by rfl) ?_ ?_; rotate_left; (intro w hSw; (try dsimp only at hSw); go_simp; try with_reducible rfl); (try simp only [Act.put, List.setIfInBounds_toArray, List.set_cons_zero, List.set_cons_succ]))
          refine wpT_move rfl (fun K hK => ?_)
          go_simp
          go_at_call 16
          refine (Hdn.out _).mono ?_
          rintro e w4 ⟨rfl, rfl⟩
          refine hK.out _ _ hev3.cell ?_
          clear hK K
          (try simp only [Act.put, List.setIfInBounds_toArray, List.set_cons_zero, List.set_cons_succ])
          refine wpT_nil ?_
          go_wp2
          refine NoPanic.normal ?_
          go_wp2
          go_meet
          exact ⟨congrArg Value.string ((congrArg (· ++ _) (ba_app word [32])).trans (ba_app (word ++ [32]) dn)), hev3, Lib.hid hbb3⟩
        · refine wpT_move rfl (fun K hK => ?_)
          go_simp
          go_at_call 16
          refine (Hdn.out _).mono ?_
          rintro e w4 ⟨rfl, rfl⟩
          refine hK.out _ _ hev3.cell ?_
          clear hK K
          (try simp only [Act.put, List.setIfInBounds_toArray, List.set_cons_zero, List.set_cons_succ])
          refine wpT_move rfl (fun K hK => ?_)
          go_simp
          refine hK.out _ _ hev3.cell ?_
          clear hK K
          (try simp only [Act.put, List.setIfInBounds_toArray, List.set_cons_zero, List.set_cons_succ])
          (refine wpT_take rfl ?_ (by rfl) ?_ ?_; rotate_left; (intro w hSw; (try dsimp only at hSw); go_simp; try with_reducible rfl); (try simp only [Act.put, List.setIfInBounds_toArray, List.set_cons_zero, List.set_cons_succ]))
          refine wpT_nil ?_
          go_wp2
          refine NoPanic.normal ?_
          go_wp2
          go_meet
          exact ⟨congrArg Value.string ((congrArg (· ++ _) (ba_app word [32])).trans (ba_app (word ++ [32]) dn)), hev3, Lib.hid hbb3⟩
      · refine wpT_move rfl (fun K hK => ?_)
        go_simp
        go_at_call 16
        refine (Hdn.out _).mono ?_
        rintro e w4 ⟨rfl, rfl⟩
        refine hK.out _ _ hev.cell ?_
        clear hK K
        (try simp only [Act.put, List.setIfInBounds_toArray, List.set_cons_zero, List.set_cons_succ])
        refine wpT_move rfl (fun K hK => ?_)
        go_simp
        have hrb : Blk (w2.alloc (.cells evRow 9)) w2.heap.size evRow := Blk.new _ _ _
        have hev3 := hev.alloc (.cells evRow 9)
        have hbb3 : Below w.heap.size w (w2.alloc (.cells evRow 9)) := hbb.alloc hbb.size _
        obtain ⟨B, hB⟩ : ∃ B, B = w2.heap.size := ⟨_, rfl⟩
        rw [← hB] at hrb ⊢
        unfold evRow sv at hrb hev3 hbb3
        generalize w2.alloc _ = w3 at hrb hev3 hbb3 ⊢
        clear hB hev hbb
        have hc : w3.cell? ⟨B, k, none⟩ = some (.string ⟨word.toArray⟩) := (hrb.cell k).trans Hrow.out
        refine hK.out _ _ hev3.cell ?_
        clear hK K
        (try simp only [Act.put, List.setIfInBounds_toArray, List.set_cons_zero, List.set_cons_succ])
        (refine wpT_take rfl ?_ (by rfl) ?_ ?_; rotate_left; (intro w hSw; (try dsimp only at hSw); go_simp; try with_reducible rfl); (try simp only [Act.put, List.setIfInBounds_toArray, List.set_cons_zero, List.set_cons_succ]))
        refine wpT_move rfl (fun K hK => ?_)
        go_simp
        refine hK.out _ _ hev3.cell ?_
        clear hK K
        (try simp only [Act.put, List.setIfInBounds_toArray, List.set_cons_zero, List.set_cons_succ])
        (refine wpT_take rfl ?_ (by rfl) ?_ ?_; rotate_left; (intro w hSw; (try dsimp only at hSw); go_simp; try with_reducible rfl); (try simp only [Act.put, List.setIfInBounds_toArray, List.set_cons_zero, List.set_cons_succ]))
        refine wpT_nil ?_
        go_wp2
        refine NoPanic.normal ?_
        go_wp2
        go_meet
        exact ⟨congrArg Value.string ((congrArg (· ++ _) (ba_app word [32])).trans (ba_app (word ++ [32]) dn)), hev3, Lib.hid hbb3⟩
    case rest =>
      obtain ⟨rfl, hev, HB⟩ := hcut
      have hhl : (word ++ [32] ++ dn).length ≤ 18 := by simp; omega
      generalize word ++ [32] ++ dn = hd at hhl HT ⊢
      have c0 := hev.cell 0; have c2 := hev.cell 2; have c3 := hev.cell 3; have c4 := hev.cell 4; have c5 := hev.cell 5; have c6 := hev.cell 6; have c7 := hev.cell 7
      clear Hrow Hdn hdl hwl hev
      have hl1 : ¬ 9223372036854775807 < hd.length + 1 := by omega
      by_cases hA : k = 1 ∨ k = 2 ∨ k = 4
      · have ha := Hok.out
        obtain ⟨_, _, ⟨_, ⟨h0, h1⟩, _⟩ | ⟨h, _⟩ | ⟨h, _⟩⟩ := ha
        · dsimp only at h0 h1
          obtain ⟨r, rfl⟩ : ∃ n : Nat, arg = n := ⟨arg.toNat, by omega⟩
          have HF := Lib.hid (show T = hd ++ [32] ++ Lib.decDigits r by rw [HT.out, if_pos hA, Int.toNat_natCast])
          have hdl := decl r (by omega)
          have hD := decimalC r (by omega) wc
          clear HT Hok h0 h1
          generalize Lib.decDigits r = t at hdl HF hD
          have HD := Lib.hid hD
          clear hD
          unfold sv at HD
          have hl2 : ¬ 9223372036854775807 < hd.length + 1 + t.length := by omega
          rcases hA with rfl | rfl | rfl
          all_goals (go_wp2_with (go_at_call 16; refine HD.out.mono ?_; rintro e w4 ⟨rfl, rfl⟩))
          all_goals go_ret
          all_goals exact ⟨by rw [HF.out]; exact congrArg (fun x => Ending.returned (Value.string x)) ((congrArg (· ++ _) (ba_app hd [32])).trans (ba_app (hd ++ [32]) t)), HB.out⟩
        · exact absurd h (by dsimp only; omega)
        · exact absurd h (by dsimp only; omega)
      · by_cases h7 : k = 7
        · subst h7
          have HF := Lib.hid (show T = hd by rw [HT.out]; simp)
          clear HT Hok
          go_wp2_with fail
          go_ret
          exact ⟨by rw [HF.out]; rfl, HB.out⟩
        · have ha := Hok.out
          obtain ⟨_, _, ⟨h, _⟩ | ⟨_, _, ⟨h0, h1, h2⟩, h3, h4⟩ | ⟨h, _⟩⟩ := ha
          · exact absurd h (by dsimp only; omega)
          · dsimp only at h0 h1 h2 h3 h4
            have HF := Lib.hid (show T = hd ++ [32] ++ dotsS [m0, m1, m2, m3, m4] by rw [HT.out, if_neg hA, if_neg h7])
            have Hr := Lib.hid (show ∀ x ∈ [m0, m1, m2, m3, m4], 0 ≤ x ∧ x ≤ 2147483647 by intro x hx; simp at hx; omega)
            have hdl := dotsS_len [m0, m1, m2, m3, m4] Hr.out
            have hD := fun v X (h : IntSl X v [m0, m1, m2, m3, m4]) => dotsC [m0, m1, m2, m3, m4] Hr.out (by simp) v X h
            have hM := msgKeyC ⟨m0, m1, m2, m3, m4⟩ wc
            unfold Msg.ints at hM
            dsimp only at hM
            clear HT Hok h0 h1 h2 h3 h4 Hr
            generalize dotsS [m0, m1, m2, m3, m4] = t at hdl HF hD
            have HD := Lib.hid hD
            have HM := Lib.hid hM
            clear hD hM
            unfold sv at HD
            have hdl : t.length ≤ 60 := hdl
            have hl2 : ¬ 9223372036854775807 < hd.length + 1 + t.length := by omega
            have hk3 : k = 3 ∨ k = 5 ∨ k = 6 := by omega
            clear hA h7
            rcases hk3 with rfl | rfl | rfl
            all_goals (go_wp2_with (first | (go_at_call 37; refine HM.out.mono ?_; rintro e w4 ⟨⟨v, rfl, hv⟩, D4⟩; replace hv := Lib.hid hv; replace D4 := Lib.hid D4) | (go_at_call 36; refine (HD.out _ _ hv.out).mono ?_; rintro e w5 ⟨rfl, rfl⟩)))
            all_goals go_ret
            all_goals exact ⟨by rw [HF.out]; exact congrArg (fun x => Ending.returned (Value.string x)) ((congrArg (· ++ _) (ba_app hd [32])).trans (ba_app (hd ++ [32]) t)), HB.out.trans (D4.out.mono HB.out.size)⟩
          · exact absurd h (by dsimp only; omega)

end Go.Proofs.YtljmonfobefiiaaGreatDoor

/- The reference: WellQuestion, Question. -/
namespace Go.Proofs.YtljmonfobefiiaaGreatDoor
open Go.RowKit

def wellQn (q : Qn) : Bool := decide (1 ≤ q.kind) && decide (q.kind ≤ 3) && wellC q.node q.handler q.count 41 && wellN q.index
set_option maxHeartbeats 2000000 in
theorem wellQuestionC (q : Qn) (w : World) : Calls Tryz.prog 38 #[.agg (qva q)] w fun r w' => r = .returned (.bool (wellQn q)) ∧ Below w.heap.size w w' := by
  obtain ⟨a, b, c, kind, ix⟩ := q
  have HB := Lib.hid (show Below w.heap.size w (w.alloc (.cells #[I a, I b, I c, I kind, I ix] 58)) from (Below.refl _ _).alloc (Nat.le_refl _) _)
  have Hn := Lib.hid (number78 ix)
  have Hc := Lib.hid (cause79 a b c 41)
  have Hx := Lib.hid (show ∀ X, Below (w.alloc (.cells #[I a, I b, I c, I kind, I ix] 58)).heap.size (w.alloc (.cells #[I a, I b, I c, I kind, I ix] 58)) X → X.cell? ⟨w.heap.size, 4, none⟩ = some (I ix) from fun X hX => ((Blk.new w _ _).kept hX (Blk.new w _ _).lt).cell 4)
  have HF := Lib.hid (show wellQn ⟨a, b, c, kind, ix⟩ = (decide (1 ≤ kind) && decide (kind ≤ 3) && wellC a b c 41 && wellN ix) from rfl)
  obtain ⟨T, hT⟩ : ∃ T, T = wellQn ⟨a, b, c, kind, ix⟩ := ⟨_, rfl⟩
  rw [← hT] at HF ⊢
  clear hT
  unfold qva
  dsimp only
  generalize wellN ix = X at Hn HF
  by_cases h1 : 1 ≤ kind
  · by_cases h2 : kind ≤ 3
    · have hd1 : decide (1 ≤ kind) = true := decide_eq_true h1
      have hd2 : decide (kind ≤ 3) = true := decide_eq_true h2
      rw [hd1, hd2] at HF
      clear hd1 hd2
      cases hC : wellC a b c 41 with
      | true =>
        rw [hC] at Hc HF
        clear hC
        have HF := Lib.hid (show T = X by rw [HF.out]; simp)
        go_enter Tryz.func38, Tryz.ntmps38
        go_wp2_with (first
          | (go_at_call 79; refine (Hc.out _).mono ?_; rintro e w1 ⟨rfl, D⟩; have cx := Hx.out _ D; replace D := Lib.hid D)
          | (go_at_call 78; refine (Hn.out _).mono ?_; rintro e w2 ⟨rfl, rfl⟩))
        go_ret
        exact ⟨by rw [HF.out]; rfl, HB.out.trans (D.out.mono HB.out.size)⟩
      | false =>
        rw [hC] at Hc HF
        clear hC
        have HF := Lib.hid (show T = false by rw [HF.out]; simp)
        go_enter Tryz.func38, Tryz.ntmps38
        go_wp2_with (first
          | (go_at_call 79; refine (Hc.out _).mono ?_; rintro e w1 ⟨rfl, D⟩; have cx := Hx.out _ D; replace D := Lib.hid D))
        go_ret
        exact ⟨by rw [HF.out]; rfl, HB.out.trans (D.out.mono HB.out.size)⟩
    · have HF := Lib.hid (show T = false by rw [HF.out]; simp; omega)
      go_enter Tryz.func38, Tryz.ntmps38
      go_wp2_with fail
      go_ret
      exact ⟨by rw [HF.out]; rfl, HB.out⟩
  · have HF := Lib.hid (show T = false by rw [HF.out]; simp; omega)
    go_enter Tryz.func38, Tryz.ntmps38
    go_wp2_with fail
    go_ret
    exact ⟨by rw [HF.out]; rfl, HB.out⟩

def QnOk (q : Qn) : Prop := (1 ≤ q.kind ∧ q.kind ≤ 3) ∧ ((0 ≤ q.node ∧ q.node < 12) ∧ (0 ≤ q.handler ∧ q.handler < 41) ∧ 0 ≤ q.count ∧ q.count ≤ 2147483647) ∧ 0 ≤ q.index ∧ q.index ≤ 2147483647
theorem wellQn_iff (q : Qn) : wellQn q = true ↔ QnOk q := by
  unfold wellQn QnOk
  rw [Bool.and_eq_true, Bool.and_eq_true, Bool.and_eq_true, wellN_iff, wellC_iff, decide_eq_true_eq, decide_eq_true_eq, and_assoc]
def rawQn (q : Qn) : Str := quWords.getD q.kind.toNat [] ++ [32] ++ dotsS [q.node, q.handler, q.count] ++ [32] ++ Lib.decDigits q.index.toNat
def textQn (q : Qn) : Str := if wellQn q = true then rawQn q else []
def quRow : Array Value := #[sv [], sv [100, 114, 97, 119], sv [116, 105, 99, 107], sv [107, 101, 101, 112]]
theorem quRow_get (k : Nat) (h : k < 4) : quRow[k]? = some (sv (quWords.getD k [])) := by
  rcases (show k = 0 ∨ k = 1 ∨ k = 2 ∨ k = 3 by omega) with rfl | rfl | rfl | rfl
  all_goals rfl
theorem quWord_len (k : Nat) (h : k < 4) : (quWords.getD k []).length ≤ 4 := by
  have : ∀ x : Fin 4, (quWords.getD x.val []).length ≤ 4 := by decide
  exact this ⟨k, h⟩

set_option maxHeartbeats 4000000 in
theorem questionC (q : Qn) (w : World) : Calls Tryz.prog 18 #[.agg (qva q)] w fun r w' => r = .returned (sv (textQn q)) ∧ Below w.heap.size w w' := by
  cases hwell : wellQn q with
  | false =>
    have Hw := Lib.hid (fun X => hwell ▸ wellQuestionC q X)
    have HF := Lib.hid (show textQn q = [] by unfold textQn; rw [hwell]; rfl)
    rw [HF.out]
    clear hwell HF
    obtain ⟨a, b, c, kind, ix⟩ := q
    have HB := Lib.hid (show Below w.heap.size w (w.alloc (.cells #[I a, I b, I c, I kind, I ix] 58)) from (Below.refl _ _).alloc (Nat.le_refl _) _)
    unfold qva at *
    dsimp only at *
    go_enter Tryz.func18, Tryz.ntmps18
    go_wp2_with (go_at_call 38; refine (Hw.out _).mono ?_; rintro r w1 ⟨rfl, D⟩)
    go_ret
    exact ⟨rfl, HB.out.trans (D.mono HB.out.size)⟩
  | true =>
    have Hw := Lib.hid (fun X => hwell ▸ wellQuestionC q X)
    have hok := (wellQn_iff q).1 hwell
    have HF := Lib.hid (show textQn q = rawQn q by unfold textQn; rw [if_pos hwell])
    rw [HF.out]
    clear hwell HF
    obtain ⟨a, b, c, kind, ix⟩ := q
    obtain ⟨hk, ⟨ha, hb, hc⟩, hix⟩ := hok
    dsimp only at hk ha hb hc hix
    obtain ⟨k, rfl⟩ : ∃ k : Nat, kind = k := ⟨kind.toNat, by omega⟩
    obtain ⟨i, rfl⟩ : ∃ n : Nat, ix = n := ⟨ix.toNat, by omega⟩
    have hk8 : k < 4 := by omega
    obtain ⟨word, hword⟩ : ∃ x, x = quWords.getD k [] := ⟨_, rfl⟩
    have hwl : word.length ≤ 4 := by rw [hword]; exact quWord_len k hk8
    have Hrow := Lib.hid (hword ▸ quRow_get k hk8)
    have Hr := Lib.hid (show ∀ x ∈ [a, b, c], 0 ≤ x ∧ x ≤ 2147483647 by intro x hx; simp at hx; omega)
    obtain ⟨ds, hds⟩ : ∃ x, x = dotsS [a, b, c] := ⟨_, rfl⟩
    have hdsl : ds.length ≤ 36 := by rw [hds]; exact dotsS_len [a, b, c] Hr.out
    have HD := Lib.hid (hds ▸ fun v X (h : IntSl X v [a, b, c]) => dotsC [a, b, c] Hr.out (by simp) v X h)
    obtain ⟨dn, hdn⟩ : ∃ x, x = Lib.decDigits i := ⟨_, rfl⟩
    have hdl : dn.length ≤ 10 := by rw [hdn]; exact decl i (by omega)
    have Hdn := Lib.hid (fun X => hdn ▸ decimalC i (by omega) X)
    have HT := Lib.hid (show rawQn ⟨a, b, c, k, i⟩ = word ++ [32] ++ ds ++ [32] ++ dn by
      unfold rawQn
      dsimp only
      rw [Int.toNat_natCast, Int.toNat_natCast, ← hword, ← hdn, ← hds])
    rw [HT.out]
    clear HT Hr hword hdn hds ha hb hc hix
    have HB := Lib.hid (show Below w.heap.size w (w.alloc (.cells #[I a, I b, I c, I k, I i] 58)) from (Below.refl _ _).alloc (Nat.le_refl _) _)
    have Hevb := Lib.hid (show Blk (w.alloc (.cells #[I a, I b, I c, I k, I i] 58)) w.heap.size #[I a, I b, I c, I k, I i] from Blk.new w _ _)
    unfold qva at *
    unfold sv at Hdn HD ⊢
    dsimp only at *
    go_enter Tryz.func18, Tryz.ntmps18
    go_upto_region 4 with (go_at_call 38; refine (Hw.out _).mono ?_; rintro r w1 ⟨rfl, D⟩)
    have hev1 : Blk w1 w.heap.size #[I a, I b, I c, I k, I i] := Hevb.out.kept D (by simp)
    have hB1 : Below w.heap.size w w1 := HB.out.trans (D.mono HB.out.size)
    have hs1 : w.heap.size < w1.heap.size := hev1.lt
    have c0 := hev1.cell 0; have c1 := hev1.cell 1; have c2 := hev1.cell 2
    have hx := Lib.hid (show IntSl (w1.alloc (.cells #[I a, I b, I c] 3)) (.slice (some ⟨w1.heap.size, 0, none⟩) 3 3) [a, b, c] from
      Flat.of_cells rfl (by simp) (fun j u hu => by rw [Nat.zero_add, (Blk.new w1 #[I a, I b, I c] 3).cell j]; simpa [iv] using hu))
    clear HB Hevb Hw D
    go_upto_region 5 with (go_at_call 36; refine (HD.out _ _ hx.out).mono ?_; rintro e w5 ⟨rfl, rfl⟩)
    have hev2 := (hev1.alloc (.cells #[I a, I b, I c] 3)).drew
    have hbb2 : Below w.heap.size w (w1.alloc (.cells #[I a, I b, I c] 3)).drew := (hB1.alloc (by omega) _).drew
    clear hx c0 c1 c2 hev1 hB1 hs1
    obtain ⟨V, hV⟩ : ∃ V, V = (w1.alloc (.cells #[I a, I b, I c] 3)).drew := ⟨_, rfl⟩
    rw [← hV] at hev2 hbb2
    refine wp_region_T 12 (.take 1 (.take 2 (.take 6 (.take 9 (.take 10 (.fork 0 11 (.take 3 (.fork 4 11 (.take 5 (.take 7 (.take 8 (.move 11 .nil)))) (.move 4 (.take 5 (.take 7 (.take 8 .nil)))))) (.move 0 (.take 3 (.move 4 (.take 5 (.take 7 (.take 8 .nil)))))))))))) (fun X => (∀ j, X.cell? ⟨w.heap.size, j, none⟩ = (#[I a, I b, I c, I k, I i] : Array Value)[j]?)) (by kernel_rfl) rfl (by kernel_rfl) (hV ▸ hev2.cell) ?_
    rw [← hV]
    clear hV
    iterate 5 (refine wpT_take rfl ?_ (by rfl) ?_ ?_; rotate_left; (intro w hSw; (try dsimp only at hSw); go_simp; try with_reducible rfl); (try simp only [Act.put, List.setIfInBounds_toArray, List.set_cons_zero, List.set_cons_succ]))
    have hl1 : ¬ 9223372036854775807 < word.length + 1 := by omega
    have hl2 : ¬ 9223372036854775807 < word.length + 1 + ds.length := by omega
    have hl3 : ¬ 9223372036854775807 < word.length + 1 + ds.length + 1 := by omega
    have hl4 : ¬ 9223372036854775807 < word.length + 1 + ds.length + 1 + dn.length := by omega
    have hkI : (0 : Int) ≤ k := by omega
    have hkI8 : (k : Int) < 4 := by omega
    refine wpT_fork ?_ ?_
    · refine wpT_move rfl (fun K hK => ?_)
      go_simp
      have hrb : Blk (V.alloc (.cells quRow 9)) V.heap.size quRow := Blk.new _ _ _
      have hev3 := hev2.alloc (.cells quRow 9)
      have hbb3 : Below w.heap.size w (V.alloc (.cells quRow 9)) := hbb2.alloc hbb2.size _
      obtain ⟨B, hB⟩ : ∃ B, B = V.heap.size := ⟨_, rfl⟩
      rw [← hB] at hrb ⊢
      unfold quRow sv at hrb hev3 hbb3
      generalize V.alloc _ = w3 at hrb hev3 hbb3 ⊢
      clear hB hev2 hbb2
      have hc : w3.cell? ⟨B, k, none⟩ = some (.string ⟨word.toArray⟩) := (hrb.cell k).trans Hrow.out
      refine hK.out _ _ hev3.cell ?_
      clear hK K
      (try simp only [Act.put, List.setIfInBounds_toArray, List.set_cons_zero, List.set_cons_succ])
      (refine wpT_take rfl ?_ (by rfl) ?_ ?_; rotate_left; (intro w hSw; (try dsimp only at hSw); go_simp; try with_reducible rfl); (try simp only [Act.put, List.setIfInBounds_toArray, List.set_cons_zero, List.set_cons_succ]))
      refine wpT_fork ?_ ?_
      · refine wpT_move rfl (fun K hK => ?_)
        go_simp
        refine hK.out _ _ hev3.cell ?_
        clear hK K
        (try simp only [Act.put, List.setIfInBounds_toArray, List.set_cons_zero, List.set_cons_succ])
        iterate 3 (refine wpT_take rfl ?_ (by rfl) ?_ ?_; rotate_left; (intro w hSw; (try dsimp only at hSw); go_simp; try with_reducible rfl); (try simp only [Act.put, List.setIfInBounds_toArray, List.set_cons_zero, List.set_cons_succ]))
        refine wpT_move rfl (fun K hK => ?_)
        go_simp
        go_at_call 16
        refine (Hdn.out _).mono ?_
        rintro e w4 ⟨rfl, rfl⟩
        refine hK.out _ _ hev3.cell ?_
        clear hK K
        (try simp only [Act.put, List.setIfInBounds_toArray, List.set_cons_zero, List.set_cons_succ])
        refine wpT_nil ?_
        go_wp2_with fail
        refine NoPanic.normal ?_
        go_wp2_with fail
        go_ret
        refine ⟨congrArg (fun x => Ending.returned (Value.string x)) ?_, hbb3⟩
        rw [ba_app, ba_app, ba_app, ba_app]
      · refine wpT_move rfl (fun K hK => ?_)
        go_simp
        go_at_call 16
        refine (Hdn.out _).mono ?_
        rintro e w4 ⟨rfl, rfl⟩
        refine hK.out _ _ hev3.cell ?_
        clear hK K
        (try simp only [Act.put, List.setIfInBounds_toArray, List.set_cons_zero, List.set_cons_succ])
        refine wpT_move rfl (fun K hK => ?_)
        go_simp
        refine hK.out _ _ hev3.cell ?_
        clear hK K
        (try simp only [Act.put, List.setIfInBounds_toArray, List.set_cons_zero, List.set_cons_succ])
        iterate 3 (refine wpT_take rfl ?_ (by rfl) ?_ ?_; rotate_left; (intro w hSw; (try dsimp only at hSw); go_simp; try with_reducible rfl); (try simp only [Act.put, List.setIfInBounds_toArray, List.set_cons_zero, List.set_cons_succ]))
        refine wpT_nil ?_
        go_wp2_with fail
        refine NoPanic.normal ?_
        go_wp2_with fail
        go_ret
        refine ⟨congrArg (fun x => Ending.returned (Value.string x)) ?_, hbb3⟩
        rw [ba_app, ba_app, ba_app, ba_app]
    · refine wpT_move rfl (fun K hK => ?_)
      go_simp
      go_at_call 16
      refine (Hdn.out _).mono ?_
      rintro e w4 ⟨rfl, rfl⟩
      refine hK.out _ _ hev2.cell ?_
      clear hK K
      (try simp only [Act.put, List.setIfInBounds_toArray, List.set_cons_zero, List.set_cons_succ])
      refine wpT_move rfl (fun K hK => ?_)
      go_simp
      have hrb : Blk (V.alloc (.cells quRow 9)) V.heap.size quRow := Blk.new _ _ _
      have hev3 := hev2.alloc (.cells quRow 9)
      have hbb3 : Below w.heap.size w (V.alloc (.cells quRow 9)) := hbb2.alloc hbb2.size _
      obtain ⟨B, hB⟩ : ∃ B, B = V.heap.size := ⟨_, rfl⟩
      rw [← hB] at hrb ⊢
      unfold quRow sv at hrb hev3 hbb3
      generalize V.alloc _ = w3 at hrb hev3 hbb3 ⊢
      clear hB hev2 hbb2
      have hc : w3.cell? ⟨B, k, none⟩ = some (.string ⟨word.toArray⟩) := (hrb.cell k).trans Hrow.out
      refine hK.out _ _ hev3.cell ?_
      clear hK K
      (try simp only [Act.put, List.setIfInBounds_toArray, List.set_cons_zero, List.set_cons_succ])
      (refine wpT_take rfl ?_ (by rfl) ?_ ?_; rotate_left; (intro w hSw; (try dsimp only at hSw); go_simp; try with_reducible rfl); (try simp only [Act.put, List.setIfInBounds_toArray, List.set_cons_zero, List.set_cons_succ]))
      refine wpT_move rfl (fun K hK => ?_)
      go_simp
      refine hK.out _ _ hev3.cell ?_
      clear hK K
      (try simp only [Act.put, List.setIfInBounds_toArray, List.set_cons_zero, List.set_cons_succ])
      iterate 3 (refine wpT_take rfl ?_ (by rfl) ?_ ?_; rotate_left; (intro w hSw; (try dsimp only at hSw); go_simp; try with_reducible rfl); (try simp only [Act.put, List.setIfInBounds_toArray, List.set_cons_zero, List.set_cons_succ]))
      refine wpT_nil ?_
      go_wp2_with fail
      refine NoPanic.normal ?_
      go_wp2_with fail
      go_ret
      refine ⟨congrArg (fun x => Ending.returned (Value.string x)) ?_, hbb3⟩
      rw [ba_app, ba_app, ba_app, ba_app]

end Go.Proofs.YtljmonfobefiiaaGreatDoor

/- The reference's event. (Printed by mkS18.py.) -/
namespace Go.Proofs.YtljmonfobefiiaaGreatDoor
open Go.RowKit

def refEv (s : Str) : Ev × Bool :=
  let k := kindOf evWords (s.take (cutAt [[32]] s))
  let r := (s.drop (cutAt [[32]] s)).drop 1
  let n := numI (r.take (cutAt [[32]] r))
  let m := (r.drop (cutAt [[32]] r)).drop 1
  if k = 1 ∨ k = 2 ∨ k = 4 then (⟨k, n, numI m, ⟨0, 0, 0, 0, 0⟩⟩, textEv ⟨k, n, numI m, ⟨0, 0, 0, 0, 0⟩⟩ == s)
  else if k = 7 then (⟨7, n, 0, ⟨0, 0, 0, 0, 0⟩⟩, textEv ⟨7, n, 0, ⟨0, 0, 0, 0, 0⟩⟩ == s)
  else match numbersI 46 m with
    | [a, b, c, d, x] => (⟨k, n, 0, ⟨a, b, c, d, x⟩⟩, decide (0 < k) && (textEv ⟨k, n, 0, ⟨a, b, c, d, x⟩⟩ == s))
    | _ => (⟨k, n, 0, ⟨0, 0, 0, 0, 0⟩⟩, false)
def EvRR (p : Ev × Bool) : Value := .tuple #[.agg (eva p.1), .bool p.2]
theorem evEnd {p : Ev × Bool} {w W : World} {tmps : Array Value} {cs : Array Value} {f : Func} (ht : f.results = #[.cell 2 49, .tmp 3]) (hb : Blk W w.heap.size cs) (hl : cs.size = 8) (hB : Below w.heap.size w W)
    (h2 : tmps.getD 2 undef = .pointer (some ⟨w.heap.size, 0, none⟩)) (hR : EvRR p = .tuple #[.agg cs, tmps.getD 3 undef]) :
    bodyPost Tryz.prog f (fun e w' => e = .returned (EvRR p) ∧ Below w.heap.size w w') .ret { tmps := tmps, defers := [] } W :=
  bodyPost_ret (results_c2 ht tmps W w.heap.size cs (loadEv hb hl) h2) rfl ⟨by rw [hR], hB⟩
theorem drop_min (s : Str) : s.drop (min 1 s.length) = s.drop 1 := by
  cases s with
  | nil => rfl
  | cons a b => simp

set_option maxHeartbeats 8000000 in
set_option maxRecDepth 100000 in
theorem refEvC (s : Str) (w : World) (hl : s.length ≤ 1000000) : Calls Tryz.prog 57 #[sv s] w fun r w' => r = .returned (EvRR (refEv s)) ∧ Below w.heap.size w w' := by
  have HT := Lib.hid (show refEv s = _ from rfl)
  unfold refEv at HT
  obtain ⟨T, hT⟩ : ∃ T, T = refEv s := ⟨_, rfl⟩
  have HTT := Lib.hid hT
  rw [← hT]
  clear hT
  have Hbf := Lib.hid (fun g X h => beforeC s [[32]] g X h (by simp) (by omega) (by simp))
  have hwl : (s.take (cutAt [[32]] s)).length ≤ 1000000 := by simp; omega
  have hrl : (s.drop (cutAt [[32]] s)).length ≤ 1000000 := by simp; omega
  replace HT := Lib.hid (HTT.out.trans HT.out)
  dsimp only at HT
  clear HTT
  generalize s.take (cutAt [[32]] s) = word at Hbf HT hwl
  generalize s.drop (cutAt [[32]] s) = rest at Hbf HT hrl
  obtain ⟨j, hj⟩ : ∃ j, j = min 1 rest.length := ⟨_, rfl⟩
  rw [← drop_min rest, ← hj] at HT
  have hjI : min (1 : Int) (rest.length : Int) = (j : Int) := by rw [hj]; omega
  have hjl : j ≤ rest.length := by omega
  have hex1 : (⟨rest.toArray⟩ : ByteArray).extract j rest.length = ⟨(rest.drop j).toArray⟩ := ext_drop rest j
  have hr2l : (rest.drop j).length ≤ 1000000 := by simp; omega
  clear hj
  have Hbf2 := Lib.hid (fun g X h => beforeC (rest.drop j) [[32]] g X h (by simp) (by omega) (by simp))
  have hnl : ((rest.drop j).take (cutAt [[32]] (rest.drop j))).length ≤ 1000000 := by simp; omega
  have hml : ((rest.drop j).drop (cutAt [[32]] (rest.drop j))).length ≤ 1000000 := by simp; omega
  generalize (rest.drop j).take (cutAt [[32]] (rest.drop j)) = node at Hbf2 HT hnl
  generalize (rest.drop j).drop (cutAt [[32]] (rest.drop j)) = more0 at Hbf2 HT hml
  generalize rest.drop j = r2 at Hbf2 HT hr2l hex1
  obtain ⟨i, hi⟩ : ∃ i, i = min 1 more0.length := ⟨_, rfl⟩
  rw [← drop_min more0, ← hi] at HT
  have hiI : min (1 : Int) (more0.length : Int) = (i : Int) := by rw [hi]; omega
  have hil : i ≤ more0.length := by omega
  have hex2 : (⟨more0.toArray⟩ : ByteArray).extract i more0.length = ⟨(more0.drop i).toArray⟩ := ext_drop more0 i
  have hm2l : (more0.drop i).length ≤ 1000000 := by simp; omega
  clear hi
  generalize more0.drop i = m2 at hex2 HT hm2l
  have Hn := Lib.hid (fun X => numC node X hnl)
  have Hm := Lib.hid (fun X => numC m2 X hm2l)
  generalize numI node = nd at Hn HT
  have Hs := Lib.hid (fun X => numbersC m2 46 X hm2l)
  generalize numI m2 = ar at Hm HT
  generalize numbersI 46 m2 = l at Hs HT
  unfold sv at Hbf Hbf2 Hn Hm Hs ⊢
  go_enter Tryz.func57, Tryz.ntmps57
  go_upto_region 2 with fail
  obtain ⟨W, hW⟩ : ∃ W, W = (w.alloc (.cells #[I 0, I 0, I 0, I 0, I 0, I 0, I 0, I 0] 49)).alloc (.cells evRow 9) := ⟨_, rfl⟩
  have hR : Blk W w.heap.size z8 := by rw [hW]; exact (Blk.new w _ _).alloc _
  have hKr : Blk W (w.heap.size + 1) evRow := by rw [hW, ← World.size_alloc w (.cells #[I 0, I 0, I 0, I 0, I 0, I 0, I 0, I 0] 49)]; exact Blk.new _ _ _
  have hBW : Below w.heap.size w W := by rw [hW]; exact ((Below.refl _ _).alloc (Nat.le_refl _) _).alloc (by simp) _
  unfold evRow sv at hW
  rw [← hW]
  clear hW
  go_upto_region 4 with (go_at_call 25; refine (Hbf.out W.heap.size _ (heap_alloc_new _ _)).mono ?_; rintro e w3 ⟨rfl, D3⟩)
  have hzW : w.heap.size + 2 ≤ W.heap.size := hKr.lt
  have hzD := D3.size
  rw [World.size_alloc] at hzD
  have hBW3 : Below W.heap.size W w3 := ((Below.refl _ _).alloc (Nat.le_refl _) _).trans (D3.mono (by simp))
  have hR3 := hR.kept hBW3 hR.lt
  have hK3 := hKr.kept hBW3 hKr.lt
  have hB3 := hBW.trans (hBW3.mono hBW.size)
  clear hR hKr hBW D3 hBW3
  obtain ⟨V, hV⟩ : ∃ V, V = w3.alloc (.cells #[I 0, I 0, I 0, I 0, I 0, I 0, I 0, I 0] 49) := ⟨_, rfl⟩
  have hRV : Blk V w.heap.size z8 := by rw [hV]; exact hR3.alloc _
  have hKV : Blk V (w.heap.size + 1) evRow := by rw [hV]; exact hK3.alloc _
  have hEV : Blk V w3.heap.size z8 := by rw [hV]; exact Blk.new _ _ _
  have hBV : Below w.heap.size w V := by rw [hV]; exact hB3.alloc hB3.size _
  obtain ⟨E, hE⟩ : ∃ E, E = w3.heap.size := ⟨_, rfl⟩
  rw [← hE] at hEV ⊢
  rw [← hV]
  have hEz : w.heap.size + 2 ≤ E := by omega
  clear hV hE hR3 hK3 hB3 hzD hzW
  replace hRV := Lib.hid hRV
  replace hKV := Lib.hid hKV
  replace hBV := Lib.hid hBV
  replace hEV := Lib.hid hEV
  go_wp2_with fail
  go_loopw [8] (fun iv wr => ∃ (k : Nat), iv = .int .i64 k ∧ 1 ≤ k ∧ k ≤ 8 ∧ Hid (Blk wr E #[I (kindTo evWords word k), I 0, I 0, I 0, I 0, I 0, I 0, I 0]) ∧ Hid (V.grownBy wr (some E))) (fun iv _ => 8 - (intOf iv).toNat)
  case atStart => exact ⟨1, rfl, by omega, by omega, hEV, Lib.hid (World.grownBy.refl _ _)⟩
  case round =>
    obtain ⟨k, rfl, hk1, hk, Hb, Hgr⟩ := hrel
    by_cases hlt : k < 8
    · have hcell : wr.cell? ⟨w.heap.size + 1, k, none⟩ = some (sv (evWords.getD k [])) := ((hKV.out.grown Hgr.out (by intro h; injection h with h; omega)).cell k).trans (evRow_get k hlt)
      have hks := kindTo_succ evWords word k
      have hc0 := Hb.out.cell 0
      have hf0 := Hb.out.frozen 0
      by_cases hst : word = evWords.getD k []
      · rw [if_pos ⟨by omega, hst⟩] at hks
        have Hset := Lib.hid (show Blk (wr.setCell ⟨E, 0, none⟩ (I k)) E #[I (kindTo evWords word (k + 1)), I 0, I 0, I 0, I 0, I 0, I 0, I 0] by rw [hks]; exact Hb.out.set 0 (I k))
        rw [← hst] at hcell
        have hbe : (word == word) = true := beq_self_eq_true _
        clear hks hst
        unfold sv at hcell
        go_wp2_with fail
        go_roundw
        case rel => exact ⟨k + 1, by go_num, by omega, by omega, Hset, Lib.hid (Hgr.out.trans (grownSet wr ⟨E, 0, none⟩ _))⟩
        case measure => simp [intOf]; omega
      · rw [if_neg (fun h => hst h.2)] at hks
        have Hb2 := Lib.hid (show Blk wr E #[I (kindTo evWords word (k + 1)), I 0, I 0, I 0, I 0, I 0, I 0, I 0] by rw [hks]; exact Hb.out)
        have hbe : (evWords.getD k [] == word) = false := beq_eq_false_iff_ne.2 (fun e => hst e.symm)
        generalize evWords.getD k [] = q at hcell hbe hst
        clear hks hst hc0 hf0
        unfold sv at hcell
        go_wp2_with fail
        go_roundw
        case rel => exact ⟨k + 1, by go_num, by omega, by omega, Hb2, Hgr⟩
        case measure => simp [intOf]; omega
    · obtain rfl : k = 8 := by omega
      have hkk : kindTo evWords word 8 ≤ 7 := kindTo_le evWords word 8
      replace HT := Lib.hid (show T = _ from HT.out)
      have hkd : kindOf evWords word = kindTo evWords word 8 := rfl
      rw [hkd] at HT
      clear hkd
      generalize kindTo evWords word 8 = kk at Hb HT hkk
      have hRr := Lib.hid (hRV.out.grown Hgr.out (by intro h; injection h with h; omega))
      have hBr := Lib.hid (hBV.out.grown Hgr.out hBV.out.size (by intro k h; injection h with h; omega))
      clear hRV hBV hKV hEV hk hlt Hgr hk1
      go_upto_region 10 with (go_at_call 25; refine (Hbf2.out wr.heap.size _ (heap_alloc_new _ _)).mono ?_; rintro e w4 ⟨rfl, D4⟩)
      have hBW4 : Below wr.heap.size wr w4 := ((Below.refl _ _).alloc (Nat.le_refl _) _).trans (D4.mono (by simp))
      have hE4 := Hb.out.kept hBW4 Hb.out.lt
      have hR4 := Lib.hid (hRr.out.kept hBW4 hRr.out.lt)
      have hB4 := Lib.hid (hBr.out.trans (hBW4.mono hBr.out.size))
      have hRlt := hR4.out.lt
      have e1 := hE4.cell 1
      have f1 := hE4.frozen 1
      have HE5 := Lib.hid (hE4.set 1 (I nd))
      clear hE4 hRr hBr Hb D4 hBW4
      go_upto_region 12 with (go_at_call 58; refine (Hn.out _).mono ?_; rintro e w5 ⟨rfl, rfl⟩)
      have hR5 := hR4.out.grown (grownSet w4 ⟨E, 1, none⟩ (I nd)) (by intro h; injection h with h; dsimp only at h; omega)
      have hB5 := hB4.out.grown (grownSet w4 ⟨E, 1, none⟩ (I nd)) hB4.out.size (by intro k h; injection h with h; dsimp only at h; omega)
      have hE5 : Blk (w4.setCell ⟨E, 1, none⟩ (I nd)) E #[I kk, I nd, I 0, I 0, I 0, I 0, I 0, I 0] := HE5.out
      generalize w4.setCell ⟨E, 1, none⟩ (I nd) = U at hR5 hB5 hE5 ⊢
      clear e1 f1 HE5 hR4 hB4 hRlt
      have c0 := hE5.cell 0
      have HR5 := Lib.hid hR5
      have HB5 := Lib.hid hB5
      have HE5 := Lib.hid hE5
      clear hR5 hB5 hE5
      by_cases hA : kk = 1 ∨ kk = 2 ∨ kk = 4
      · rcases hA with rfl | rfl | rfl
        · have HF := Lib.hid (show T = (⟨1, nd, ar, ⟨0, 0, 0, 0, 0⟩⟩, textEv ⟨1, nd, ar, ⟨0, 0, 0, 0, 0⟩⟩ == s) by rw [HT.out, if_pos (by omega)]; rfl)
          have Hevc := Lib.hid (fun X => eventC ⟨1, nd, ar, ⟨0, 0, 0, 0, 0⟩⟩ X)
          clear HT
          generalize textEv ⟨1, nd, ar, ⟨0, 0, 0, 0, 0⟩⟩ = tx at HF Hevc
          unfold eva sv at Hevc
          dsimp only at Hevc
          replace HE5 := Lib.hid (show Blk U E #[I 1, I nd, I 0, I 0, I 0, I 0, I 0, I 0] from HE5.out)
          replace c0 := HE5.out.cell 0
          have e2 := HE5.out.cell 2
          have f2 := HE5.out.frozen 2
          go_upto_region 19 with (go_at_call 58; refine (Hm.out _).mono ?_; rintro e w6 ⟨rfl, rfl⟩)
          have hRV := HR5.out.grown (grownSet U ⟨E, 2, none⟩ (I ar)) (by intro h; injection h with h; dsimp only at h; have := HR5.out.lt; omega)
          have hBV := HB5.out.grown (grownSet U ⟨E, 2, none⟩ (I ar)) HB5.out.size (by intro k h; injection h with h; dsimp only at h; omega)
          have hEV : Blk (U.setCell ⟨E, 2, none⟩ (I ar)) E #[I 1, I nd, I ar, I 0, I 0, I 0, I 0, I 0] := HE5.out.set 2 (I ar)
          generalize U.setCell ⟨E, 2, none⟩ (I ar) = V2 at hRV hBV hEV ⊢
          clear HR5 HB5 HE5 c0 e2 f2
          have hRlt := hRV.lt
          have hne : w.heap.size ≠ E := by omega
          have hEd := hEV.drew
          have hRd := hRV.drew
          have hBd := hBV.drew
          clear hEV hRV hBV
          refine wp_region_ordN 11 [(0, true), (1, true), (2, true), (3, true), (4, true), (5, true), (7, true), (6, false), (8, true), (9, true), (10, false)] (fun X => ∀ j, X.cell? ⟨E, j, none⟩ = (#[I 1, I nd, I ar, I 0, I 0, I 0, I 0, I 0] : Array Value)[j]?) (by kernel_rfl) rfl rfl (by kernel_rfl) hEd.cell ?_
          iterate 7 (first | (refine wpOrd_take ?_ (by rfl) ?_ ?_; rotate_left; (intro w hSw; (try dsimp only at hSw); go_simp; try with_reducible rfl); (try simp only [Act.put, List.setIfInBounds_toArray, List.set_cons_zero, List.set_cons_succ])) | (refine wpOrd_leave (by rfl) ?_; (try simp only [Act.put, List.setIfInBounds_toArray, List.set_cons_zero, List.set_cons_succ])))
          refine wpOrd_move (fun K hK => ?_)
          go_simp
          go_at_call 17
          refine (Hevc.out _).mono ?_
          rintro r w9 ⟨rfl, D9⟩
          have hE2 := hEd.kept D9 hEd.lt
          have hR2 := hRd.kept D9 hRd.lt
          have hB2 : Below w.heap.size w w9 := hBd.trans (D9.mono hBd.size)
          clear hEd hRd hBd D9
          refine hK.out _ _ hE2.cell ?_
          clear hK K
          (try simp only [Act.put, List.setIfInBounds_toArray, List.set_cons_zero, List.set_cons_succ])
          iterate 2 (first | (refine wpOrd_take ?_ (by rfl) ?_ ?_; rotate_left; (intro w hSw; (try dsimp only at hSw); go_simp; try with_reducible rfl); (try simp only [Act.put, List.setIfInBounds_toArray, List.set_cons_zero, List.set_cons_succ])) | (refine wpOrd_leave (by rfl) ?_; (try simp only [Act.put, List.setIfInBounds_toArray, List.set_cons_zero, List.set_cons_succ])))
          refine wpOrd_move (fun K hK => ?_)
          unfold z8 at hR2
          have r0 := hR2.cell 0; have r1 := hR2.cell 1; have r2 := hR2.cell 2; have r3 := hR2.cell 3; have r4 := hR2.cell 4; have r5 := hR2.cell 5; have r6 := hR2.cell 6; have r7 := hR2.cell 7
          have g0 := hR2.frozen 0; have g1 := hR2.frozen 1; have g2 := hR2.frozen 2; have g3 := hR2.frozen 3; have g4 := hR2.frozen 4; have g5 := hR2.frozen 5; have g6 := hR2.frozen 6; have g7 := hR2.frozen 7
          go_simp
          obtain ⟨hp1, hp2⟩ := blk_put8 hR2 (I 1) (I nd) (I ar) (I 0) (I 0) (I 0) (I 0) (I 0)
          clear r0 r1 r2 r3 r4 r5 r6 r7 g0 g1 g2 g3 g4 g5 g6 g7
          have hE3 := hE2.grown hp2 (by intro h; injection h with h; omega)
          have HB3 := Lib.hid (hB2.grown hp2 hB2.size (by intro k h; injection h with h; omega))
          have HP1 := Lib.hid hp1
          clear hp1 hp2 hR2 hB2 hE2
          refine hK.out _ _ hE3.cell ?_
          clear hK K hE3
          (try simp only [Act.put, List.setIfInBounds_toArray, List.set_cons_zero, List.set_cons_succ])
          refine wpOrd_nil ?_
          go_wp2_with fail
          refine NoPanic.normal ?_
          go_wp2_with fail
          exact evEnd Tryz.results57 HP1.out rfl HB3.out rfl (by rw [HF.out]; rfl)
        · have HF := Lib.hid (show T = (⟨2, nd, ar, ⟨0, 0, 0, 0, 0⟩⟩, textEv ⟨2, nd, ar, ⟨0, 0, 0, 0, 0⟩⟩ == s) by rw [HT.out, if_pos (by omega)]; rfl)
          have Hevc := Lib.hid (fun X => eventC ⟨2, nd, ar, ⟨0, 0, 0, 0, 0⟩⟩ X)
          clear HT
          generalize textEv ⟨2, nd, ar, ⟨0, 0, 0, 0, 0⟩⟩ = tx at HF Hevc
          unfold eva sv at Hevc
          dsimp only at Hevc
          replace HE5 := Lib.hid (show Blk U E #[I 2, I nd, I 0, I 0, I 0, I 0, I 0, I 0] from HE5.out)
          replace c0 := HE5.out.cell 0
          have e2 := HE5.out.cell 2
          have f2 := HE5.out.frozen 2
          go_upto_region 19 with (go_at_call 58; refine (Hm.out _).mono ?_; rintro e w6 ⟨rfl, rfl⟩)
          have hRV := HR5.out.grown (grownSet U ⟨E, 2, none⟩ (I ar)) (by intro h; injection h with h; dsimp only at h; have := HR5.out.lt; omega)
          have hBV := HB5.out.grown (grownSet U ⟨E, 2, none⟩ (I ar)) HB5.out.size (by intro k h; injection h with h; dsimp only at h; omega)
          have hEV : Blk (U.setCell ⟨E, 2, none⟩ (I ar)) E #[I 2, I nd, I ar, I 0, I 0, I 0, I 0, I 0] := HE5.out.set 2 (I ar)
          generalize U.setCell ⟨E, 2, none⟩ (I ar) = V2 at hRV hBV hEV ⊢
          clear HR5 HB5 HE5 c0 e2 f2
          have hRlt := hRV.lt
          have hne : w.heap.size ≠ E := by omega
          have hEd := hEV.drew
          have hRd := hRV.drew
          have hBd := hBV.drew
          clear hEV hRV hBV
          refine wp_region_ordN 11 [(0, true), (1, true), (2, true), (3, true), (4, true), (5, true), (7, true), (6, false), (8, true), (9, true), (10, false)] (fun X => ∀ j, X.cell? ⟨E, j, none⟩ = (#[I 2, I nd, I ar, I 0, I 0, I 0, I 0, I 0] : Array Value)[j]?) (by kernel_rfl) rfl rfl (by kernel_rfl) hEd.cell ?_
          iterate 7 (first | (refine wpOrd_take ?_ (by rfl) ?_ ?_; rotate_left; (intro w hSw; (try dsimp only at hSw); go_simp; try with_reducible rfl); (try simp only [Act.put, List.setIfInBounds_toArray, List.set_cons_zero, List.set_cons_succ])) | (refine wpOrd_leave (by rfl) ?_; (try simp only [Act.put, List.setIfInBounds_toArray, List.set_cons_zero, List.set_cons_succ])))
          refine wpOrd_move (fun K hK => ?_)
          go_simp
          go_at_call 17
          refine (Hevc.out _).mono ?_
          rintro r w9 ⟨rfl, D9⟩
          have hE2 := hEd.kept D9 hEd.lt
          have hR2 := hRd.kept D9 hRd.lt
          have hB2 : Below w.heap.size w w9 := hBd.trans (D9.mono hBd.size)
          clear hEd hRd hBd D9
          refine hK.out _ _ hE2.cell ?_
          clear hK K
          (try simp only [Act.put, List.setIfInBounds_toArray, List.set_cons_zero, List.set_cons_succ])
          iterate 2 (first | (refine wpOrd_take ?_ (by rfl) ?_ ?_; rotate_left; (intro w hSw; (try dsimp only at hSw); go_simp; try with_reducible rfl); (try simp only [Act.put, List.setIfInBounds_toArray, List.set_cons_zero, List.set_cons_succ])) | (refine wpOrd_leave (by rfl) ?_; (try simp only [Act.put, List.setIfInBounds_toArray, List.set_cons_zero, List.set_cons_succ])))
          refine wpOrd_move (fun K hK => ?_)
          unfold z8 at hR2
          have r0 := hR2.cell 0; have r1 := hR2.cell 1; have r2 := hR2.cell 2; have r3 := hR2.cell 3; have r4 := hR2.cell 4; have r5 := hR2.cell 5; have r6 := hR2.cell 6; have r7 := hR2.cell 7
          have g0 := hR2.frozen 0; have g1 := hR2.frozen 1; have g2 := hR2.frozen 2; have g3 := hR2.frozen 3; have g4 := hR2.frozen 4; have g5 := hR2.frozen 5; have g6 := hR2.frozen 6; have g7 := hR2.frozen 7
          go_simp
          obtain ⟨hp1, hp2⟩ := blk_put8 hR2 (I 2) (I nd) (I ar) (I 0) (I 0) (I 0) (I 0) (I 0)
          clear r0 r1 r2 r3 r4 r5 r6 r7 g0 g1 g2 g3 g4 g5 g6 g7
          have hE3 := hE2.grown hp2 (by intro h; injection h with h; omega)
          have HB3 := Lib.hid (hB2.grown hp2 hB2.size (by intro k h; injection h with h; omega))
          have HP1 := Lib.hid hp1
          clear hp1 hp2 hR2 hB2 hE2
          refine hK.out _ _ hE3.cell ?_
          clear hK K hE3
          (try simp only [Act.put, List.setIfInBounds_toArray, List.set_cons_zero, List.set_cons_succ])
          refine wpOrd_nil ?_
          go_wp2_with fail
          refine NoPanic.normal ?_
          go_wp2_with fail
          exact evEnd Tryz.results57 HP1.out rfl HB3.out rfl (by rw [HF.out]; rfl)
        · have HF := Lib.hid (show T = (⟨4, nd, ar, ⟨0, 0, 0, 0, 0⟩⟩, textEv ⟨4, nd, ar, ⟨0, 0, 0, 0, 0⟩⟩ == s) by rw [HT.out, if_pos (by omega)]; rfl)
          have Hevc := Lib.hid (fun X => eventC ⟨4, nd, ar, ⟨0, 0, 0, 0, 0⟩⟩ X)
          clear HT
          generalize textEv ⟨4, nd, ar, ⟨0, 0, 0, 0, 0⟩⟩ = tx at HF Hevc
          unfold eva sv at Hevc
          dsimp only at Hevc
          replace HE5 := Lib.hid (show Blk U E #[I 4, I nd, I 0, I 0, I 0, I 0, I 0, I 0] from HE5.out)
          replace c0 := HE5.out.cell 0
          have e2 := HE5.out.cell 2
          have f2 := HE5.out.frozen 2
          go_upto_region 19 with (go_at_call 58; refine (Hm.out _).mono ?_; rintro e w6 ⟨rfl, rfl⟩)
          have hRV := HR5.out.grown (grownSet U ⟨E, 2, none⟩ (I ar)) (by intro h; injection h with h; dsimp only at h; have := HR5.out.lt; omega)
          have hBV := HB5.out.grown (grownSet U ⟨E, 2, none⟩ (I ar)) HB5.out.size (by intro k h; injection h with h; dsimp only at h; omega)
          have hEV : Blk (U.setCell ⟨E, 2, none⟩ (I ar)) E #[I 4, I nd, I ar, I 0, I 0, I 0, I 0, I 0] := HE5.out.set 2 (I ar)
          generalize U.setCell ⟨E, 2, none⟩ (I ar) = V2 at hRV hBV hEV ⊢
          clear HR5 HB5 HE5 c0 e2 f2
          have hRlt := hRV.lt
          have hne : w.heap.size ≠ E := by omega
          have hEd := hEV.drew
          have hRd := hRV.drew
          have hBd := hBV.drew
          clear hEV hRV hBV
          refine wp_region_ordN 11 [(0, true), (1, true), (2, true), (3, true), (4, true), (5, true), (7, true), (6, false), (8, true), (9, true), (10, false)] (fun X => ∀ j, X.cell? ⟨E, j, none⟩ = (#[I 4, I nd, I ar, I 0, I 0, I 0, I 0, I 0] : Array Value)[j]?) (by kernel_rfl) rfl rfl (by kernel_rfl) hEd.cell ?_
          iterate 7 (first | (refine wpOrd_take ?_ (by rfl) ?_ ?_; rotate_left; (intro w hSw; (try dsimp only at hSw); go_simp; try with_reducible rfl); (try simp only [Act.put, List.setIfInBounds_toArray, List.set_cons_zero, List.set_cons_succ])) | (refine wpOrd_leave (by rfl) ?_; (try simp only [Act.put, List.setIfInBounds_toArray, List.set_cons_zero, List.set_cons_succ])))
          refine wpOrd_move (fun K hK => ?_)
          go_simp
          go_at_call 17
          refine (Hevc.out _).mono ?_
          rintro r w9 ⟨rfl, D9⟩
          have hE2 := hEd.kept D9 hEd.lt
          have hR2 := hRd.kept D9 hRd.lt
          have hB2 : Below w.heap.size w w9 := hBd.trans (D9.mono hBd.size)
          clear hEd hRd hBd D9
          refine hK.out _ _ hE2.cell ?_
          clear hK K
          (try simp only [Act.put, List.setIfInBounds_toArray, List.set_cons_zero, List.set_cons_succ])
          iterate 2 (first | (refine wpOrd_take ?_ (by rfl) ?_ ?_; rotate_left; (intro w hSw; (try dsimp only at hSw); go_simp; try with_reducible rfl); (try simp only [Act.put, List.setIfInBounds_toArray, List.set_cons_zero, List.set_cons_succ])) | (refine wpOrd_leave (by rfl) ?_; (try simp only [Act.put, List.setIfInBounds_toArray, List.set_cons_zero, List.set_cons_succ])))
          refine wpOrd_move (fun K hK => ?_)
          unfold z8 at hR2
          have r0 := hR2.cell 0; have r1 := hR2.cell 1; have r2 := hR2.cell 2; have r3 := hR2.cell 3; have r4 := hR2.cell 4; have r5 := hR2.cell 5; have r6 := hR2.cell 6; have r7 := hR2.cell 7
          have g0 := hR2.frozen 0; have g1 := hR2.frozen 1; have g2 := hR2.frozen 2; have g3 := hR2.frozen 3; have g4 := hR2.frozen 4; have g5 := hR2.frozen 5; have g6 := hR2.frozen 6; have g7 := hR2.frozen 7
          go_simp
          obtain ⟨hp1, hp2⟩ := blk_put8 hR2 (I 4) (I nd) (I ar) (I 0) (I 0) (I 0) (I 0) (I 0)
          clear r0 r1 r2 r3 r4 r5 r6 r7 g0 g1 g2 g3 g4 g5 g6 g7
          have hE3 := hE2.grown hp2 (by intro h; injection h with h; omega)
          have HB3 := Lib.hid (hB2.grown hp2 hB2.size (by intro k h; injection h with h; omega))
          have HP1 := Lib.hid hp1
          clear hp1 hp2 hR2 hB2 hE2
          refine hK.out _ _ hE3.cell ?_
          clear hK K hE3
          (try simp only [Act.put, List.setIfInBounds_toArray, List.set_cons_zero, List.set_cons_succ])
          refine wpOrd_nil ?_
          go_wp2_with fail
          refine NoPanic.normal ?_
          go_wp2_with fail
          exact evEnd Tryz.results57 HP1.out rfl HB3.out rfl (by rw [HF.out]; rfl)
      · by_cases h7 : kk = 7
        · subst h7
          have HF := Lib.hid (show T = (⟨7, nd, 0, ⟨0, 0, 0, 0, 0⟩⟩, textEv ⟨7, nd, 0, ⟨0, 0, 0, 0, 0⟩⟩ == s) by rw [HT.out, if_neg hA, if_pos rfl])
          have Hevc := Lib.hid (fun X => eventC ⟨7, nd, 0, ⟨0, 0, 0, 0, 0⟩⟩ X)
          clear HT
          generalize textEv ⟨7, nd, 0, ⟨0, 0, 0, 0, 0⟩⟩ = tx at HF Hevc
          unfold eva sv at Hevc
          dsimp only at Hevc
          replace HE5 := Lib.hid (show Blk U E #[I 7, I nd, I 0, I 0, I 0, I 0, I 0, I 0] from HE5.out)
          replace c0 := HE5.out.cell 0
          go_upto_region 19 with fail
          have hRV := HR5.out
          have hBV := HB5.out
          have hEV := HE5.out
          clear HR5 HB5 HE5 c0 hA
          have hRlt := hRV.lt
          have hne : w.heap.size ≠ E := by omega
          have hEd := hEV.drew
          have hRd := hRV.drew
          have hBd := hBV.drew
          clear hEV hRV hBV
          refine wp_region_ordN 11 [(0, true), (1, true), (2, true), (3, true), (4, true), (5, true), (7, true), (6, false), (8, true), (9, true), (10, false)] (fun X => ∀ j, X.cell? ⟨E, j, none⟩ = (#[I 7, I nd, I 0, I 0, I 0, I 0, I 0, I 0] : Array Value)[j]?) (by kernel_rfl) rfl rfl (by kernel_rfl) hEd.cell ?_
          iterate 7 (first | (refine wpOrd_take ?_ (by rfl) ?_ ?_; rotate_left; (intro w hSw; (try dsimp only at hSw); go_simp; try with_reducible rfl); (try simp only [Act.put, List.setIfInBounds_toArray, List.set_cons_zero, List.set_cons_succ])) | (refine wpOrd_leave (by rfl) ?_; (try simp only [Act.put, List.setIfInBounds_toArray, List.set_cons_zero, List.set_cons_succ])))
          refine wpOrd_move (fun K hK => ?_)
          go_simp
          go_at_call 17
          refine (Hevc.out _).mono ?_
          rintro r w9 ⟨rfl, D9⟩
          have hE2 := hEd.kept D9 hEd.lt
          have hR2 := hRd.kept D9 hRd.lt
          have hB2 : Below w.heap.size w w9 := hBd.trans (D9.mono hBd.size)
          clear hEd hRd hBd D9
          refine hK.out _ _ hE2.cell ?_
          clear hK K
          (try simp only [Act.put, List.setIfInBounds_toArray, List.set_cons_zero, List.set_cons_succ])
          iterate 2 (first | (refine wpOrd_take ?_ (by rfl) ?_ ?_; rotate_left; (intro w hSw; (try dsimp only at hSw); go_simp; try with_reducible rfl); (try simp only [Act.put, List.setIfInBounds_toArray, List.set_cons_zero, List.set_cons_succ])) | (refine wpOrd_leave (by rfl) ?_; (try simp only [Act.put, List.setIfInBounds_toArray, List.set_cons_zero, List.set_cons_succ])))
          refine wpOrd_move (fun K hK => ?_)
          unfold z8 at hR2
          have r0 := hR2.cell 0; have r1 := hR2.cell 1; have r2 := hR2.cell 2; have r3 := hR2.cell 3; have r4 := hR2.cell 4; have r5 := hR2.cell 5; have r6 := hR2.cell 6; have r7 := hR2.cell 7
          have g0 := hR2.frozen 0; have g1 := hR2.frozen 1; have g2 := hR2.frozen 2; have g3 := hR2.frozen 3; have g4 := hR2.frozen 4; have g5 := hR2.frozen 5; have g6 := hR2.frozen 6; have g7 := hR2.frozen 7
          go_simp
          obtain ⟨hp1, hp2⟩ := blk_put8 hR2 (I 7) (I nd) (I 0) (I 0) (I 0) (I 0) (I 0) (I 0)
          clear r0 r1 r2 r3 r4 r5 r6 r7 g0 g1 g2 g3 g4 g5 g6 g7
          have hE3 := hE2.grown hp2 (by intro h; injection h with h; omega)
          have HB3 := Lib.hid (hB2.grown hp2 hB2.size (by intro k h; injection h with h; omega))
          have HP1 := Lib.hid hp1
          clear hp1 hp2 hR2 hB2 hE2
          refine hK.out _ _ hE3.cell ?_
          clear hK K hE3
          (try simp only [Act.put, List.setIfInBounds_toArray, List.set_cons_zero, List.set_cons_succ])
          refine wpOrd_nil ?_
          go_wp2_with fail
          refine NoPanic.normal ?_
          go_wp2_with fail
          exact evEnd Tryz.results57 HP1.out rfl HB3.out rfl (by rw [HF.out]; rfl)
        · have HF := Lib.hid (HT.out.trans ((if_neg hA).trans (if_neg h7)))
          have b1 : ((kk : Int) == 1) = false := beq_eq_false_iff_ne.2 (by omega)
          have b2 : ((kk : Int) == 2) = false := beq_eq_false_iff_ne.2 (by omega)
          have b4 : ((kk : Int) == 4) = false := beq_eq_false_iff_ne.2 (by omega)
          have b7 : ((kk : Int) != 7) = true := bne_iff_ne.2 (by omega)
          have d1 : ¬ (kk : Int) = 1 := by omega
          have d2 : ¬ (kk : Int) = 2 := by omega
          have d4 : ¬ (kk : Int) = 4 := by omega
          have d7 : ¬ (kk : Int) = 7 := by omega
          clear HT hA h7
          go_upto_region 16 with (go_at_call 60; refine (Hs.out _).mono ?_; rintro e w6 ⟨⟨va, rfl, hva⟩, D6⟩; obtain ⟨sa, sc, rfl, hlm⟩ := hva.open; replace hva := Lib.hid hva; replace D6 := Lib.hid D6)
          have hRV := Lib.hid (HR5.out.kept D6.out HR5.out.lt)
          have hBV := Lib.hid (HB5.out.trans (D6.out.mono HB5.out.size))
          have hEV := Lib.hid (HE5.out.kept D6.out HE5.out.lt)
          clear HR5 HB5 HE5 c0 D6
          by_cases h5 : l.length = 5
          · obtain ⟨a, b, c, d, x, rfl⟩ : ∃ a b c d x, l = [a, b, c, d, x] := by
              match l, h5 with
              | [a, b, c, d, x], _ => exact ⟨a, b, c, d, x, rfl⟩
            clear h5
            have HF := Lib.hid (show T = (⟨kk, nd, 0, ⟨a, b, c, d, x⟩⟩, decide (0 < kk) && (textEv ⟨kk, nd, 0, ⟨a, b, c, d, x⟩⟩ == s)) from HF.out)
            by_cases hk0 : kk = 0
            · subst hk0
              replace HF := Lib.hid (show T = (⟨0, nd, 0, ⟨a, b, c, d, x⟩⟩, false) by rw [HF.out]; simp)
              replace hEV := Lib.hid (show Blk w6 E #[I 0, I nd, I 0, I 0, I 0, I 0, I 0, I 0] from hEV.out)
              clear b1 b2 b4 b7 d1 d2 d4 d7
              obtain ⟨gb, go, rfl, hcs⟩ := Flat.cells hva.out (by simp [iv])
              have x0 : w6.cell? ⟨gb, go, none⟩ = some (I a) := hcs 0 _ rfl
              have x1 : w6.cell? ⟨gb, go + 1, none⟩ = some (I b) := hcs 1 _ rfl
              have x2 : w6.cell? ⟨gb, go + 2, none⟩ = some (I c) := hcs 2 _ rfl
              have x3 : w6.cell? ⟨gb, go + 3, none⟩ = some (I d) := hcs 3 _ rfl
              have x4 : w6.cell? ⟨gb, go + 4, none⟩ = some (I x) := hcs 4 _ rfl
              have hll : List.length [a, b, c, d, x] = 5 := rfl
              simp only [hll] at *
              clear hcs hva hll
              go_upto_region 18 with fail
              refine wp_region_ordN 18 [(0, true), (1, true), (2, true), (3, true), (4, true), (5, true), (6, true), (7, true), (8, true), (9, true), (10, true), (11, true), (12, true), (13, true), (14, true), (15, true), (16, true), (17, true)] (fun X => X.cell? ⟨gb, go, none⟩ = some (I a) ∧ X.cell? ⟨gb, go + 1, none⟩ = some (I b) ∧ X.cell? ⟨gb, go + 2, none⟩ = some (I c) ∧ X.cell? ⟨gb, go + 3, none⟩ = some (I d) ∧ X.cell? ⟨gb, go + 4, none⟩ = some (I x)) (by kernel_rfl) rfl rfl (by kernel_rfl) ⟨x0, x1, x2, x3, x4⟩ ?_
              iterate 18 (refine wpOrd_take ?_ (by rfl) ?_ ?_; rotate_left; (intro w hSw; (try dsimp only at hSw); go_simp; try with_reducible rfl); (try simp only [Act.put, List.setIfInBounds_toArray, List.set_cons_zero, List.set_cons_succ]))
              refine wpOrd_nil ?_
              clear x0 x1 x2 x3 x4
              have hE7 := hEV.out.drew
              have hR7 := hRV.out.drew
              have hB7 := hBV.out.drew
              generalize w6.drew = w7 at hE7 hR7 hB7 ⊢
              clear hEV hRV hBV
              have e3 := hE7.cell 3; have e4 := hE7.cell 4; have e5 := hE7.cell 5; have e6 := hE7.cell 6; have e7 := hE7.cell 7
              have f3 := hE7.frozen 3; have f4 := hE7.frozen 4; have f5 := hE7.frozen 5; have f6 := hE7.frozen 6; have f7 := hE7.frozen 7
              have HE7 := Lib.hid hE7
              clear hE7
              go_wp2_with fail
              refine NoPanic.normal ?_
              go_upto_region 19 with fail
              have hEV : Blk (((((w7.setCell ⟨E, 3, none⟩ (I a)).setCell ⟨E, 4, none⟩ (I b)).setCell ⟨E, 5, none⟩ (I c)).setCell ⟨E, 6, none⟩ (I d)).setCell ⟨E, 7, none⟩ (I x)) E #[I 0, I nd, I 0, I a, I b, I c, I d, I x] := ((((HE7.out.set 3 (I a)).set 4 (I b)).set 5 (I c)).set 6 (I d)).set 7 (I x)
              have hgY : w7.grownBy (((((w7.setCell ⟨E, 3, none⟩ (I a)).setCell ⟨E, 4, none⟩ (I b)).setCell ⟨E, 5, none⟩ (I c)).setCell ⟨E, 6, none⟩ (I d)).setCell ⟨E, 7, none⟩ (I x)) (some E) := ((((grownSet w7 ⟨E, 3, none⟩ (I a)).trans (grownSet _ ⟨E, 4, none⟩ (I b))).trans (grownSet _ ⟨E, 5, none⟩ (I c))).trans (grownSet _ ⟨E, 6, none⟩ (I d))).trans (grownSet _ ⟨E, 7, none⟩ (I x))
              generalize ((((w7.setCell ⟨E, 3, none⟩ (I a)).setCell ⟨E, 4, none⟩ (I b)).setCell ⟨E, 5, none⟩ (I c)).setCell ⟨E, 6, none⟩ (I d)).setCell ⟨E, 7, none⟩ (I x) = V2 at hEV hgY ⊢
              have hRV := hR7.grown hgY (by intro h; injection h with h; have := hR7.lt; omega)
              have hBV := hB7.grown hgY hB7.size (by intro k h; injection h with h; omega)
              clear hgY hR7 hB7 HE7 e3 e4 e5 e6 e7 f3 f4 f5 f6 f7
              have hRlt := hRV.lt
              have hne : w.heap.size ≠ E := by omega
              have hEd := hEV.drew
              have hRd := hRV.drew
              have hBd := hBV.drew
              clear hEV hRV hBV
              refine wp_region_ordN 11 [(0, true), (1, true), (2, true), (3, true), (4, true), (5, true), (7, true), (6, false), (8, true), (9, true), (10, false)] (fun X => ∀ j, X.cell? ⟨E, j, none⟩ = (#[I 0, I nd, I 0, I a, I b, I c, I d, I x] : Array Value)[j]?) (by kernel_rfl) rfl rfl (by kernel_rfl) hEd.cell ?_
              iterate 7 (first | (refine wpOrd_take ?_ (by rfl) ?_ ?_; rotate_left; (intro w hSw; (try dsimp only at hSw); go_simp; try with_reducible rfl); (try simp only [Act.put, List.setIfInBounds_toArray, List.set_cons_zero, List.set_cons_succ])) | (refine wpOrd_leave (by rfl) ?_; (try simp only [Act.put, List.setIfInBounds_toArray, List.set_cons_zero, List.set_cons_succ])))
              refine wpOrd_move (fun K hK => ?_)
              go_simp
              generalize V2.drew = w9 at hEd hRd hBd ⊢
              have hE2 := hEd
              have hR2 := hRd
              have hB2 := hBd
              clear hEd hRd hBd
              refine hK.out _ _ hE2.cell ?_
              clear hK K
              (try simp only [Act.put, List.setIfInBounds_toArray, List.set_cons_zero, List.set_cons_succ])
              iterate 2 (first | (refine wpOrd_take ?_ (by rfl) ?_ ?_; rotate_left; (intro w hSw; (try dsimp only at hSw); go_simp; try with_reducible rfl); (try simp only [Act.put, List.setIfInBounds_toArray, List.set_cons_zero, List.set_cons_succ])) | (refine wpOrd_leave (by rfl) ?_; (try simp only [Act.put, List.setIfInBounds_toArray, List.set_cons_zero, List.set_cons_succ])))
              refine wpOrd_move (fun K hK => ?_)
              unfold z8 at hR2
              have r0 := hR2.cell 0; have r1 := hR2.cell 1; have r2 := hR2.cell 2; have r3 := hR2.cell 3; have r4 := hR2.cell 4; have r5 := hR2.cell 5; have r6 := hR2.cell 6; have r7 := hR2.cell 7
              have g0 := hR2.frozen 0; have g1 := hR2.frozen 1; have g2 := hR2.frozen 2; have g3 := hR2.frozen 3; have g4 := hR2.frozen 4; have g5 := hR2.frozen 5; have g6 := hR2.frozen 6; have g7 := hR2.frozen 7
              go_simp
              obtain ⟨hp1, hp2⟩ := blk_put8 hR2 (I 0) (I nd) (I 0) (I a) (I b) (I c) (I d) (I x)
              clear r0 r1 r2 r3 r4 r5 r6 r7 g0 g1 g2 g3 g4 g5 g6 g7
              have hE3 := hE2.grown hp2 (by intro h; injection h with h; omega)
              have HB3 := Lib.hid (hB2.grown hp2 hB2.size (by intro k h; injection h with h; omega))
              have HP1 := Lib.hid hp1
              clear hp1 hp2 hR2 hB2 hE2
              refine hK.out _ _ hE3.cell ?_
              clear hK K hE3
              (try simp only [Act.put, List.setIfInBounds_toArray, List.set_cons_zero, List.set_cons_succ])
              refine wpOrd_nil ?_
              go_wp2_with fail
              refine NoPanic.normal ?_
              go_wp2_with fail
              exact evEnd Tryz.results57 HP1.out rfl HB3.out rfl (by rw [HF.out]; rfl)
            · have hkN : 0 < kk := by omega
              have hkI : (0 : Int) < kk := by omega
              replace HF := Lib.hid (show T = (⟨kk, nd, 0, ⟨a, b, c, d, x⟩⟩, textEv ⟨kk, nd, 0, ⟨a, b, c, d, x⟩⟩ == s) by rw [HF.out, decide_eq_true hkN]; rfl)
              have Hevc := Lib.hid (fun X => eventC ⟨kk, nd, 0, ⟨a, b, c, d, x⟩⟩ X)
              generalize textEv ⟨kk, nd, 0, ⟨a, b, c, d, x⟩⟩ = tx at HF Hevc
              unfold eva sv at Hevc
              dsimp only at Hevc
              clear b1 b2 b4 b7 d1 d2 d4 d7
              obtain ⟨gb, go, rfl, hcs⟩ := Flat.cells hva.out (by simp [iv])
              have x0 : w6.cell? ⟨gb, go, none⟩ = some (I a) := hcs 0 _ rfl
              have x1 : w6.cell? ⟨gb, go + 1, none⟩ = some (I b) := hcs 1 _ rfl
              have x2 : w6.cell? ⟨gb, go + 2, none⟩ = some (I c) := hcs 2 _ rfl
              have x3 : w6.cell? ⟨gb, go + 3, none⟩ = some (I d) := hcs 3 _ rfl
              have x4 : w6.cell? ⟨gb, go + 4, none⟩ = some (I x) := hcs 4 _ rfl
              have hll : List.length [a, b, c, d, x] = 5 := rfl
              simp only [hll] at *
              clear hcs hva hll
              go_upto_region 18 with fail
              refine wp_region_ordN 18 [(0, true), (1, true), (2, true), (3, true), (4, true), (5, true), (6, true), (7, true), (8, true), (9, true), (10, true), (11, true), (12, true), (13, true), (14, true), (15, true), (16, true), (17, true)] (fun X => X.cell? ⟨gb, go, none⟩ = some (I a) ∧ X.cell? ⟨gb, go + 1, none⟩ = some (I b) ∧ X.cell? ⟨gb, go + 2, none⟩ = some (I c) ∧ X.cell? ⟨gb, go + 3, none⟩ = some (I d) ∧ X.cell? ⟨gb, go + 4, none⟩ = some (I x)) (by kernel_rfl) rfl rfl (by kernel_rfl) ⟨x0, x1, x2, x3, x4⟩ ?_
              iterate 18 (refine wpOrd_take ?_ (by rfl) ?_ ?_; rotate_left; (intro w hSw; (try dsimp only at hSw); go_simp; try with_reducible rfl); (try simp only [Act.put, List.setIfInBounds_toArray, List.set_cons_zero, List.set_cons_succ]))
              refine wpOrd_nil ?_
              clear x0 x1 x2 x3 x4
              have hE7 := hEV.out.drew
              have hR7 := hRV.out.drew
              have hB7 := hBV.out.drew
              generalize w6.drew = w7 at hE7 hR7 hB7 ⊢
              clear hEV hRV hBV
              have e3 := hE7.cell 3; have e4 := hE7.cell 4; have e5 := hE7.cell 5; have e6 := hE7.cell 6; have e7 := hE7.cell 7
              have f3 := hE7.frozen 3; have f4 := hE7.frozen 4; have f5 := hE7.frozen 5; have f6 := hE7.frozen 6; have f7 := hE7.frozen 7
              have HE7 := Lib.hid hE7
              clear hE7
              go_wp2_with fail
              refine NoPanic.normal ?_
              go_upto_region 19 with fail
              have hEV : Blk (((((w7.setCell ⟨E, 3, none⟩ (I a)).setCell ⟨E, 4, none⟩ (I b)).setCell ⟨E, 5, none⟩ (I c)).setCell ⟨E, 6, none⟩ (I d)).setCell ⟨E, 7, none⟩ (I x)) E #[I kk, I nd, I 0, I a, I b, I c, I d, I x] := ((((HE7.out.set 3 (I a)).set 4 (I b)).set 5 (I c)).set 6 (I d)).set 7 (I x)
              have hgY : w7.grownBy (((((w7.setCell ⟨E, 3, none⟩ (I a)).setCell ⟨E, 4, none⟩ (I b)).setCell ⟨E, 5, none⟩ (I c)).setCell ⟨E, 6, none⟩ (I d)).setCell ⟨E, 7, none⟩ (I x)) (some E) := ((((grownSet w7 ⟨E, 3, none⟩ (I a)).trans (grownSet _ ⟨E, 4, none⟩ (I b))).trans (grownSet _ ⟨E, 5, none⟩ (I c))).trans (grownSet _ ⟨E, 6, none⟩ (I d))).trans (grownSet _ ⟨E, 7, none⟩ (I x))
              generalize ((((w7.setCell ⟨E, 3, none⟩ (I a)).setCell ⟨E, 4, none⟩ (I b)).setCell ⟨E, 5, none⟩ (I c)).setCell ⟨E, 6, none⟩ (I d)).setCell ⟨E, 7, none⟩ (I x) = V2 at hEV hgY ⊢
              have hRV := hR7.grown hgY (by intro h; injection h with h; have := hR7.lt; omega)
              have hBV := hB7.grown hgY hB7.size (by intro k h; injection h with h; omega)
              clear hgY hR7 hB7 HE7 e3 e4 e5 e6 e7 f3 f4 f5 f6 f7
              have hRlt := hRV.lt
              have hne : w.heap.size ≠ E := by omega
              have hEd := hEV.drew
              have hRd := hRV.drew
              have hBd := hBV.drew
              clear hEV hRV hBV
              refine wp_region_ordN 11 [(0, true), (1, true), (2, true), (3, true), (4, true), (5, true), (7, true), (6, false), (8, true), (9, true), (10, false)] (fun X => ∀ j, X.cell? ⟨E, j, none⟩ = (#[I kk, I nd, I 0, I a, I b, I c, I d, I x] : Array Value)[j]?) (by kernel_rfl) rfl rfl (by kernel_rfl) hEd.cell ?_
              iterate 7 (first | (refine wpOrd_take ?_ (by rfl) ?_ ?_; rotate_left; (intro w hSw; (try dsimp only at hSw); go_simp; try with_reducible rfl); (try simp only [Act.put, List.setIfInBounds_toArray, List.set_cons_zero, List.set_cons_succ])) | (refine wpOrd_leave (by rfl) ?_; (try simp only [Act.put, List.setIfInBounds_toArray, List.set_cons_zero, List.set_cons_succ])))
              refine wpOrd_move (fun K hK => ?_)
              go_simp
              go_at_call 17
              refine (Hevc.out _).mono ?_
              rintro r w9 ⟨rfl, D9⟩
              have hE2 := hEd.kept D9 hEd.lt
              have hR2 := hRd.kept D9 hRd.lt
              have hB2 : Below w.heap.size w w9 := hBd.trans (D9.mono hBd.size)
              clear hEd hRd hBd D9
              refine hK.out _ _ hE2.cell ?_
              clear hK K
              (try simp only [Act.put, List.setIfInBounds_toArray, List.set_cons_zero, List.set_cons_succ])
              iterate 2 (first | (refine wpOrd_take ?_ (by rfl) ?_ ?_; rotate_left; (intro w hSw; (try dsimp only at hSw); go_simp; try with_reducible rfl); (try simp only [Act.put, List.setIfInBounds_toArray, List.set_cons_zero, List.set_cons_succ])) | (refine wpOrd_leave (by rfl) ?_; (try simp only [Act.put, List.setIfInBounds_toArray, List.set_cons_zero, List.set_cons_succ])))
              refine wpOrd_move (fun K hK => ?_)
              unfold z8 at hR2
              have r0 := hR2.cell 0; have r1 := hR2.cell 1; have r2 := hR2.cell 2; have r3 := hR2.cell 3; have r4 := hR2.cell 4; have r5 := hR2.cell 5; have r6 := hR2.cell 6; have r7 := hR2.cell 7
              have g0 := hR2.frozen 0; have g1 := hR2.frozen 1; have g2 := hR2.frozen 2; have g3 := hR2.frozen 3; have g4 := hR2.frozen 4; have g5 := hR2.frozen 5; have g6 := hR2.frozen 6; have g7 := hR2.frozen 7
              go_simp
              obtain ⟨hp1, hp2⟩ := blk_put8 hR2 (I kk) (I nd) (I 0) (I a) (I b) (I c) (I d) (I x)
              clear r0 r1 r2 r3 r4 r5 r6 r7 g0 g1 g2 g3 g4 g5 g6 g7
              have hE3 := hE2.grown hp2 (by intro h; injection h with h; omega)
              have HB3 := Lib.hid (hB2.grown hp2 hB2.size (by intro k h; injection h with h; omega))
              have HP1 := Lib.hid hp1
              clear hp1 hp2 hR2 hB2 hE2
              refine hK.out _ _ hE3.cell ?_
              clear hK K hE3
              (try simp only [Act.put, List.setIfInBounds_toArray, List.set_cons_zero, List.set_cons_succ])
              refine wpOrd_nil ?_
              go_wp2_with fail
              refine NoPanic.normal ?_
              go_wp2_with fail
              exact evEnd Tryz.results57 HP1.out rfl HB3.out rfl (by rw [HF.out]; rfl)
          · have h5I : ¬ (l.length : Int) = 5 := by omega
            have hb5 : ((l.length : Int) != 5) = true := bne_iff_ne.2 h5I
            replace HF := Lib.hid (show T = (⟨kk, nd, 0, ⟨0, 0, 0, 0, 0⟩⟩, false) by
              rw [HF.out]
              split
              · exact absurd rfl h5
              · rfl)
            clear h5 b1 b2 b4 b7 d1 d2 d4 d7
            have hE6 := hEV.out
            have hR6 := hRV.out
            unfold z8 at hR6
            have e0 := hE6.cell 0; have e1 := hE6.cell 1; have e2 := hE6.cell 2; have e3 := hE6.cell 3; have e4 := hE6.cell 4; have e5 := hE6.cell 5; have e6 := hE6.cell 6; have e7 := hE6.cell 7
            have r0 := hR6.cell 0; have r1 := hR6.cell 1; have r2 := hR6.cell 2; have r3 := hR6.cell 3; have r4 := hR6.cell 4; have r5 := hR6.cell 5; have r6 := hR6.cell 6; have r7 := hR6.cell 7
            have g0 := hR6.frozen 0; have g1 := hR6.frozen 1; have g2 := hR6.frozen 2; have g3 := hR6.frozen 3; have g4 := hR6.frozen 4; have g5 := hR6.frozen 5; have g6 := hR6.frozen 6; have g7 := hR6.frozen 7
            have HR6 := Lib.hid hR6
            clear hE6 hR6
            go_wp2_with fail
            obtain ⟨hp1, hp2⟩ := blk_put8 HR6.out (I kk) (I nd) (I 0) (I 0) (I 0) (I 0) (I 0) (I 0)
            exact evEnd Tryz.results57 hp1 rfl (hBV.out.grown hp2 hBV.out.size (by intro k h; injection h with h; omega)) rfl (by rw [HF.out]; rfl)

end Go.Proofs.YtljmonfobefiiaaGreatDoor

/- The reference's question. -/
namespace Go.Proofs.YtljmonfobefiiaaGreatDoor
open Go.RowKit

def refQn (s : Str) : Qn × Bool :=
  let k := kindOf quWords (s.take (cutAt [[32]] s))
  let r := (s.drop (cutAt [[32]] s)).drop 1
  let l := numbersI 46 (r.take (cutAt [[32]] r))
  let m := (r.drop (cutAt [[32]] r)).drop 1
  match l with
  | [a, b, c] => if k = 0 then (⟨0, 0, 0, 0, 0⟩, false) else (⟨a, b, c, k, numI m⟩, textQn ⟨a, b, c, k, numI m⟩ == s)
  | _ => (⟨0, 0, 0, k, 0⟩, false)
def QnRR (p : Qn × Bool) : Value := .tuple #[.agg (qva p.1), .bool p.2]
theorem qnEnd {p : Qn × Bool} {w W : World} {tmps : Array Value} {cs : Array Value} {f : Func} (ht : f.results = #[.cell 2 58, .tmp 3]) (hb : Blk W w.heap.size cs) (hl : cs.size = 5) (hB : Below w.heap.size w W)
    (h2 : tmps.getD 2 undef = .pointer (some ⟨w.heap.size, 0, none⟩)) (hR : QnRR p = .tuple #[.agg cs, tmps.getD 3 undef]) :
    bodyPost Tryz.prog f (fun e w' => e = .returned (QnRR p) ∧ Below w.heap.size w w') .ret { tmps := tmps, defers := [] } W :=
  bodyPost_ret (results_c2 ht tmps W w.heap.size cs (loadQu hb hl) h2) rfl ⟨by rw [hR], hB⟩
def z5 : Array Value := #[I 0, I 0, I 0, I 0, I 0]

set_option maxHeartbeats 8000000 in
set_option maxRecDepth 100000 in
theorem refQnC (s : Str) (w : World) (hl : s.length ≤ 1000000) : Calls Tryz.prog 59 #[sv s] w fun r w' => r = .returned (QnRR (refQn s)) ∧ Below w.heap.size w w' := by
  have HT := Lib.hid (show refQn s = _ from rfl)
  unfold refQn at HT
  obtain ⟨T, hT⟩ : ∃ T, T = refQn s := ⟨_, rfl⟩
  have HTT := Lib.hid hT
  rw [← hT]
  clear hT
  have Hbf := Lib.hid (fun g X h => beforeC s [[32]] g X h (by simp) (by omega) (by simp))
  have hwl : (s.take (cutAt [[32]] s)).length ≤ 1000000 := by simp; omega
  have hrl : (s.drop (cutAt [[32]] s)).length ≤ 1000000 := by simp; omega
  replace HT := Lib.hid (HTT.out.trans HT.out)
  dsimp only at HT
  clear HTT
  generalize s.take (cutAt [[32]] s) = word at Hbf HT hwl
  generalize s.drop (cutAt [[32]] s) = rest at Hbf HT hrl
  obtain ⟨j, hj⟩ : ∃ j, j = min 1 rest.length := ⟨_, rfl⟩
  rw [← drop_min rest, ← hj] at HT
  have hjI : min (1 : Int) (rest.length : Int) = (j : Int) := by rw [hj]; omega
  have hjl : j ≤ rest.length := by omega
  have hex1 : (⟨rest.toArray⟩ : ByteArray).extract j rest.length = ⟨(rest.drop j).toArray⟩ := ext_drop rest j
  have hr2l : (rest.drop j).length ≤ 1000000 := by simp; omega
  clear hj
  have Hbf2 := Lib.hid (fun g X h => beforeC (rest.drop j) [[32]] g X h (by simp) (by omega) (by simp))
  have hnl : ((rest.drop j).take (cutAt [[32]] (rest.drop j))).length ≤ 1000000 := by simp; omega
  have hml : ((rest.drop j).drop (cutAt [[32]] (rest.drop j))).length ≤ 1000000 := by simp; omega
  generalize (rest.drop j).take (cutAt [[32]] (rest.drop j)) = node at Hbf2 HT hnl
  generalize (rest.drop j).drop (cutAt [[32]] (rest.drop j)) = more0 at Hbf2 HT hml
  generalize rest.drop j = r2 at Hbf2 HT hr2l hex1
  obtain ⟨i, hi⟩ : ∃ i, i = min 1 more0.length := ⟨_, rfl⟩
  rw [← drop_min more0, ← hi] at HT
  have hiI : min (1 : Int) (more0.length : Int) = (i : Int) := by rw [hi]; omega
  have hil : i ≤ more0.length := by omega
  have hex2 : (⟨more0.toArray⟩ : ByteArray).extract i more0.length = ⟨(more0.drop i).toArray⟩ := ext_drop more0 i
  have hm2l : (more0.drop i).length ≤ 1000000 := by simp; omega
  clear hi
  generalize more0.drop i = m2 at hex2 HT hm2l
  have Hm := Lib.hid (fun X => numC m2 X hm2l)
  have Hs := Lib.hid (fun X => numbersC node 46 X hnl)
  generalize numI m2 = ix at Hm HT
  generalize numbersI 46 node = l at Hs HT
  unfold sv at Hbf Hbf2 Hm Hs ⊢
  go_enter Tryz.func59, Tryz.ntmps59
  go_upto_region 2 with fail
  obtain ⟨W, hW⟩ : ∃ W, W = (w.alloc (.cells #[I 0, I 0, I 0, I 0, I 0] 58)).alloc (.cells quRow 9) := ⟨_, rfl⟩
  have hR : Blk W w.heap.size z5 := by rw [hW]; exact (Blk.new w _ _).alloc _
  have hKr : Blk W (w.heap.size + 1) quRow := by rw [hW, ← World.size_alloc w (.cells #[I 0, I 0, I 0, I 0, I 0] 58)]; exact Blk.new _ _ _
  have hBW : Below w.heap.size w W := by rw [hW]; exact ((Below.refl _ _).alloc (Nat.le_refl _) _).alloc (by simp) _
  unfold quRow sv at hW
  rw [← hW]
  clear hW
  go_upto_region 4 with (go_at_call 25; refine (Hbf.out W.heap.size _ (heap_alloc_new _ _)).mono ?_; rintro e w3 ⟨rfl, D3⟩)
  have hzW : w.heap.size + 2 ≤ W.heap.size := hKr.lt
  have hzD := D3.size
  rw [World.size_alloc] at hzD
  have hBW3 : Below W.heap.size W w3 := ((Below.refl _ _).alloc (Nat.le_refl _) _).trans (D3.mono (by simp))
  have hR3 := hR.kept hBW3 hR.lt
  have hK3 := hKr.kept hBW3 hKr.lt
  have hB3 := hBW.trans (hBW3.mono hBW.size)
  clear hR hKr hBW D3 hBW3
  obtain ⟨V, hV⟩ : ∃ V, V = w3.alloc (.cells #[I 0, I 0, I 0, I 0, I 0] 58) := ⟨_, rfl⟩
  have hRV : Blk V w.heap.size z5 := by rw [hV]; exact hR3.alloc _
  have hKV : Blk V (w.heap.size + 1) quRow := by rw [hV]; exact hK3.alloc _
  have hEV : Blk V w3.heap.size z5 := by rw [hV]; exact Blk.new _ _ _
  have hBV : Below w.heap.size w V := by rw [hV]; exact hB3.alloc hB3.size _
  obtain ⟨E, hE⟩ : ∃ E, E = w3.heap.size := ⟨_, rfl⟩
  rw [← hE] at hEV ⊢
  rw [← hV]
  have hEz : w.heap.size + 2 ≤ E := by omega
  clear hV hE hR3 hK3 hB3 hzD hzW
  replace hRV := Lib.hid hRV
  replace hKV := Lib.hid hKV
  replace hBV := Lib.hid hBV
  replace hEV := Lib.hid hEV
  go_wp2_with fail
  go_loopw [8] (fun iv wr => ∃ (k : Nat), iv = .int .i64 k ∧ 1 ≤ k ∧ k ≤ 4 ∧ Hid (Blk wr E #[I 0, I 0, I 0, I (kindTo quWords word k), I 0]) ∧ Hid (V.grownBy wr (some E))) (fun iv _ => 4 - (intOf iv).toNat)
  case atStart => exact ⟨1, rfl, by omega, by omega, hEV, Lib.hid (World.grownBy.refl _ _)⟩
  case round =>
    obtain ⟨k, rfl, hk1, hk, Hb, Hgr⟩ := hrel
    by_cases hlt : k < 4
    · have hcell : wr.cell? ⟨w.heap.size + 1, k, none⟩ = some (sv (quWords.getD k [])) := ((hKV.out.grown Hgr.out (by intro h; injection h with h; omega)).cell k).trans (quRow_get k hlt)
      have hks := kindTo_succ quWords word k
      have hc0 := Hb.out.cell 3
      have hf0 := Hb.out.frozen 3
      by_cases hst : word = quWords.getD k []
      · rw [if_pos ⟨by omega, hst⟩] at hks
        have Hset := Lib.hid (show Blk (wr.setCell ⟨E, 3, none⟩ (I k)) E #[I 0, I 0, I 0, I (kindTo quWords word (k + 1)), I 0] by rw [hks]; exact Hb.out.set 3 (I k))
        rw [← hst] at hcell
        have hbe : (word == word) = true := beq_self_eq_true _
        clear hks hst
        unfold sv at hcell
        go_wp2_with fail
        go_roundw
        case rel => exact ⟨k + 1, by go_num, by omega, by omega, Hset, Lib.hid (Hgr.out.trans (grownSet wr ⟨E, 3, none⟩ _))⟩
        case measure => simp [intOf]; omega
      · rw [if_neg (fun h => hst h.2)] at hks
        have Hb2 := Lib.hid (show Blk wr E #[I 0, I 0, I 0, I (kindTo quWords word (k + 1)), I 0] by rw [hks]; exact Hb.out)
        have hbe : (quWords.getD k [] == word) = false := beq_eq_false_iff_ne.2 (fun e => hst e.symm)
        generalize quWords.getD k [] = q at hcell hbe hst
        clear hks hst hc0 hf0
        unfold sv at hcell
        go_wp2_with fail
        go_roundw
        case rel => exact ⟨k + 1, by go_num, by omega, by omega, Hb2, Hgr⟩
        case measure => simp [intOf]; omega
    · obtain rfl : k = 4 := by omega
      have hkk : kindTo quWords word 4 ≤ 3 := kindTo_le quWords word 4
      replace HT := Lib.hid (show T = _ from HT.out)
      have hkd : kindOf quWords word = kindTo quWords word 4 := rfl
      rw [hkd] at HT
      clear hkd
      generalize kindTo quWords word 4 = kk at Hb HT hkk
      have hRr := Lib.hid (hRV.out.grown Hgr.out (by intro h; injection h with h; omega))
      have hBr := Lib.hid (hBV.out.grown Hgr.out hBV.out.size (by intro k h; injection h with h; omega))
      clear hRV hBV hKV hEV hk hlt Hgr hk1
      go_upto_region 10 with (go_at_call 25; refine (Hbf2.out wr.heap.size _ (heap_alloc_new _ _)).mono ?_; rintro e w4 ⟨rfl, D4⟩)
      have hBW4 : Below wr.heap.size wr w4 := ((Below.refl _ _).alloc (Nat.le_refl _) _).trans (D4.mono (by simp))
      have hE4 := Lib.hid (Hb.out.kept hBW4 Hb.out.lt)
      have hR4 := Lib.hid (hRr.out.kept hBW4 hRr.out.lt)
      have hB4 := Lib.hid (hBr.out.trans (hBW4.mono hBr.out.size))
      clear hRr hBr Hb D4 hBW4
      go_upto_region 11 with (go_at_call 60; refine (Hs.out _).mono ?_; rintro e w6 ⟨⟨va, rfl, hva⟩, D6⟩; obtain ⟨sa, sc, rfl, hlm⟩ := hva.open; replace hva := Lib.hid hva; replace D6 := Lib.hid D6)
      have hRV := Lib.hid (hR4.out.kept D6.out hR4.out.lt)
      have hBV := Lib.hid (hB4.out.trans (D6.out.mono hB4.out.size))
      have hEV := Lib.hid (hE4.out.kept D6.out hE4.out.lt)
      have hRlt := hRV.out.lt
      have hne : w.heap.size ≠ E := by omega
      clear hR4 hB4 hE4 D6
      by_cases hbad : l.length = 3 ∧ kk ≠ 0
      · obtain ⟨h3, hk0⟩ := hbad
        obtain ⟨a, b, c, rfl⟩ : ∃ a b c, l = [a, b, c] := by
          match l, h3 with
          | [a, b, c], _ => exact ⟨a, b, c, rfl⟩
        clear h3
        have hkz : ¬ (kk : Int) = 0 := by omega
        have hkb : ((kk : Int) == 0) = false := beq_eq_false_iff_ne.2 hkz
        have HF := Lib.hid (show T = (⟨a, b, c, kk, ix⟩, textQn ⟨a, b, c, kk, ix⟩ == s) from HT.out.trans (if_neg hk0))
        have Hqc := Lib.hid (fun X => questionC ⟨a, b, c, kk, ix⟩ X)
        clear HT
        generalize textQn ⟨a, b, c, kk, ix⟩ = tx at HF Hqc
        unfold qva sv at Hqc
        dsimp only at Hqc
        obtain ⟨gb, go, rfl, hcs⟩ := Flat.cells hva.out (by simp [iv])
        have x0 : w6.cell? ⟨gb, go, none⟩ = some (I a) := hcs 0 _ rfl
        have x1 : w6.cell? ⟨gb, go + 1, none⟩ = some (I b) := hcs 1 _ rfl
        have x2 : w6.cell? ⟨gb, go + 2, none⟩ = some (I c) := hcs 2 _ rfl
        have hll : List.length [a, b, c] = 3 := rfl
        simp only [hll] at *
        clear hcs hva hll
        have e3 := hEV.out.cell 3
        go_upto_region 13 with fail
        clear e3
        refine wp_region_ordN 11 [(0, true), (1, true), (2, true), (3, true), (4, true), (5, true), (6, true), (7, true), (8, true), (9, true), (10, true)] (fun X => X.cell? ⟨gb, go, none⟩ = some (I a) ∧ X.cell? ⟨gb, go + 1, none⟩ = some (I b) ∧ X.cell? ⟨gb, go + 2, none⟩ = some (I c)) (by kernel_rfl) rfl rfl (by kernel_rfl) ⟨x0, x1, x2⟩ ?_
        iterate 11 (refine wpOrd_take ?_ (by rfl) ?_ ?_; rotate_left; (intro w hSw; (try dsimp only at hSw); go_simp; try with_reducible rfl); (try simp only [Act.put, List.setIfInBounds_toArray, List.set_cons_zero, List.set_cons_succ]))
        refine wpOrd_nil ?_
        clear x0 x1 x2
        have hE7 := hEV.out.drew
        have hR7 := hRV.out.drew
        have hB7 := hBV.out.drew
        generalize w6.drew = w7 at hE7 hR7 hB7 ⊢
        clear hEV hRV hBV
        have e0 := hE7.cell 0; have e1 := hE7.cell 1; have e2 := hE7.cell 2
        have f0 := hE7.frozen 0; have f1 := hE7.frozen 1; have f2 := hE7.frozen 2
        have HE7 := Lib.hid hE7
        clear hE7
        go_wp2_with fail
        refine NoPanic.normal ?_
        go_upto_region 14 with fail
        have hE8 : Blk (((w7.setCell ⟨E, 0, none⟩ (I a)).setCell ⟨E, 1, none⟩ (I b)).setCell ⟨E, 2, none⟩ (I c)) E #[I a, I b, I c, I kk, I 0] := ((HE7.out.set 0 (I a)).set 1 (I b)).set 2 (I c)
        have hgY : w7.grownBy (((w7.setCell ⟨E, 0, none⟩ (I a)).setCell ⟨E, 1, none⟩ (I b)).setCell ⟨E, 2, none⟩ (I c)) (some E) := ((grownSet w7 ⟨E, 0, none⟩ (I a)).trans (grownSet _ ⟨E, 1, none⟩ (I b))).trans (grownSet _ ⟨E, 2, none⟩ (I c))
        generalize ((w7.setCell ⟨E, 0, none⟩ (I a)).setCell ⟨E, 1, none⟩ (I b)).setCell ⟨E, 2, none⟩ (I c) = U at hE8 hgY ⊢
        have hR8 := hR7.grown hgY (by intro h; injection h with h; have := hR7.lt; omega)
        have hB8 := hB7.grown hgY hB7.size (by intro k h; injection h with h; omega)
        clear hgY hR7 hB7 HE7 e0 e1 e2 f0 f1 f2
        have e4 := hE8.cell 4
        have f4 := hE8.frozen 4
        have HE9 := Lib.hid (show Blk (U.setCell ⟨E, 4, none⟩ (I ix)) E #[I a, I b, I c, I kk, I ix] from hE8.set 4 (I ix))
        clear hE8
        go_upto_region 15 with (go_at_call 58; refine (Hm.out _).mono ?_; rintro e w5 ⟨rfl, rfl⟩)
        have hEd := HE9.out.drew
        have hRd := (hR8.grown (grownSet U ⟨E, 4, none⟩ (I ix)) (by intro h; injection h with h; dsimp only at h; omega)).drew
        have hBd := (hB8.grown (grownSet U ⟨E, 4, none⟩ (I ix)) hB8.size (by intro k h; injection h with h; dsimp only at h; omega)).drew
        clear HE9 hR8 hB8 e4 f4
        generalize hVV : U.setCell ⟨E, 4, none⟩ (I ix) = VV at hEd hRd hBd ⊢
        clear hVV
        refine wp_region_ordN 6 [(0, true), (1, true), (3, true), (2, false), (4, true), (5, false)] (fun X => ∀ j, X.cell? ⟨E, j, none⟩ = (#[I a, I b, I c, I kk, I ix] : Array Value)[j]?) (by kernel_rfl) rfl rfl (by kernel_rfl) hEd.cell ?_
        generalize VV.drew = w8 at hEd hRd hBd ⊢
        iterate 3 (refine wpOrd_take ?_ (by rfl) ?_ ?_; rotate_left; (intro w hSw; (try dsimp only at hSw); go_simp; try with_reducible rfl); (try simp only [Act.put, List.setIfInBounds_toArray, List.set_cons_zero, List.set_cons_succ]))
        refine wpOrd_move (fun K hK => ?_)
        go_simp
        go_at_call 18
        refine (Hqc.out _).mono ?_
        rintro r w9 ⟨rfl, D9⟩
        have hE2 := hEd.kept D9 hEd.lt
        have hR2 := hRd.kept D9 hRd.lt
        have hB2 : Below w.heap.size w w9 := hBd.trans (D9.mono hBd.size)
        clear hEd hRd hBd D9
        refine hK.out _ _ hE2.cell ?_
        clear hK K
        (try simp only [Act.put, List.setIfInBounds_toArray, List.set_cons_zero, List.set_cons_succ])
        (refine wpOrd_take ?_ (by rfl) ?_ ?_; rotate_left; (intro w hSw; (try dsimp only at hSw); go_simp; try with_reducible rfl); (try simp only [Act.put, List.setIfInBounds_toArray, List.set_cons_zero, List.set_cons_succ]))
        refine wpOrd_move (fun K hK => ?_)
        unfold z5 at hR2
        have r0 := hR2.cell 0; have r1 := hR2.cell 1; have r2 := hR2.cell 2; have r3 := hR2.cell 3; have r4 := hR2.cell 4
        have g0 := hR2.frozen 0; have g1 := hR2.frozen 1; have g2 := hR2.frozen 2; have g3 := hR2.frozen 3; have g4 := hR2.frozen 4
        go_simp
        obtain ⟨hp1, hp2⟩ := blk_put5 hR2 (I a) (I b) (I c) (I kk) (I ix)
        clear r0 r1 r2 r3 r4 g0 g1 g2 g3 g4
        have hE3 := hE2.grown hp2 (by intro h; injection h with h; omega)
        have HB3 := Lib.hid (hB2.grown hp2 hB2.size (by intro k h; injection h with h; omega))
        have HP1 := Lib.hid hp1
        clear hp1 hp2 hR2 hB2 hE2
        refine hK.out _ _ hE3.cell ?_
        clear hK K hE3
        (try simp only [Act.put, List.setIfInBounds_toArray, List.set_cons_zero, List.set_cons_succ])
        refine wpOrd_nil ?_
        go_wp2_with fail
        refine NoPanic.normal ?_
        go_wp2_with fail
        exact qnEnd Tryz.results59 HP1.out rfl HB3.out rfl (by rw [HF.out]; rfl)
      · have HF := Lib.hid (show T = (⟨0, 0, 0, kk, 0⟩, false) by
          rw [HT.out]
          split
          · have hk0 : kk = 0 := by
              by_cases h : kk = 0
              · exact h
              · exact absurd ⟨rfl, h⟩ hbad
            subst hk0
            rfl
          · rfl)
        clear HT
        have hE6 := hEV.out
        have hR6 := hRV.out
        unfold z5 at hR6
        have e0 := hE6.cell 0; have e1 := hE6.cell 1; have e2 := hE6.cell 2; have e3 := hE6.cell 3; have e4 := hE6.cell 4
        have r0 := hR6.cell 0; have r1 := hR6.cell 1; have r2 := hR6.cell 2; have r3 := hR6.cell 3; have r4 := hR6.cell 4
        have g0 := hR6.frozen 0; have g1 := hR6.frozen 1; have g2 := hR6.frozen 2; have g3 := hR6.frozen 3; have g4 := hR6.frozen 4
        have HR6 := Lib.hid hR6
        have HE6 := Lib.hid hE6
        clear hE6 hR6
        by_cases h3 : l.length = 3
        · have hk0 : kk = 0 := by
            by_cases h : kk = 0
            · exact h
            · exact absurd ⟨h3, h⟩ hbad
          subst hk0
          rw [h3] at *
          clear hbad h3
          go_wp2_with fail
          obtain ⟨hp1, hp2⟩ := blk_put5 HR6.out (I 0) (I 0) (I 0) (I 0) (I 0)
          exact qnEnd Tryz.results59 hp1 rfl (hBV.out.grown hp2 hBV.out.size (by intro k h; injection h with h; omega)) rfl (by rw [HF.out]; rfl)
        · have h3I : ¬ (l.length : Int) = 3 := by omega
          have hb3 : ((l.length : Int) != 3) = true := bne_iff_ne.2 h3I
          clear hbad
          go_wp2_with fail
          obtain ⟨hp1, hp2⟩ := blk_put5 HR6.out (I 0) (I 0) (I 0) (I kk) (I 0)
          exact qnEnd Tryz.results59 hp1 rfl (hBV.out.grown hp2 hBV.out.size (by intro k h; injection h with h; omega)) rfl (by rw [HF.out]; rfl)

end Go.Proofs.YtljmonfobefiiaaGreatDoor

/- The reference's line: what it computes; the end of its walk. -/
namespace Go.Proofs.YtljmonfobefiiaaGreatDoor
open Go.RowKit

/-- One bracket: the answer, whether it is good, what follows. -/
def refOne (q0 : Str) : Ans × Bool :=
  let one := q0.take (cutAt [[93]] q0)
  let qs := one.take (cutAt [[32, 61, 32]] one)
  let an := (one.drop (cutAt [[32, 61, 32]] one)).drop 3
  let n := numI (an.take (cutAt [[47]] an))
  let most := numI ((an.drop (cutAt [[47]] an)).drop 1)
  (⟨(refQn qs).1, n⟩, (refQn qs).2 && decide (0 ≤ n) && decide (n < most))
def refAsks : Nat → Bool → Str → List Ans → Option (Bool × Str × List Ans)
  | 0, _, _, _ => none
  | f + 1, ok, rest, out =>
    if ok = true ∧ Lib.index rest [32, 91] = 0 then
      if (rest.drop 2).drop (cutAt [[93]] (rest.drop 2)) = [] then none
      else refAsks f (refOne (rest.drop 2)).2 (((rest.drop 2).drop (cutAt [[93]] (rest.drop 2))).drop 1) (out ++ [(refOne (rest.drop 2)).1])
    else some (ok, rest, out)
def aftOk (i : Nat) (l : List Int) (k : Nat) : Bool := decide (∀ j < k, 0 ≤ l.getD j 0 ∧ l.getD j 0 < (i : Int) ∧ (0 < j → l.getD (j - 1) 0 < l.getD j 0))
def refTail (i : Nat) (ok : Bool) (rest : Str) : Bool :=
  let r1 := if Lib.index rest [32, 42] = 0 then rest.drop 2 else rest
  if Lib.index r1 [32, 97, 102, 116, 101, 114, 32] = 0 then
    (ok && aftOk i (numbersI 44 (r1.drop 7)) (numbersI 44 (r1.drop 7)).length) && (decide (0 < (numbersI 44 (r1.drop 7)).length) || (r1 == []))
  else ok && (r1 == [])
def refRest (i : Nat) (t : Str) : Option (Ev × List Ans) :=
  match refAsks (t.length + 1) (refEv (t.take (cutAt evSeps t))).2 (t.drop (cutAt evSeps t)) [] with
  | none => none
  | some (ok, rest, out) => if refTail i ok rest = true then some ((refEv (t.take (cutAt evSeps t))).1, out) else none
def refLine (i : Nat) (s : Str) : Option (Ev × List Ans) :=
  if Lib.hasPrefix s (head i) = true then refRest i (s.drop (head i).length) else none
def LineRes (w : World) (o : Option (Ev × List Ans)) (r : Ending) (w' : World) : Prop := match o with
  | none => ∃ (e : Ev) (a : Option Addr) (n c : Nat), r = .returned (.tuple #[.agg (eva e), .slice a n c, .bool false])
  | some (e, out) => ∃ (a : Option Addr) (c : Nat), r = .returned (.tuple #[.agg (eva e), .slice a out.length c, .bool true]) ∧ AnsSl w' (.slice a out.length c) out ∧ ∀ x, a = some x → w.heap.size ≤ x.block

theorem results_c4 {fn : Func} {ty : TypeId} (h : fn.results = #[.cell 4 ty, .tmp 5, .tmp 6]) (tmps : Array Value) (w : World) (g : Nat) (cs : Array Value) (hL : (loadVar ty ⟨g, 0, none⟩).run Tryz.prog w = .ok (.agg cs) w)
    (hp : tmps.getD 4 undef = .pointer (some ⟨g, 0, none⟩)) : (results fn tmps).run Tryz.prog w = .ok (.tuple #[.agg cs, tmps.getD 5 undef, tmps.getD 6 undef]) w := by
  have hx : (results fn tmps).run Tryz.prog w = ((asAddr (tmps.getD 4 undef)).run Tryz.prog w).andThen fun a w₁ => ((loadVar ty a).run Tryz.prog w₁).andThen fun v w₂ => .ok (.tuple #[v, tmps.getD 5 undef, tmps.getD 6 undef]) w₂ := by
    simp only [results, h]
    simp [Sem.run_bind, Result.andThen]
  rw [hx, hp]
  simp only [asAddr, Sem.run_pure, Result.andThen_ok, hL]
theorem lineNo {o : Option (Ev × List Ans)} {w W : World} {tmps : Array Value} (e : Ev) (ho : o = none) (hb : Blk W w.heap.size (eva e)) (hB : Below w.heap.size w W)
    (h4 : tmps.getD 4 undef = .pointer (some ⟨w.heap.size, 0, none⟩)) {a : Option Addr} {n c : Nat} (h5 : tmps.getD 5 undef = .slice a n c) (h6 : tmps.getD 6 undef = .bool false) :
    bodyPost Tryz.prog Tryz.f26 (fun r w' => LineRes w o r w' ∧ Below w.heap.size w w') .ret { tmps := tmps, defers := [] } W := by
  subst ho
  refine bodyPost_ret (results_c4 Tryz.results26 tmps W w.heap.size _ (loadEv hb rfl) h4) rfl ⟨⟨e, a, n, c, ?_⟩, hB⟩
  rw [h5, h6]
theorem lineYes {o : Option (Ev × List Ans)} {w W : World} {tmps : Array Value} (e : Ev) (out : List Ans) (ho : o = some (e, out)) (hb : Blk W w.heap.size (eva e)) (hB : Below w.heap.size w W)
    (h4 : tmps.getD 4 undef = .pointer (some ⟨w.heap.size, 0, none⟩)) {a : Option Addr} {n c : Nat} (h5 : tmps.getD 5 undef = .slice a n c) (hn : n = out.length) (hs : AnsSl W (.slice a n c) out) (hfr : ∀ x, a = some x → w.heap.size ≤ x.block) (h6 : tmps.getD 6 undef = .bool true) :
    bodyPost Tryz.prog Tryz.f26 (fun r w' => LineRes w o r w' ∧ Below w.heap.size w w') .ret { tmps := tmps, defers := [] } W := by
  subst ho hn
  refine bodyPost_ret (results_c4 Tryz.results26 tmps W w.heap.size _ (loadEv hb rfl) h4) rfl ⟨⟨a, c, ?_, hs, hfr⟩, hB⟩
  rw [h5, h6]
theorem drop_minN (s : Str) (k : Nat) : s.drop (min k s.length) = s.drop k := by
  by_cases h : k ≤ s.length
  · rw [Nat.min_eq_left h]
  · rw [Nat.min_eq_right (by omega), List.drop_length, List.drop_eq_nil_of_le (by omega)]
theorem decimalE (i : Nat) (hi : i ≤ 1000000) : (Lib.decDigits i).length ≤ 10 := decl i (by omega)

end Go.Proofs.YtljmonfobefiiaaGreatDoor

/- The reference's line: the walk. -/
namespace Go.Proofs.YtljmonfobefiiaaGreatDoor
open Go.RowKit

theorem aftOk_succ (i : Nat) (l : List Int) (k : Nat) : aftOk i l (k + 1) = (aftOk i l k && decide (0 ≤ l.getD k 0 ∧ l.getD k 0 < (i : Int) ∧ (0 < k → l.getD (k - 1) 0 < l.getD k 0))) := by
  unfold aftOk
  rw [Bool.eq_iff_iff, Bool.and_eq_true, decide_eq_true_eq, decide_eq_true_eq, decide_eq_true_eq]
  constructor
  · intro h
    exact ⟨fun j hj => h j (by omega), h k (by omega)⟩
  · rintro ⟨h1, h2⟩ j hj
    by_cases hjk : j = k
    · subst hjk; exact h2
    · exact h1 j (by omega)

set_option maxHeartbeats 16000000 in
set_option maxRecDepth 100000 in
theorem refLineC (i : Nat) (s : Str) (w : World) (hl : s.length ≤ 1000000) (hi : i ≤ 1000000) :
    Calls Tryz.prog 26 #[sv s, I i] w fun r w' => LineRes w (refLine i s) r w' ∧ Below w.heap.size w w' := by
  obtain ⟨o, ho⟩ : ∃ o, o = refLine i s := ⟨_, rfl⟩
  have HO := Lib.hid (show o = if Lib.hasPrefix s (head i) = true then refRest i (s.drop (head i).length) else none from ho)
  rw [← ho]
  clear ho
  have hdl := decimalE i hi
  have Hdec := Lib.hid (fun X => decimalC i (by omega) X)
  have hhd := Lib.hid (show head i = Lib.decDigits i ++ [58, 32] from rfl)
  generalize head i = hd at HO hhd
  have hhl : hd.length ≤ 12 := by rw [hhd.out]; simp; omega
  have hdl2 : ¬ 9223372036854775807 < (Lib.decDigits i).length + 2 := by omega
  have hRz := Lib.hid (show ∀ X, X = w.alloc (.cells #[I 0, I 0, I 0, I 0, I 0, I 0, I 0, I 0] 49) → Blk X w.heap.size z8 ∧ Below w.heap.size w X from fun X e => by subst e; exact ⟨Blk.new _ _ _, (Below.refl _ _).alloc (Nat.le_refl _) _⟩)
  generalize Lib.decDigits i = ds at Hdec hhd hdl hdl2
  unfold sv at Hdec ⊢
  go_enter Tryz.func26, Tryz.ntmps26
  go_upto_region 2 with (go_at_call 16; refine (Hdec.out _).mono ?_; rintro e w2 ⟨rfl, rfl⟩)
  rw [ba_app, ← hhd.out]
  obtain ⟨W, hW⟩ : ∃ W, W = w.alloc (.cells #[I 0, I 0, I 0, I 0, I 0, I 0, I 0, I 0] 49) := ⟨_, rfl⟩
  obtain ⟨hRW, hBW⟩ := hRz.out W hW
  rw [← hW]
  clear hW hRz Hdec hhd hdl hdl2
  have r0 := hRW.cell 0; have r1 := hRW.cell 1; have r2 := hRW.cell 2; have r3 := hRW.cell 3; have r4 := hRW.cell 4; have r5 := hRW.cell 5; have r6 := hRW.cell 6; have r7 := hRW.cell 7
  have g0 := hRW.frozen 0; have g1 := hRW.frozen 1; have g2 := hRW.frozen 2; have g3 := hRW.frozen 3; have g4 := hRW.frozen 4; have g5 := hRW.frozen 5; have g6 := hRW.frozen 6; have g7 := hRW.frozen 7
  have HRW := Lib.hid hRW
  have HBW := Lib.hid hBW
  clear hRW hBW
  by_cases hsl : s.length < hd.length
  · have HN := Lib.hid (show o = none by
      rw [HO.out, if_neg]
      intro h
      have := (List.isPrefixOf_iff_prefix.1 (show List.isPrefixOf hd s = true from h)).length_le
      omega)
    unfold z8 at *
    go_wp2_with fail
    obtain ⟨hp1, hp2⟩ := blk_put8 HRW.out (I 0) (I 0) (I 0) (I 0) (I 0) (I 0) (I 0) (I 0)
    exact lineNo evNil HN.out hp1 (HBW.out.grown hp2 HBW.out.size (by intro k h; injection h with h; omega)) rfl rfl rfl
  · have hex : (⟨s.toArray⟩ : ByteArray).extract 0 hd.length = ⟨(s.take hd.length).toArray⟩ := ext_take s hd.length
    have hle : hd.length ≤ s.length := by omega
    by_cases hpre : s.take hd.length = hd
    · have HR := Lib.hid (show o = refRest i (s.drop hd.length) by
        rw [HO.out, if_pos]
        rw [← Lib.hasPrefix_of_take]
        simp [hle, hpre])
      clear HO
      rw [hpre] at hex
      have hbe : (hd == hd) = true := beq_self_eq_true _
      have hex2 : (⟨s.toArray⟩ : ByteArray).extract hd.length s.length = ⟨(s.drop hd.length).toArray⟩ := ext_drop s hd.length
      have htl : (s.drop hd.length).length ≤ 1000000 := by simp; omega
      clear hpre
      generalize s.drop hd.length = t at HR hex2 htl
      have Hbf := Lib.hid (fun g X h => beforeC t evSeps g X h (by simp [evSeps]) (by omega) (by simp [evSeps]))
      have hxl : (t.take (cutAt evSeps t)).length ≤ 1000000 := by simp; omega
      have hyl : (t.drop (cutAt evSeps t)).length ≤ 1000000 := by simp; omega
      have HR := Lib.hid (show o = (match refAsks (t.length + 1) (refEv (t.take (cutAt evSeps t))).2 (t.drop (cutAt evSeps t)) [] with
        | none => none
        | some (ok, rest, out) => if refTail i ok rest = true then some ((refEv (t.take (cutAt evSeps t))).1, out) else none) from HR.out)
      have hyt : (t.drop (cutAt evSeps t)).length < t.length + 1 := by simp; omega
      generalize t.take (cutAt evSeps t) = x at Hbf HR hxl
      generalize t.drop (cutAt evSeps t) = y at Hbf HR hyl hyt
      have Hev := Lib.hid (fun X => refEvC x X hxl)
      unfold EvRR at Hev
      obtain ⟨ev, ok, hevok⟩ : ∃ ev ok, refEv x = (ev, ok) := ⟨_, _, rfl⟩
      rw [hevok] at Hev HR
      clear hevok
      dsimp only at HR Hev
      unfold evSeps sv at Hbf
      unfold sv at Hev
      obtain ⟨T0, hT0⟩ : ∃ T0, T0 = refAsks (t.length + 1) ok y [] := ⟨_, rfl⟩
      have HT0 := Lib.hid hT0
      rw [← hT0] at HR
      clear hT0
      clear r0 r1 r2 r3 r4 r5 r6 r7 g0 g1 g2 g3 g4 g5 g6 g7
      go_upto_region 7 with (go_at_call 25; refine (Hbf.out W.heap.size _ (heap_alloc_new _ _)).mono ?_; rintro e w3 ⟨rfl, D3⟩)
      have hBW3 : Below W.heap.size W w3 := ((Below.refl _ _).alloc (Nat.le_refl _) _).trans (D3.mono (by simp))
      have hR3 := Lib.hid (HRW.out.kept hBW3 HRW.out.lt)
      have hB3 := Lib.hid (HBW.out.trans (hBW3.mono HBW.out.size))
      clear HRW HBW D3 hBW3
      unfold eva at Hev
      go_upto_region 8 with (go_at_call 57; refine (Hev.out _).mono ?_; rintro e w4 ⟨rfl, D4⟩)
      have hR4 := hR3.out.kept D4 hR3.out.lt
      have hB4 := hB3.out.trans (D4.mono hB3.out.size)
      clear hR3 hB3 D4
      obtain ⟨X, hX⟩ : ∃ X, X = w4.alloc (.cells #[I ev.kind, I ev.node, I ev.arg, I ev.msg.node, I ev.msg.handler, I ev.msg.count, I ev.msg.index, I ev.msg.copy] 49) := ⟨_, rfl⟩
      have hRX := Lib.hid (show Blk X w.heap.size z8 by rw [hX]; exact hR4.alloc _)
      have hEX := Lib.hid (show Blk X w4.heap.size (eva ev) by rw [hX]; exact Blk.new _ _ _)
      have hBX := Lib.hid (show Below w.heap.size w X by rw [hX]; exact hB4.alloc hB4.size _)
      have hne : w.heap.size < w4.heap.size := hR4.lt
      obtain ⟨E, hE⟩ : ∃ E, E = w4.heap.size := ⟨_, rfl⟩
      rw [← hE] at hEX hne ⊢
      rw [← hX]
      clear hX hE hR4 hB4
      have HR0 := HR
      go_upto_block 0 with fail
      have hEX' : E < X.heap.size := hEX.out.lt
      go_cut [9, 11, 12] from 13 (fun v9 v11 v12 wc => ∃ (rest : Str) (ok2 : Bool) (av : Option Addr) (am ac' : Nat) (out : List Ans), v9 = .string ⟨rest.toArray⟩ ∧ v11 = .bool ok2 ∧ v12 = .slice av am ac' ∧ am = out.length ∧ rest.length ≤ 1000000 ∧ Hid (T0 = some (ok2, rest, out)) ∧ Hid (Below X.heap.size X wc) ∧ Hid (wc.ownsRow X.heap.size 78 6 (.slice av am ac') am (out.flatMap ac)))
      case first =>
        go_wp2_with fail
        go_loopw [9, 11, 12] (fun v9 v11 v12 wr => ∃ (rest : Str) (ok2 : Bool) (av : Option Addr) (am ac' : Nat) (out : List Ans) (f : Nat), v9 = .string ⟨rest.toArray⟩ ∧ v11 = .bool ok2 ∧ v12 = .slice av am ac' ∧ am = out.length ∧ rest.length < f ∧ rest.length ≤ 1000000 ∧ out.length + rest.length ≤ 2000000 ∧ Hid (T0 = refAsks f ok2 rest out) ∧ Hid (Below X.heap.size X wr) ∧ Hid (wr.ownsRow X.heap.size 78 6 (.slice av am ac') am (out.flatMap ac))) (fun v9 _ _ _ => strLen v9)
        case atStart => exact ⟨y, ok, none, 0, 0, [], t.length + 1, rfl, rfl, rfl, rfl, hyt, hyl, by simp; omega, HT0, Lib.hid (Below.refl _ _), Lib.hid (World.ownsRow_nil _ _ _ _)⟩
        case round =>
          clear HR Hbf Hev hex hex2 hbe hle HT0 hyt hyl
          obtain ⟨rest, ok2, av, am, ac', out, f, rfl, rfl, rfl, rfl, hf, hrl, hol, HT, Hb, Hrow⟩ := hrel
          obtain ⟨f, rfl⟩ : ∃ f', f = f' + 1 := ⟨f - 1, by omega⟩
          cases ok2 with
          | false =>
            have Hfin := Lib.hid (show T0 = some (false, rest, out) by rw [HT.out]; simp [refAsks])
            clear HT
            go_wp2_with fail
            go_meet
            case rel => exact ⟨rest, false, av, out.length, ac', out, rfl, rfl, rfl, rfl, hrl, Hfin, Hb, Hrow⟩
          | true =>
            have Hfd := Lib.hid (fun V => findC rest [32, 91] V (by simp) (by omega) (by simp))
            by_cases hix : Lib.index rest [32, 91] = 0
            · rw [hix] at Hfd
              have hr2 : 2 ≤ rest.length := by
                have := Lib.index_room rest [32, 91] (by rw [hix]; omega)
                rw [hix] at this
                simp at this
                omega
              have Hst := Lib.hid (show T0 = if (rest.drop 2).drop (cutAt [[93]] (rest.drop 2)) = [] then none else refAsks f (refOne (rest.drop 2)).2 (((rest.drop 2).drop (cutAt [[93]] (rest.drop 2))).drop 1) (out ++ [(refOne (rest.drop 2)).1]) by
                rw [HT.out]
                conv => lhs; unfold refAsks
                rw [if_pos ⟨rfl, hix⟩])
              clear HT hix
              have hexq : (⟨rest.toArray⟩ : ByteArray).extract 2 rest.length = ⟨(rest.drop 2).toArray⟩ := ext_drop rest 2
              have hql : (rest.drop 2).length ≤ 1000000 := by simp; omega
              have Hql := Lib.hid (show (rest.drop 2).length + 2 = rest.length by simp; omega)
              generalize rest.drop 2 = q0 at Hst hexq hql Hql
              have Hb1 := Lib.hid (fun g V h => beforeC q0 [[93]] g V h (by simp) (by omega) (by simp))
              have Hone := Lib.hid (show refOne q0 = (let one := q0.take (cutAt [[93]] q0); let qs := one.take (cutAt [[32, 61, 32]] one); let an := (one.drop (cutAt [[32, 61, 32]] one)).drop 3; let n := numI (an.take (cutAt [[47]] an)); let most := numI ((an.drop (cutAt [[47]] an)).drop 1); (⟨(refQn qs).1, n⟩, (refQn qs).2 && decide (0 ≤ n) && decide (n < most))) from rfl)
              generalize refOne q0 = one0 at Hst Hone
              have h1l : (q0.take (cutAt [[93]] q0)).length ≤ 1000000 := by simp; omega
              have hml : (q0.drop (cutAt [[93]] q0)).length ≤ q0.length := by simp
              generalize q0.take (cutAt [[93]] q0) = one at Hb1 Hone h1l
              generalize q0.drop (cutAt [[93]] q0) = more at Hb1 Hst hml
              dsimp only at Hone
              unfold sv at Hfd Hb1
              by_cases hmo : more = []
              · subst hmo
                have HN := Lib.hid (show T0 = none by rw [Hst.out, if_pos rfl])
                have Ho := Lib.hid (show o = none by rw [HR0.out, HN.out])
                clear Hst HN Hone
                go_upto_region 12 with (first
                  | (go_at_call 56; refine (Hfd.out _).mono ?_; rintro e w5 ⟨rfl, rfl⟩)
                  | (go_at_call 25; refine (Hb1.out _ _ (heap_alloc_new _ _)).mono ?_; rintro e w6 ⟨rfl, D6⟩))
                have hBW6 : Below X.heap.size X w6 := (Hb.out.alloc Hb.out.size _).trans (D6.mono (by rw [World.size_alloc]; have := Hb.out.size; omega))
                have hR6 := hRX.out.kept hBW6 hRX.out.lt
                have hE6 := hEX.out.kept hBW6 hEX.out.lt
                have HB6 := Lib.hid (hBX.out.trans (hBW6.mono hBX.out.size))
                unfold z8 at hR6
                unfold eva at hE6
                have e0 := hE6.cell 0; have e1 := hE6.cell 1; have e2 := hE6.cell 2; have e3 := hE6.cell 3; have e4 := hE6.cell 4; have e5 := hE6.cell 5; have e6 := hE6.cell 6; have e7 := hE6.cell 7
                have r0 := hR6.cell 0; have r1 := hR6.cell 1; have r2 := hR6.cell 2; have r3 := hR6.cell 3; have r4 := hR6.cell 4; have r5 := hR6.cell 5; have r6 := hR6.cell 6; have r7 := hR6.cell 7
                have g0 := hR6.frozen 0; have g1 := hR6.frozen 1; have g2 := hR6.frozen 2; have g3 := hR6.frozen 3; have g4 := hR6.frozen 4; have g5 := hR6.frozen 5; have g6 := hR6.frozen 6; have g7 := hR6.frozen 7
                have HR6 := Lib.hid hR6
                have HE6 := Lib.hid hE6
                clear hE6 hR6
                go_wp2_with fail
                obtain ⟨hp1, hp2⟩ := blk_put8 HR6.out (I ev.kind) (I ev.node) (I ev.arg) (I ev.msg.node) (I ev.msg.handler) (I ev.msg.count) (I ev.msg.index) (I ev.msg.copy)
                exact lineNo ev Ho.out hp1 (HB6.out.grown hp2 HB6.out.size (by intro k h; injection h with h; omega)) rfl rfl rfl
              · obtain ⟨c, rest', rfl⟩ : ∃ c r, more = c :: r := by
                  cases more with
                  | nil => exact absurd rfl hmo
                  | cons c r => exact ⟨c, r, rfl⟩
                replace Hst := Lib.hid (show T0 = refAsks f one0.2 rest' (out ++ [one0.1]) by rw [Hst.out, if_neg (by simp)]; rfl)
                have hexm : (⟨(c :: rest').toArray⟩ : ByteArray).extract 1 (rest'.length + 1) = ⟨rest'.toArray⟩ := ext_drop (c :: rest') 1
                have hr'l : rest'.length + 1 ≤ q0.length := by simpa using hml
                have Hr'l := Lib.hid hr'l
                clear hmo hml hr'l
                have Hb2 := Lib.hid (fun g V h => beforeC one [[32, 61, 32]] g V h (by simp) (by omega) (by simp))
                have hqsl : (one.take (cutAt [[32, 61, 32]] one)).length ≤ 1000000 := by simp; omega
                have ha0l : (one.drop (cutAt [[32, 61, 32]] one)).length ≤ 1000000 := by simp; omega
                generalize one.take (cutAt [[32, 61, 32]] one) = qs at Hb2 Hone hqsl
                generalize one.drop (cutAt [[32, 61, 32]] one) = an0 at Hb2 Hone ha0l
                obtain ⟨j, hj⟩ : ∃ j, j = min 3 an0.length := ⟨_, rfl⟩
                rw [← drop_minN an0 3, ← hj] at Hone
                have hjI : min (3 : Int) (an0.length : Int) = (j : Int) := by rw [hj]; omega
                have hjl : j ≤ an0.length := by omega
                have hexa : (⟨an0.toArray⟩ : ByteArray).extract j an0.length = ⟨(an0.drop j).toArray⟩ := ext_drop an0 j
                have hanl : (an0.drop j).length ≤ 1000000 := by simp; omega
                clear hj
                generalize an0.drop j = an at Hone hexa hanl
                have Hb3 := Lib.hid (fun g V h => beforeC an [[47]] g V h (by simp) (by omega) (by simp))
                have hnsl : (an.take (cutAt [[47]] an)).length ≤ 1000000 := by simp; omega
                have har0l : (an.drop (cutAt [[47]] an)).length ≤ 1000000 := by simp; omega
                generalize an.take (cutAt [[47]] an) = ns at Hb3 Hone hnsl
                generalize an.drop (cutAt [[47]] an) = ar0 at Hb3 Hone har0l
                obtain ⟨i1, hi1⟩ : ∃ i1, i1 = min 1 ar0.length := ⟨_, rfl⟩
                rw [← drop_minN ar0 1, ← hi1] at Hone
                have hi1I : min (1 : Int) (ar0.length : Int) = (i1 : Int) := by rw [hi1]; omega
                have hi1l : i1 ≤ ar0.length := by omega
                have hexr : (⟨ar0.toArray⟩ : ByteArray).extract i1 ar0.length = ⟨(ar0.drop i1).toArray⟩ := ext_drop ar0 i1
                have harl : (ar0.drop i1).length ≤ 1000000 := by simp; omega
                clear hi1
                generalize ar0.drop i1 = ar at Hone hexr harl
                have Hn1 := Lib.hid (fun V => numC ns V hnsl)
                have Hn2 := Lib.hid (fun V => numC ar V harl)
                generalize numI ns = N at Hn1 Hone
                generalize numI ar = most at Hn2 Hone
                have Hq := Lib.hid (fun V => refQnC qs V hqsl)
                unfold QnRR at Hq
                obtain ⟨q, okq, hqq⟩ : ∃ q okq, refQn qs = (q, okq) := ⟨_, _, rfl⟩
                rw [hqq] at Hq Hone
                clear hqq
                obtain ⟨qn0, qh0, qc0, qk0, qi0⟩ := q
                unfold qva at Hq
                dsimp only at Hq Hone
                unfold sv at Hb2 Hb3 Hn1 Hn2 Hq
                go_upto_region 11 with (first
                  | (go_at_call 56; refine (Hfd.out _).mono ?_; rintro e w5 ⟨rfl, rfl⟩)
                  | (go_at_call 25; refine (Hb1.out _ _ (heap_alloc_new _ _)).mono ?_; rintro e w6 ⟨rfl, D6⟩))
                have hBW6 : Below X.heap.size X w6 := (Hb.out.alloc Hb.out.size _).trans (D6.mono (by rw [World.size_alloc]; have := Hb.out.size; omega))
                have hRow6 := Lib.hid (owns_below (Hrow.out.alloc _) D6)
                have HB6 := Lib.hid hBW6
                clear hBW6 D6 Hrow Hb
                go_upto_region 15 with (go_at_call 25; refine (Hb2.out _ _ (heap_alloc_new _ _)).mono ?_; rintro e w7 ⟨rfl, D7⟩)
                have hRow7 := Lib.hid (owns_below (hRow6.out.alloc _) D7)
                have HB7 := Lib.hid ((HB6.out.alloc HB6.out.size _).trans (D7.mono (by rw [World.size_alloc]; have := HB6.out.size; omega)))
                clear D7 hRow6 HB6
                go_upto_region 16 with (go_at_call 25; refine (Hb3.out _ _ (heap_alloc_new _ _)).mono ?_; rintro e w8 ⟨rfl, D8⟩)
                have hRow8 := Lib.hid (owns_below (hRow7.out.alloc _) D8)
                have HB8 := Lib.hid ((HB7.out.alloc HB7.out.size _).trans (D8.mono (by rw [World.size_alloc]; have := HB7.out.size; omega)))
                clear D8 hRow7 HB7
                have hQB : X.heap.size ≤ w8.heap.size := HB8.out.size
                have hqn := Lib.hid (show ∀ V, V = w8.alloc (.cells #[I 0, I 0, I 0, I 0, I 0, I N] 78) → Blk V w8.heap.size #[I 0, I 0, I 0, I 0, I 0, I N] ∧ Below X.heap.size X V ∧ V.ownsRow X.heap.size 78 6 (.slice av out.length ac') out.length (out.flatMap ac) ∧ (∀ g, (Value.slice av out.length ac').ownBlock = some g → g < w8.heap.size) from fun V e => by subst e; exact ⟨Blk.new _ _ _, HB8.out.alloc HB8.out.size _, hRow8.out.alloc _, fun g h => (hRow8.out.lt g h).2⟩)
                go_upto_region 17 with (go_at_call 58; refine (Hn1.out _).mono ?_; rintro e w9 ⟨rfl, rfl⟩)
                obtain ⟨V9, hV9⟩ : ∃ V, V = w8.alloc (.cells #[I 0, I 0, I 0, I 0, I 0, I N] 78) := ⟨_, rfl⟩
                obtain ⟨hQ9, hB9, hRow9, hltQ⟩ := hqn.out V9 hV9
                rw [← hV9]
                clear hV9 hqn hRow8 HB8
                have hltQ := Lib.hid hltQ
                generalize w8.heap.size = Q at hQ9 hQB hltQ ⊢
                have HQ9 := Lib.hid hQ9
                have HB9 := Lib.hid hB9
                have HRow9 := Lib.hid hRow9
                clear hQ9 hB9 hRow9
                go_upto_region 18 with (go_at_call 59; refine (Hq.out _).mono ?_; rintro e w10 ⟨rfl, D10⟩; have hq10 := HQ9.out.kept D10 HQ9.out.lt; have q0c := hq10.cell 0; have q1c := hq10.cell 1; have q2c := hq10.cell 2; have q3c := hq10.cell 3; have q4c := hq10.cell 4; have q0f := hq10.frozen 0; have q1f := hq10.frozen 1; have q2f := hq10.frozen 2; have q3f := hq10.frozen 3; have q4f := hq10.frozen 4; have HQ10 := Lib.hid hq10; clear hq10)
                have hQ11 : Blk (((((w10.setCell ⟨Q, 0, none⟩ (I qn0)).setCell ⟨Q, 1, none⟩ (I qh0)).setCell ⟨Q, 2, none⟩ (I qc0)).setCell ⟨Q, 3, none⟩ (I qk0)).setCell ⟨Q, 4, none⟩ (I qi0)) Q #[I qn0, I qh0, I qc0, I qk0, I qi0, I N] := ((((HQ10.out.set 0 (I qn0)).set 1 (I qh0)).set 2 (I qc0)).set 3 (I qk0)).set 4 (I qi0)
                have hgQ : w10.grownBy (((((w10.setCell ⟨Q, 0, none⟩ (I qn0)).setCell ⟨Q, 1, none⟩ (I qh0)).setCell ⟨Q, 2, none⟩ (I qc0)).setCell ⟨Q, 3, none⟩ (I qk0)).setCell ⟨Q, 4, none⟩ (I qi0)) (some Q) := ((((grownSet w10 ⟨Q, 0, none⟩ (I qn0)).trans (grownSet _ ⟨Q, 1, none⟩ (I qh0))).trans (grownSet _ ⟨Q, 2, none⟩ (I qc0))).trans (grownSet _ ⟨Q, 3, none⟩ (I qk0))).trans (grownSet _ ⟨Q, 4, none⟩ (I qi0))
                generalize ((((w10.setCell ⟨Q, 0, none⟩ (I qn0)).setCell ⟨Q, 1, none⟩ (I qh0)).setCell ⟨Q, 2, none⟩ (I qc0)).setCell ⟨Q, 3, none⟩ (I qk0)).setCell ⟨Q, 4, none⟩ (I qi0) = V at hQ11 hgQ ⊢
                have hB10 := HB9.out.trans (D10.mono HB9.out.size)
                have HBF := Lib.hid (hB10.grown hgQ hB10.size (by intro k h; injection h with h; omega))
                have hQ9lt := HQ9.out.lt
                have hRowF := Lib.hid (show V.ownsRow X.heap.size 78 6 (.slice av out.length ac') out.length (out.flatMap ac) from (owns_below HRow9.out D10).kept hgQ (by
                  cases hv : (Value.slice av out.length ac').ownBlock with
                  | none => exact .inl rfl
                  | some g => exact .inr (fun e => by have := hltQ.out g hv; have := Option.some.inj e; omega)))
                have hBF' := HBF.out.size
                have hQB' := hQ11.lt
                have a0 := hQ11.cell 0; have a1 := hQ11.cell 1; have a2 := hQ11.cell 2; have a3 := hQ11.cell 3; have a4 := hQ11.cell 4; have a5 := hQ11.cell 5
                clear hgQ hB10 HB9 HRow9 HQ9 D10 HQ10 q0c q1c q2c q3c q4c q0f q1f q2f q3f q4f hltQ hQ11
                have Hst2 := Lib.hid (show T0 = refAsks f (okq && decide (0 ≤ N) && decide (N < most)) rest' (out ++ [⟨⟨qn0, qh0, qc0, qk0, qi0⟩, N⟩]) by rw [Hst.out, Hone.out])
                clear Hst Hone
                by_cases hg : okq = true ∧ 0 ≤ N ∧ N < most
                · obtain ⟨rfl, hN0, hNm⟩ := hg
                  have HS := Lib.hid (show T0 = refAsks f true rest' (out ++ [⟨⟨qn0, qh0, qc0, qk0, qi0⟩, N⟩]) by rw [Hst2.out]; simp [hN0, hNm])
                  clear Hst2
                  go_upto_region 20 with (go_at_call 58; refine (Hn2.out _).mono ?_; rintro e w11 ⟨rfl, rfl⟩)
                  go_wp2_with (at_builtin; go_must (refine wpList_appB rfl _ _ 30 rfl 78 _ 6 48 Tryz.underlying30 info_Answer rfl (by omega) (by omega) X.heap.size (.slice av out.length ac') out.length (out.flatMap ac) rfl (hRowF.out.alloc _) V.heap.size 1 1 #[I qn0, I qh0, I qc0, I qk0, I qi0, I N] 78 rfl (heap_alloc_new _ _) rfl rfl (by omega) (by omega) (by rw [World.size_alloc]; omega) ?_); intro g5 cap5 w5 hg1 hg2 hg3 ho5 hgr5 hB5)
                  go_roundw
                  case rel => exact ⟨rest', true, _, _, cap5, out ++ [⟨⟨qn0, qh0, qc0, qk0, qi0⟩, N⟩], f, rfl, rfl, rfl, by simp, by have := Hr'l.out; have := Hql.out; omega, by have := Hr'l.out; omega, by have := Hr'l.out; have := Hql.out; simp; omega, HS, Lib.hid ((HBF.out.alloc HBF.out.size _).trans hB5), Lib.hid (by simpa [List.flatMap_append, ac, iv, Ans.ints] using ho5)⟩
                  case measure => have := Hr'l.out; have := Hql.out; show rest'.length < rest.length; omega
                · have HS := Lib.hid (show T0 = refAsks f false rest' (out ++ [⟨⟨qn0, qh0, qc0, qk0, qi0⟩, N⟩]) by
                    rw [Hst2.out]
                    have : (okq && decide (0 ≤ N) && decide (N < most)) = false := by
                      rw [Bool.eq_false_iff]
                      intro h
                      simp only [Bool.and_eq_true, decide_eq_true_eq] at h
                      exact hg ⟨h.1.1, h.1.2, h.2⟩
                    rw [this])
                  clear Hst2
                  cases okq with
                  | false =>
                    clear hg
                    go_upto_region 20 with (go_at_call 58; refine (Hn2.out _).mono ?_; rintro e w11 ⟨rfl, rfl⟩)
                    go_wp2_with (at_builtin; go_must (refine wpList_appB rfl _ _ 30 rfl 78 _ 6 48 Tryz.underlying30 info_Answer rfl (by omega) (by omega) X.heap.size (.slice av out.length ac') out.length (out.flatMap ac) rfl (hRowF.out.alloc _) V.heap.size 1 1 #[I qn0, I qh0, I qc0, I qk0, I qi0, I N] 78 rfl (heap_alloc_new _ _) rfl rfl (by omega) (by omega) (by rw [World.size_alloc]; omega) ?_); intro g5 cap5 w5 hg1 hg2 hg3 ho5 hgr5 hB5)
                    go_roundw
                    case rel => exact ⟨rest', false, _, _, cap5, out ++ [⟨⟨qn0, qh0, qc0, qk0, qi0⟩, N⟩], f, rfl, by first | rfl | exact congrArg Value.bool (decide_eq_false (by omega)), rfl, by simp, by have := Hr'l.out; have := Hql.out; omega, by have := Hr'l.out; omega, by have := Hr'l.out; have := Hql.out; simp; omega, HS, Lib.hid ((HBF.out.alloc HBF.out.size _).trans hB5), Lib.hid (by simpa [List.flatMap_append, ac, iv, Ans.ints] using ho5)⟩
                    case measure => have := Hr'l.out; have := Hql.out; show rest'.length < rest.length; omega
                  | true =>
                    by_cases hN0 : 0 ≤ N
                    · have hNm : ¬ N < most := fun h => hg ⟨rfl, hN0, h⟩
                      clear hg
                      go_upto_region 20 with (go_at_call 58; refine (Hn2.out _).mono ?_; rintro e w11 ⟨rfl, rfl⟩)
                      go_wp2_with (at_builtin; go_must (refine wpList_appB rfl _ _ 30 rfl 78 _ 6 48 Tryz.underlying30 info_Answer rfl (by omega) (by omega) X.heap.size (.slice av out.length ac') out.length (out.flatMap ac) rfl (hRowF.out.alloc _) V.heap.size 1 1 #[I qn0, I qh0, I qc0, I qk0, I qi0, I N] 78 rfl (heap_alloc_new _ _) rfl rfl (by omega) (by omega) (by rw [World.size_alloc]; omega) ?_); intro g5 cap5 w5 hg1 hg2 hg3 ho5 hgr5 hB5)
                      go_roundw
                      case rel => exact ⟨rest', false, _, _, cap5, out ++ [⟨⟨qn0, qh0, qc0, qk0, qi0⟩, N⟩], f, rfl, by first | rfl | exact congrArg Value.bool (decide_eq_false (by omega)), rfl, by simp, by have := Hr'l.out; have := Hql.out; omega, by have := Hr'l.out; omega, by have := Hr'l.out; have := Hql.out; simp; omega, HS, Lib.hid ((HBF.out.alloc HBF.out.size _).trans hB5), Lib.hid (by simpa [List.flatMap_append, ac, iv, Ans.ints] using ho5)⟩
                      case measure => have := Hr'l.out; have := Hql.out; show rest'.length < rest.length; omega
                    · clear hg
                      go_upto_region 20 with (go_at_call 58; refine (Hn2.out _).mono ?_; rintro e w11 ⟨rfl, rfl⟩)
                      go_wp2_with (at_builtin; go_must (refine wpList_appB rfl _ _ 30 rfl 78 _ 6 48 Tryz.underlying30 info_Answer rfl (by omega) (by omega) X.heap.size (.slice av out.length ac') out.length (out.flatMap ac) rfl (hRowF.out.alloc _) V.heap.size 1 1 #[I qn0, I qh0, I qc0, I qk0, I qi0, I N] 78 rfl (heap_alloc_new _ _) rfl rfl (by omega) (by omega) (by rw [World.size_alloc]; omega) ?_); intro g5 cap5 w5 hg1 hg2 hg3 ho5 hgr5 hB5)
                      go_roundw
                      case rel => exact ⟨rest', false, _, _, cap5, out ++ [⟨⟨qn0, qh0, qc0, qk0, qi0⟩, N⟩], f, rfl, by first | rfl | exact congrArg Value.bool (decide_eq_false (by omega)), rfl, by simp, by have := Hr'l.out; have := Hql.out; omega, by have := Hr'l.out; omega, by have := Hr'l.out; have := Hql.out; simp; omega, HS, Lib.hid ((HBF.out.alloc HBF.out.size _).trans hB5), Lib.hid (by simpa [List.flatMap_append, ac, iv, Ans.ints] using ho5)⟩
                      case measure => have := Hr'l.out; have := Hql.out; show rest'.length < rest.length; omega
            · have hb : (Lib.index rest [32, 91] == 0) = false := beq_eq_false_iff_ne.2 hix
              have Hfin := Lib.hid (show T0 = some (true, rest, out) by rw [HT.out]; simp [refAsks, hix])
              clear HT
              generalize Lib.index rest [32, 91] = ix at Hfd hb hix
              unfold sv at Hfd
              go_wp2_with (go_at_call 56; refine (Hfd.out _).mono ?_; rintro e w5 ⟨rfl, rfl⟩)
              go_meet
              case rel => exact ⟨rest, true, av, out.length, ac', out, rfl, rfl, rfl, rfl, hrl, Hfin, Hb, Hrow⟩
      case rest =>
        obtain ⟨rest, ok2, av, am, ac', out, rfl, rfl, rfl, rfl, hrl, HT, Hb, Hrow⟩ := hcut
        have HO2 := Lib.hid (show o = if refTail i ok2 rest = true then some (ev, out) else none by rw [HR0.out, HT.out])
        clear HR HR0 HT HT0 Hbf Hev hex hex2 hbe hle hyt hyl hxl htl
        have hBc := Hb.out
        have HRc := Lib.hid (hRX.out.kept hBc hRX.out.lt)
        have HEc := Lib.hid (hEX.out.kept hBc hEX.out.lt)
        have HBc := Lib.hid (hBX.out.trans (hBc.mono hBX.out.size))
        have HSc := Hrow
        have hRXl := Lib.hid hRX.out.lt
        clear hRX hEX hBX hBc Hb Hrow
        have Hfd := Lib.hid (fun V => findC rest [32, 42] V (by simp) (by omega) (by simp))
        obtain ⟨r1, hr1⟩ : ∃ r1, r1 = if Lib.index rest [32, 42] = 0 then rest.drop 2 else rest := ⟨_, rfl⟩
        have hr1l : r1.length ≤ 1000000 := by rw [hr1]; split <;> first | omega | (simp; omega)
        have HO3 := Lib.hid (show o = if (if Lib.index r1 [32, 97, 102, 116, 101, 114, 32] = 0 then
            (ok2 && aftOk i (numbersI 44 (r1.drop 7)) (numbersI 44 (r1.drop 7)).length) && (decide (0 < (numbersI 44 (r1.drop 7)).length) || (r1 == []))
          else ok2 && (r1 == [])) = true then some (ev, out) else none by rw [HO2.out, hr1]; rfl)
        have Hr1 := Lib.hid hr1
        clear hr1 HO2
        unfold sv at Hfd
        go_upto_if 120 with (go_at_call 56; refine (Hfd.out _).mono ?_; rintro e w5 ⟨rfl, rfl⟩)
        go_cut [9] from 13 (fun v9 wd => v9 = .string ⟨r1.toArray⟩ ∧ wc = wd)
        case first =>
          by_cases hix : Lib.index rest [32, 42] = 0
          · have hr2 : 2 ≤ rest.length := by
              have := Lib.index_room rest [32, 42] (by rw [hix]; omega)
              rw [hix] at this
              simp at this
              omega
            have H1 := Lib.hid (show r1 = rest.drop 2 by rw [Hr1.out, if_pos hix])
            have hexq : (⟨rest.toArray⟩ : ByteArray).extract 2 rest.length = ⟨(rest.drop 2).toArray⟩ := ext_drop rest 2
            rw [hix]
            clear hix
            go_wp2_with fail
            go_meet
            exact ⟨by rw [H1.out], rfl⟩
          · have hb : (Lib.index rest [32, 42] == 0) = false := beq_eq_false_iff_ne.2 hix
            have H1 := Lib.hid (show r1 = rest by rw [Hr1.out, if_neg hix])
            generalize Lib.index rest [32, 42] = ix at hb hix ⊢
            go_wp2_with fail
            go_meet
            exact ⟨by rw [H1.out], rfl⟩
        case rest =>
          obtain ⟨rfl, rfl⟩ := hcut
          clear Hfd Hr1 hrl
          have Hfa := Lib.hid (fun V => findC r1 [32, 97, 102, 116, 101, 114, 32] V (by simp) (by omega) (by simp))
          unfold sv at Hfa
          go_upto_if 125 with (go_at_call 56; refine (Hfa.out _).mono ?_; rintro e w5 ⟨rfl, rfl⟩)
          go_cut [9, 11] from 13 (fun v9 v11 wd => ∃ (r2 : Str) (ok3 : Bool), v9 = .string ⟨r2.toArray⟩ ∧ v11 = .bool ok3 ∧ Hid (o = if (ok3 && (r2 == [])) = true then some (ev, out) else none) ∧ Hid (Below wc.heap.size wc wd))
          case first =>
            by_cases hix : Lib.index r1 [32, 97, 102, 116, 101, 114, 32] = 0
            · have hr7 : 7 ≤ r1.length := by
                have := Lib.index_room r1 [32, 97, 102, 116, 101, 114, 32] (by rw [hix]; omega)
                rw [hix] at this
                simp at this
                omega
              rw [hix]
              have HO4 := Lib.hid (show o = if ((ok2 && aftOk i (numbersI 44 (r1.drop 7)) (numbersI 44 (r1.drop 7)).length) && (decide (0 < (numbersI 44 (r1.drop 7)).length) || (r1 == []))) = true then some (ev, out) else none by rw [HO3.out, if_pos hix])
              clear HO3 hix
              have hexq : (⟨r1.toArray⟩ : ByteArray).extract 7 r1.length = ⟨(r1.drop 7).toArray⟩ := ext_drop r1 7
              have hql : (r1.drop 7).length ≤ 1000000 := by simp; omega
              have hr1e : (r1 == []) = false := by cases r1 with | nil => simp at hr7 | cons a b => rfl
              rw [hr1e] at HO4
              generalize r1.drop 7 = q7 at HO4 hexq hql
              have Hs := Lib.hid (fun V => numbersC q7 44 V hql)
              generalize numbersI 44 q7 = l at HO4 Hs
              unfold sv at Hs
              go_upto_region 25 with (go_at_call 60; refine (Hs.out _).mono ?_; rintro e w6 ⟨⟨va, rfl, hva⟩, D6⟩; obtain ⟨sa, sc, rfl, hlm⟩ := hva.open; replace hva := Lib.hid hva; replace D6 := Lib.hid D6)
              go_wp2_with fail
              go_loopw [11, 22] (fun v11 v22 wr => ∃ (k : Nat) (b : Bool), v11 = .bool b ∧ v22 = .int .i64 k ∧ k ≤ l.length ∧ Hid (b = (ok2 && aftOk i l k)) ∧ Hid (Below w6.heap.size w6 wr)) (fun _ v22 _ => l.length - (intOf v22).toNat)
              case atStart => exact ⟨0, ok2, rfl, rfl, by omega, Lib.hid (by simp [aftOk]), Lib.hid (Below.refl _ _)⟩
              case round =>
                obtain ⟨k, b, rfl, rfl, hk, Hbk, Hbr⟩ := hrel
                by_cases hlt : k < l.length
                · have hva2 := hva.out.kept Hbr.out (Nat.le_refl _)
                  obtain ⟨gb, go, rfl, hcs⟩ := Flat.cells hva2 (by simp [iv]; omega)
                  have hxk := hcs k (I l[k]) (by simp [iv, hlt])
                  have hgd : l.getD k 0 = l[k] := by simp [List.getD, hlt]
                  have hsucc := Lib.hid (aftOk_succ i l k)
                  rw [hgd] at hsucc
                  have HB2 := Lib.hid (show (ok2 && aftOk i l (k + 1)) = (b && decide (0 ≤ l[k] ∧ l[k] < (i : Int) ∧ (0 < k → l.getD (k - 1) 0 < l[k]))) by rw [hsucc.out, Hbk.out, Bool.and_assoc])
                  clear hsucc hgd
                  by_cases h0 : 0 ≤ l[k]
                  · by_cases h1 : l[k] < (i : Int)
                    · by_cases hk0 : k = 0
                      · subst hk0
                        have HB3 := Lib.hid (show b = (ok2 && aftOk i l (0 + 1)) by rw [HB2.out]; simp [h0, h1])
                        clear hcs HB2 hva2
                        generalize l[0] = x at hxk h0 h1
                        rw [Nat.add_zero] at hxk
                        have hd0 : decide (x < 0) = false := decide_eq_false (by omega)
                        have hd1 : decide ((i : Int) ≤ x) = false := decide_eq_false (by omega)
                        go_upto_region 28 with fail
                        refine wp_region_ordN 30 [(0, true), (1, true), (2, true), (3, true), (4, true), (5, true), (6, true), (7, true), (8, true), (9, true), (10, true), (11, true), (12, true), (13, true), (14, true), (15, true), (16, true), (17, true), (18, true), (19, true), (20, true), (21, true), (22, true), (23, true), (24, true), (25, true), (26, true), (27, true), (28, true), (29, true)] (fun X => X.cell? ⟨gb, go, none⟩ = some (I x)) (by kernel_rfl) rfl rfl (by kernel_rfl) hxk ?_
                        iterate 30 (first | (refine wpOrd_take ?_ (by rfl) ?_ ?_; rotate_left; (intro w hSw; (try dsimp only at hSw); go_simp; try with_reducible rfl); (try simp only [Act.put, List.setIfInBounds_toArray, List.set_cons_zero, List.set_cons_succ])) | (refine wpOrd_leave (by rfl) ?_; (try simp only [Act.put, List.setIfInBounds_toArray, List.set_cons_zero, List.set_cons_succ])))
                        refine wpOrd_nil ?_
                        go_wp2_with fail
                        refine NoPanic.normal ?_
                        go_wp2_with fail
                        go_roundw
                        case rel => exact ⟨0 + 1, b, rfl, by go_num, by omega, HB3, Lib.hid Hbr.out.drew⟩
                        case measure => simp [intOf]; omega
                      · obtain ⟨kp, hkp⟩ : ∃ kp, k = kp + 1 := ⟨k - 1, by omega⟩
                        have hkpN : kp < l.length := by omega
                        have hxp := hcs kp (I l[kp]) (by simp [iv, hkpN])
                        have hgp : l.getD (k - 1) 0 = l[kp] := by
                          rw [show k - 1 = kp by omega]
                          simp [List.getD, hkpN]
                        rw [hgp] at HB2
                        have hmx : max (kp : Int) 0 = kp := by omega
                        have hwr : IntKind.i64.wrap (kp : Int) = kp := by rw [IntKind.wrap_i64]; omega
                        have hkpI : (kp : Int) < l.length := by omega
                        have hks : (k : Int) - 1 = kp := by omega
                        have hk0I : (0 : Int) < k := by omega
                        have hk0N : 0 < k := by omega
                        clear hcs hgp hva2 hk0 hkp
                        by_cases h2 : l[kp] < l[k]
                        · have HB3 := Lib.hid (show b = (ok2 && aftOk i l (k + 1)) by rw [HB2.out]; simp [h0, h1, h2, hk0N])
                          have h2' : ¬ l[k] ≤ l[kp] := by omega
                          clear HB2
                          generalize l[k] = x at hxk h0 h1 h2 h2'
                          generalize l[kp] = xp at hxp h2 h2'
                          have hd0 : decide (x < 0) = false := decide_eq_false (by omega)
                          have hd1 : decide ((i : Int) ≤ x) = false := decide_eq_false (by omega)
                          have hd2 : decide (x ≤ xp) = false := decide_eq_false (by omega)
                          go_upto_region 28 with fail
                          refine wp_region_ordN 30 [(0, true), (1, true), (2, true), (3, true), (4, true), (5, true), (6, true), (7, true), (8, true), (9, true), (10, true), (11, true), (12, true), (13, true), (14, true), (15, true), (16, true), (17, true), (18, true), (19, true), (20, true), (21, true), (22, true), (23, true), (24, true), (25, true), (26, true), (27, true), (28, true), (29, true)] (fun X => X.cell? ⟨gb, go + k, none⟩ = some (I x) ∧ X.cell? ⟨gb, go + kp, none⟩ = some (I xp)) (by kernel_rfl) rfl rfl (by kernel_rfl) ⟨hxk, hxp⟩ ?_
                          iterate 30 (first | (refine wpOrd_take ?_ (by rfl) ?_ ?_; rotate_left; (intro w hSw; (try dsimp only at hSw); go_simp; try with_reducible rfl); (try simp only [Act.put, List.setIfInBounds_toArray, List.set_cons_zero, List.set_cons_succ])) | (refine wpOrd_leave (by rfl) ?_; (try simp only [Act.put, List.setIfInBounds_toArray, List.set_cons_zero, List.set_cons_succ])))
                          refine wpOrd_nil ?_
                          go_wp2_with fail
                          refine NoPanic.normal ?_
                          go_wp2_with fail
                          go_roundw
                          case rel => exact ⟨k + 1, b, rfl, by go_num, by omega, HB3, Lib.hid Hbr.out.drew⟩
                          case measure => simp [intOf]; omega
                        · have HB3 := Lib.hid (show false = (ok2 && aftOk i l (k + 1)) by rw [HB2.out]; simp [h2, hk0N])
                          have h2' : l[k] ≤ l[kp] := by omega
                          clear HB2
                          generalize l[k] = x at hxk h0 h1 h2 h2'
                          generalize l[kp] = xp at hxp h2 h2'
                          have hd0 : decide (x < 0) = false := decide_eq_false (by omega)
                          have hd1 : decide ((i : Int) ≤ x) = false := decide_eq_false (by omega)
                          have hd2 : decide (x ≤ xp) = true := decide_eq_true (by omega)
                          go_upto_region 28 with fail
                          refine wp_region_ordN 30 [(0, true), (1, true), (2, true), (3, true), (4, true), (5, true), (6, true), (7, true), (8, true), (9, true), (10, true), (11, true), (12, true), (13, true), (14, true), (15, true), (16, true), (17, true), (18, true), (19, true), (20, true), (21, true), (22, true), (23, true), (24, true), (25, true), (26, true), (27, true), (28, true), (29, true)] (fun X => X.cell? ⟨gb, go + k, none⟩ = some (I x) ∧ X.cell? ⟨gb, go + kp, none⟩ = some (I xp)) (by kernel_rfl) rfl rfl (by kernel_rfl) ⟨hxk, hxp⟩ ?_
                          iterate 30 (first | (refine wpOrd_take ?_ (by rfl) ?_ ?_; rotate_left; (intro w hSw; (try dsimp only at hSw); go_simp; try with_reducible rfl); (try simp only [Act.put, List.setIfInBounds_toArray, List.set_cons_zero, List.set_cons_succ])) | (refine wpOrd_leave (by rfl) ?_; (try simp only [Act.put, List.setIfInBounds_toArray, List.set_cons_zero, List.set_cons_succ])))
                          refine wpOrd_nil ?_
                          go_wp2_with fail
                          refine NoPanic.normal ?_
                          go_wp2_with fail
                          go_roundw
                          case rel => exact ⟨k + 1, false, rfl, by go_num, by omega, HB3, Lib.hid Hbr.out.drew⟩
                          case measure => simp [intOf]; omega
                    · have HB3 := Lib.hid (show false = (ok2 && aftOk i l (k + 1)) by rw [HB2.out]; simp [h1])
                      have h1' : (i : Int) ≤ l[k] := by omega
                      clear HB2 hcs hva2
                      generalize l[k] = x at hxk h0 h1 h1'
                      have hd0 : decide (x < 0) = false := decide_eq_false (by omega)
                      have hd1 : decide ((i : Int) ≤ x) = true := decide_eq_true (by omega)
                      go_upto_region 28 with fail
                      refine wp_region_ordN 30 [(0, true), (1, true), (2, true), (3, true), (4, true), (5, true), (6, true), (7, true), (8, true), (9, true), (10, true), (11, true), (12, true), (13, true), (14, true), (15, true), (16, true), (17, true), (18, true), (19, true), (20, true), (21, true), (22, true), (23, true), (24, true), (25, true), (26, true), (27, true), (28, true), (29, true)] (fun X => X.cell? ⟨gb, go + k, none⟩ = some (I x)) (by kernel_rfl) rfl rfl (by kernel_rfl) hxk ?_
                      iterate 30 (first | (refine wpOrd_take ?_ (by rfl) ?_ ?_; rotate_left; (intro w hSw; (try dsimp only at hSw); go_simp; try with_reducible rfl); (try simp only [Act.put, List.setIfInBounds_toArray, List.set_cons_zero, List.set_cons_succ])) | (refine wpOrd_leave (by rfl) ?_; (try simp only [Act.put, List.setIfInBounds_toArray, List.set_cons_zero, List.set_cons_succ])))
                      refine wpOrd_nil ?_
                      go_wp2_with fail
                      refine NoPanic.normal ?_
                      go_wp2_with fail
                      go_roundw
                      case rel => exact ⟨k + 1, false, rfl, by go_num, by omega, HB3, Lib.hid Hbr.out.drew⟩
                      case measure => simp [intOf]; omega
                  · have HB3 := Lib.hid (show false = (ok2 && aftOk i l (k + 1)) by rw [HB2.out]; simp [h0])
                    have h0' : l[k] < 0 := by omega
                    clear HB2 hcs hva2
                    generalize l[k] = x at hxk h0 h0'
                    have hd0 : decide (x < 0) = true := decide_eq_true (by omega)
                    go_upto_region 28 with fail
                    refine wp_region_ordN 30 [(0, true), (1, true), (2, true), (3, true), (4, true), (5, true), (6, true), (7, true), (8, true), (9, true), (10, true), (11, true), (12, true), (13, true), (14, true), (15, true), (16, true), (17, true), (18, true), (19, true), (20, true), (21, true), (22, true), (23, true), (24, true), (25, true), (26, true), (27, true), (28, true), (29, true)] (fun X => X.cell? ⟨gb, go + k, none⟩ = some (I x)) (by kernel_rfl) rfl rfl (by kernel_rfl) hxk ?_
                    iterate 30 (first | (refine wpOrd_take ?_ (by rfl) ?_ ?_; rotate_left; (intro w hSw; (try dsimp only at hSw); go_simp; try with_reducible rfl); (try simp only [Act.put, List.setIfInBounds_toArray, List.set_cons_zero, List.set_cons_succ])) | (refine wpOrd_leave (by rfl) ?_; (try simp only [Act.put, List.setIfInBounds_toArray, List.set_cons_zero, List.set_cons_succ])))
                    refine wpOrd_nil ?_
                    go_wp2_with fail
                    refine NoPanic.normal ?_
                    go_wp2_with fail
                    go_roundw
                    case rel => exact ⟨k + 1, false, rfl, by go_num, by omega, HB3, Lib.hid Hbr.out.drew⟩
                    case measure => simp [intOf]; omega
                · obtain rfl : k = l.length := by omega
                  have HB5 := Lib.hid (D6.out.trans (Hbr.out.mono D6.out.size))
                  by_cases hll : l.length = 0
                  · have HO5 := Lib.hid (show o = if (b && (r1 == [])) = true then some (ev, out) else none by rw [HO4.out, hr1e, hll]; simp)
                    rw [hll] at *
                    clear hll HO4
                    go_wp2_with fail
                    go_meet
                    exact ⟨r1, b, rfl, rfl, HO5, HB5⟩
                  · have hll2 : 0 < l.length := by omega
                    have HO5 := Lib.hid (show o = if (b && (([] : Str) == [])) = true then some (ev, out) else none by rw [HO4.out, Hbk.out]; simp [hll2])
                    clear HO4
                    go_wp2_with fail
                    go_meet
                    exact ⟨[], b, rfl, rfl, HO5, HB5⟩
            · have hb : (Lib.index r1 [32, 97, 102, 116, 101, 114, 32] == 0) = false := beq_eq_false_iff_ne.2 hix
              have HO4 := Lib.hid (show o = if (ok2 && (r1 == [])) = true then some (ev, out) else none by rw [HO3.out, if_neg hix])
              clear HO3
              generalize Lib.index r1 [32, 97, 102, 116, 101, 114, 32] = ix at hb hix ⊢
              go_wp2_with fail
              go_meet
              exact ⟨r1, ok2, rfl, rfl, HO4, Lib.hid (Below.refl _ _)⟩
          case rest =>
            obtain ⟨r2, ok3, rfl, rfl, HO4, Hbd⟩ := hcut
            clear HO3 Hfa
            rename_i wd
            have hR6 := HRc.out.kept Hbd.out HRc.out.lt
            have hE6 := HEc.out.kept Hbd.out HEc.out.lt
            have HB6 := Lib.hid (HBc.out.trans (Hbd.out.mono HBc.out.size))
            have HS6 := Lib.hid (owns_below HSc.out Hbd.out)
            clear HRc HEc HBc HSc Hbd
            unfold z8 at hR6
            unfold eva at hE6
            have e0 := hE6.cell 0; have e1 := hE6.cell 1; have e2 := hE6.cell 2; have e3 := hE6.cell 3; have e4 := hE6.cell 4; have e5 := hE6.cell 5; have e6 := hE6.cell 6; have e7 := hE6.cell 7
            have c0 := hR6.cell 0; have c1 := hR6.cell 1; have c2 := hR6.cell 2; have c3 := hR6.cell 3; have c4 := hR6.cell 4; have c5 := hR6.cell 5; have c6 := hR6.cell 6; have c7 := hR6.cell 7
            have g0 := hR6.frozen 0; have g1 := hR6.frozen 1; have g2 := hR6.frozen 2; have g3 := hR6.frozen 3; have g4 := hR6.frozen 4; have g5 := hR6.frozen 5; have g6 := hR6.frozen 6; have g7 := hR6.frozen 7
            have HR6 := Lib.hid hR6
            have HE6 := Lib.hid hE6
            clear hE6 hR6
            cases ok3 with
            | false =>
              have HN := Lib.hid (show o = none by rw [HO4.out]; simp)
              clear HO4
              go_wp2_with fail
              obtain ⟨hp1, hp2⟩ := blk_put8 HR6.out (I ev.kind) (I ev.node) (I ev.arg) (I ev.msg.node) (I ev.msg.handler) (I ev.msg.count) (I ev.msg.index) (I ev.msg.copy)
              exact lineNo ev HN.out hp1 (HB6.out.grown hp2 HB6.out.size (by intro k h; injection h with h; omega)) rfl rfl rfl
            | true =>
              by_cases hr2 : r2 = []
              · subst hr2
                have HY := Lib.hid (show o = some (ev, out) by rw [HO4.out]; rfl)
                clear HO4
                go_wp2_with fail
                obtain ⟨hp1, hp2⟩ := blk_put8 HR6.out (I ev.kind) (I ev.node) (I ev.arg) (I ev.msg.node) (I ev.msg.handler) (I ev.msg.count) (I ev.msg.index) (I ev.msg.copy)
                exact lineYes ev out HY.out hp1 (HB6.out.grown hp2 HB6.out.size (by intro k h; injection h with h; omega)) rfl rfl rfl (Flat.of_owns (owns_step HS6.out hp2 hRXl.out)) (fun x hx => by have h1 := (HS6.out.lt x.block (by rw [hx]; rfl)).1; have h2 := hRXl.out; omega) rfl
              · have hr2b : (r2 == []) = false := beq_eq_false_iff_ne.2 hr2
                have hr2e : List.isEmpty r2 = false := by cases r2 with | nil => exact absurd rfl hr2 | cons a b => rfl
                have HN := Lib.hid (show o = none by rw [HO4.out, hr2b]; simp)
                clear HO4 hr2
                go_wp2_with fail
                obtain ⟨hp1, hp2⟩ := blk_put8 HR6.out (I ev.kind) (I ev.node) (I ev.arg) (I ev.msg.node) (I ev.msg.handler) (I ev.msg.count) (I ev.msg.index) (I ev.msg.copy)
                exact lineNo ev HN.out hp1 (HB6.out.grown hp2 HB6.out.size (by intro k h; injection h with h; omega)) rfl rfl rfl
    · have HN := Lib.hid (show o = none by
        rw [HO.out, if_neg]
        rw [← Lib.hasPrefix_of_take]
        simp [hle, hpre])
      have hbe : (s.take hd.length == hd) = false := beq_eq_false_iff_ne.2 hpre
      have hbn : (s.take hd.length != hd) = true := bne_iff_ne.2 hpre
      generalize s.take hd.length = q at hex hbe hbn
      clear hpre HO
      unfold z8 at *
      go_wp2_with fail
      obtain ⟨hp1, hp2⟩ := blk_put8 HRW.out (I 0) (I 0) (I 0) (I 0) (I 0) (I 0) (I 0) (I 0)
      exact lineNo evNil HN.out hp1 (HBW.out.grown hp2 HBW.out.size (by intro k h; injection h with h; omega)) rfl rfl rfl

end Go.Proofs.YtljmonfobefiiaaGreatDoor
