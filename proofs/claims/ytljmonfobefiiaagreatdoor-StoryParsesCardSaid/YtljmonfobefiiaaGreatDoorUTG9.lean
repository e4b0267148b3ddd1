import Derived.Test.YtljmonfobefiiaaGreatDoorUBase
import Derived.Laws.AppendOwnNone
import Derived.Test.YtljmonfobefiiaaGreatDoorUSH
import Derived.Lib.LaidTab
/- append of a row that may be nil; parts of rows; rows of answers and events. -/
namespace Go.Proofs.YtljmonfobefiiaaGreatDoor
open Go.RowKit

def ac (a : Ans) : List Value := iv a.ints
def ec (e : Ev) : List Value := iv e.ints
theorem ac_length (a : Ans) : (ac a).length = 6 := rfl
theorem info_Answer : (Tryz.prog.info? 78).map (fun i => (i.zero, i.size, i.bytes)) = some (some (.agg #[.int .i64 0, .int .i64 0, .int .i64 0, .int .i64 0, .int .i64 0, .int .i64 0]), 6, 48) := by kernel_rfl
theorem info_Event : (Tryz.prog.info? 49).map (fun i => (i.zero, i.size, i.bytes)) = some (some (.agg #[.int .i64 0, .int .i64 0, .int .i64 0, .int .i64 0, .int .i64 0, .int .i64 0, .int .i64 0, .int .i64 0]), 8, 64) := by kernel_rfl
theorem iv_one (l : List Int) : ∀ u ∈ iv l, u.oneCell' = true := by
  intro u hu
  simp [iv] at hu
  obtain ⟨x, _, rfl⟩ := hu
  rfl
theorem flat_one {α : Type} {f : α → List Value} (hf : ∀ x, ∀ u ∈ f x, u.oneCell' = true) (l : List α) : ∀ u ∈ l.flatMap f, u.oneCell' = true := by
  intro u hu
  obtain ⟨x, _, hx⟩ := List.mem_flatMap.1 hu
  exact hf x u hx
theorem ans_one (l : List Ans) : ∀ u ∈ l.flatMap ac, u.oneCell' = true := flat_one (fun _ => iv_one _) l
theorem evs_one (l : List Ev) : ∀ u ∈ l.flatMap ec, u.oneCell' = true := flat_one (fun _ => iv_one _) l
theorem flat_none {w : World} {k n c m : Nat} {xs : List Value} (h : Flat w k (.slice none m c) n xs) : xs = [] := by
  cases xs with
  | nil => rfl
  | cons x xs =>
    obtain ⟨b, o, e, _⟩ := h.cells (by simp)
    cases e
theorem run_append_none (w : World) (base : Nat) (t ty e : TypeId) (i : TypeInfo) (size : Nat) (ht : Tryz.prog.underlying t = some (.slice e)) (hi : Tryz.prog.info? e = some i)
    (v : Value) (n c : Nat) (xs : List Value) (hown : w.ownsRow base e size v n xs) :
    (Builtin.append_ #[t, t] ty #[v, .slice none 0 c]).run Tryz.prog w = .ok v w := by
  rcases hown.2 with ⟨rfl, rfl⟩ | ⟨g, cap, cur, rfl, _, _, hnc, _⟩
  · simp [Builtin.append_, run_underlying ht, sizeOf, typeInfo, hi, Builtin.lenOf, Builtin.firstCells]
  · simp [Builtin.append_, run_underlying ht, sizeOf, typeInfo, hi, Builtin.lenOf, Builtin.firstCells, hnc, storeCells]
theorem wpList_app0 {P : Program} {w : World} {ops : Array Oper} {rest : List Oper} {o : Oper} {a : Act} {Q : Exit → Act → World → Prop} (hgd : o.guard = none) (s x : Operand) (t : TypeId)
    (ho : o.op = .call { callee := .builtin .append, args := #[s, x], argTypes := #[t, t] })
    (e : TypeId) (z : Value) (k bytes : Nat) (ht : P.underlying t = some (.slice e)) (hinfo : (P.info? e).map (fun i => (i.zero, i.size, i.bytes)) = some (some z, k, bytes)) (hzs : z.cells.size = k) (hk : 0 < k) (hby : bytes ≤ 1000)
    (B : Nat) (v : Value) (n : Nat) (xs : List Value) (hs : a.eval s = v) (hown : w.ownsRow B e k v n xs)
    (ad : Addr) (m c : Nat) (news : List Value) (hx : a.eval x = .slice (some ad) m c) (hfl : Flat w k (.slice (some ad) m c) m news) (h1 : ∀ u ∈ news, u.oneCell' = true)
    (hbd : n + m ≤ 100000000) (hbase : B ≤ w.heap.size)
    (h : ∀ u w', w'.ownsRow B e k u (n + m) (xs ++ news) → w.grownBy w' v.ownBlock → Below B w w' → wpList P ops Q rest (a.put o.dst u) w') : wpList P ops Q (o :: rest) a w := by
  obtain ⟨i0, hi, hz0, hz1, hz2⟩ := info_parts hinfo
  refine wpList_append_own_at w hgd s x t ho B e i0 z k bytes ht hi hz0 hz1 hz2 hzs hk v n xs hs hown ad m c news hx hfl.1 (fun j u hu => ?_) h1 (by unfold maxLen; omega)
    (Nat.le_trans (Nat.mul_le_mul hbd hby) (by omega)) hbase ?_
  · obtain ⟨b, of, e1, hnews⟩ := hfl.cells (by have := (List.getElem?_eq_some_iff.1 hu).1; omega)
    simp at e1
    subst e1
    have hadd : (⟨b, of, none⟩ : Addr).add j = ⟨b, of + j, none⟩ := by unfold Addr.add; split <;> simp_all
    rw [hadd]
    exact hnews j u hu
  · intro u w' h2 h3 _ _
    exact h u w' h2 h3 ((Below.refl B w).grown h3 hbase (fun k' hk' => (hown.lt k' hk').1))
/-- append(row, more...), the source nil or not. -/
theorem wpList_appG {w : World} {ops : Array Oper} {rest : List Oper} {o : Oper} {a : Act} {Q : Exit → Act → World → Prop} (hgd : o.guard = none) (s x : Operand) (t : TypeId)
    (ho : o.op = .call { callee := .builtin .append, args := #[s, x], argTypes := #[t, t] })
    (e : TypeId) (z : Value) (k bytes : Nat) (ht : Tryz.prog.underlying t = some (.slice e)) (hinfo : (Tryz.prog.info? e).map (fun i => (i.zero, i.size, i.bytes)) = some (some z, k, bytes)) (hzs : z.cells.size = k) (hk : 0 < k) (hby : bytes ≤ 1000)
    (B : Nat) (v : Value) (n : Nat) (xs : List Value) (hs : a.eval s = v) (hown : w.ownsRow B e k v n xs)
    (y : Value) (hx : a.eval x = y) (m : Nat) (news : List Value) (hfl : Flat w k y m news) (h1 : ∀ u ∈ news, u.oneCell' = true)
    (hbd : n + m ≤ 100000000) (hbase : B ≤ w.heap.size)
    (h : ∀ u w', w'.ownsRow B e k u (n + m) (xs ++ news) → w.grownBy w' v.ownBlock → Below B w w' → wpList Tryz.prog ops Q rest (a.put o.dst u) w') : wpList Tryz.prog ops Q (o :: rest) a w := by
  obtain ⟨ka, ca, rfl, _⟩ := hfl.open
  cases ka with
  | some ad => exact wpList_app0 hgd s x t ho e z k bytes ht hinfo hzs hk hby B v n xs hs hown ad m ca news hx hfl h1 hbd hbase h
  | none =>
    have e' := flat_none hfl
    have e0 : m = 0 := by
      have := hfl.1
      rw [e'] at this
      rcases Nat.mul_eq_zero.1 this.symm with h | h
      · exact h
      · omega
    subst e0 e'
    obtain ⟨i0, hi, _⟩ := info_parts hinfo
    refine wpList_plain hgd fun K hK => ?_
    have hrun := run_append_none w B t o.type e i0 k ht hi v n ca xs hown
    unfold Oper.wp
    simp [execOp, ho, resolve, invoke, builtin, hs, hx, hrun, Result.andThen]
    exact hK _ _ (h v w (by simpa using hown) (World.grownBy.refl _ _) (Below.refl _ _))

/-! ### Parts of rows -/
theorem Flat.take {w : World} {k : Nat} {a : Option Addr} {n c m c' : Nat} {xs : List Value} (h : Flat w k (.slice a m c) n xs) {j : Nat} (hj : j ≤ n) : Flat w k (.slice a j c') j (xs.take (j * k)) := by
  obtain ⟨hl, hm, a', c2, hv, hr⟩ := h
  simp at hv
  obtain ⟨rfl, rfl, rfl⟩ := hv
  refine ⟨?_, by omega, _, _, rfl, fun i u hu => hr i u ?_⟩
  · rw [List.length_take, hl]
    have := Nat.mul_le_mul_right k hj
    omega
  · rw [List.getElem?_take] at hu
    split at hu
    · exact hu
    · cases hu
theorem Flat.drop {w : World} {k : Nat} {b o n c m c' : Nat} {xs : List Value} (h : Flat w k (.slice (some ⟨b, o, none⟩) m c) n xs) {j : Nat} (hj : j ≤ n) : Flat w k (.slice (some ⟨b, o + j * k, none⟩) (n - j) c') (n - j) (xs.drop (j * k)) := by
  obtain ⟨hl, hm, a', c2, hv, hr⟩ := h
  simp at hv
  obtain ⟨rfl, rfl, rfl⟩ := hv
  refine Flat.of_cells ?_ (by omega) fun i u hu => ?_
  · rw [List.length_drop, hl, Nat.sub_mul]
  · rw [List.getElem?_drop] at hu
    obtain ⟨b', o', e, hc⟩ := hr _ u hu
    simp at e
    obtain ⟨rfl, rfl⟩ := e
    rw [Nat.add_assoc]
    exact hc
theorem flatMap_take {α : Type} {f : α → List Value} {k : Nat} (hf : ∀ x, (f x).length = k) : ∀ (l : List α) (j : Nat), (l.flatMap f).take (j * k) = (l.take j).flatMap f
  | [], j => by simp
  | a :: l, 0 => by simp
  | a :: l, j + 1 => by
    rw [List.flatMap_cons, List.take_succ_cons, List.flatMap_cons, List.take_append, hf, Nat.add_mul, Nat.one_mul, Nat.add_sub_cancel, flatMap_take hf l j, List.take_of_length_le (by rw [hf]; omega)]
theorem flatMap_drop {α : Type} {f : α → List Value} {k : Nat} (hf : ∀ x, (f x).length = k) : ∀ (l : List α) (j : Nat), (l.flatMap f).drop (j * k) = (l.drop j).flatMap f
  | [], j => by simp
  | a :: l, 0 => by simp
  | a :: l, j + 1 => by
    rw [List.flatMap_cons, List.drop_succ_cons, List.drop_append, hf, Nat.add_mul, Nat.one_mul, Nat.add_sub_cancel, flatMap_drop hf l j, List.drop_of_length_le (by rw [hf]; omega), List.nil_append]
theorem owns_cap {w : World} {B n k m c : Nat} {e : TypeId} {a : Option Addr} {xs : List Value} (h : w.ownsRow B e k (.slice a m c) n xs) : m = n ∧ n ≤ c := by
  rcases h.2 with ⟨hv, hn⟩ | ⟨g, cap, cur, hv, _, _, hnc, _⟩
  · simp at hv
    omega
  · simp at hv
    omega
end Go.Proofs.YtljmonfobefiiaaGreatDoor

/- What the package variables hold; the library's functions on strings, in lists of bytes. -/
namespace Go.Proofs.YtljmonfobefiiaaGreatDoor
open Go.RowKit

def sv (s : Str) : Value := .string ⟨s.toArray⟩
theorem ba_ext {a b : ByteArray} (h : a.data.toList = b.data.toList) : a = b := by
  cases a; cases b
  simp only [ByteArray.mk.injEq]
  exact Array.toList_inj.1 h
theorem ext_take (s : Str) (k : Nat) : (⟨s.toArray⟩ : ByteArray).extract 0 k = ⟨(s.take k).toArray⟩ := ba_ext (Lib.extract_from_zero ⟨s.toArray⟩ k)
theorem ext_drop (s : Str) (k : Nat) : (⟨s.toArray⟩ : ByteArray).extract k s.length = ⟨(s.drop k).toArray⟩ := ba_ext (Lib.extract_to_end ⟨s.toArray⟩ k)

structure Gl (w : World) : Prop where
  mx : ∃ m, w.cell? ⟨0, 0, none⟩ = some (.int .i64 m)
  tab : Lib.TabIs Tryz.prog w "internal/strconv.uint64pow10" .u64 Lib.pow10Tab
  syn : ∃ te pe, w.cell? ⟨4, 0, none⟩ = some (.iface te pe)
  rng : ∃ te pe, w.cell? ⟨5, 0, none⟩ = some (.iface te pe)
  low : 8 ≤ w.heap.size

theorem glob_pow10 : Tryz.prog.globalNamed "internal/strconv.uint64pow10" = some 3 := by kernel_rfl
theorem Gl.kept8 {w w' : World} (h : Gl w) (hb : Below 8 w w') : Gl w' := by
  refine ⟨?_, ?_, ?_, ?_, Nat.le_trans h.low hb.size⟩
  · obtain ⟨m, hm⟩ := h.mx
    exact ⟨m, (hb.cell (p := ⟨0, 0, none⟩) (by decide)).trans hm⟩
  · have := h.tab
    unfold Lib.TabIs World.var? at *
    rw [glob_pow10] at *
    simp only [Option.bind_some] at *
    rw [hb.block 3 (by decide)]
    exact this
  · obtain ⟨a, b, hm⟩ := h.syn
    exact ⟨a, b, (hb.cell (p := ⟨4, 0, none⟩) (by decide)).trans hm⟩
  · obtain ⟨a, b, hm⟩ := h.rng
    exact ⟨a, b, (hb.cell (p := ⟨5, 0, none⟩) (by decide)).trans hm⟩
theorem Gl.below {w w' : World} (h : Gl w) (hb : Below w.heap.size w w') : Gl w' := h.kept8 (hb.mono h.low)
theorem Gl.grown {w w' : World} {p : Nat} (h : Gl w) (hg : w.grownBy w' (some p)) (hp : 8 ≤ p) : Gl w' :=
  h.kept8 ⟨hg.os, hg.tape, hg.output, hg.size, fun k hk => hg.block k (by have := h.low; omega) (by intro e; injection e with e; omega)⟩
theorem Gl.drew {w : World} (h : Gl w) : Gl w.drew := h.below (Below.refl _ _).drew
theorem Gl.alloc {w : World} (h : Gl w) (o : Obj) : Gl (w.alloc o) := h.below ((Below.refl _ _).alloc (Nat.le_refl _) o)

theorem grownSet (w : World) (a : Addr) (v : Value) : w.grownBy (w.setCell a v) (some a.block) := ⟨rfl, rfl, rfl, by simp, fun k _ hne => by
  simp only [World.setCell, Array.getElem?_modify]
  rw [if_neg (fun h => hne (by rw [h]))]⟩
theorem grownBelow {w w' : World} (h : Below w.heap.size w w') (row : Option Nat) : w.grownBy w' row := ⟨h.os, h.tape, h.output, h.size, fun k hk _ => h.block k hk⟩
theorem below_grow (w : World) (k : Nat) (os : Array Obj) : Below w.heap.size w (Go.Sort.grow (w.drewN k) os) := by
  refine ⟨rfl, rfl, rfl, by simp [Go.Sort.grow], fun j hj => ?_⟩
  show ((w.drewN k).heap ++ os)[j]? = w.heap[j]?
  rw [Array.getElem?_append_left (by simpa using hj)]
  simp

theorem cutPrefixC (s p : Str) (w : World) : Calls Tryz.prog 83 #[sv s, sv p] w fun e w' => e = .returned (.tuple #[sv (Lib.trimPrefix s p), .bool (Lib.hasPrefix s p)]) ∧ w' = w := Tryz.strings_CutPrefix ⟨s.toArray⟩ ⟨p.toArray⟩ w
theorem cutSuffixC (s p : Str) (w : World) (hs : s.length ≤ 4000000000) : Calls Tryz.prog 21 #[sv s, sv p] w fun e w' => e = .returned (.tuple #[sv (Lib.trimSuffix s p), .bool (Lib.hasSuffix s p)]) ∧ w' = w :=
  Tryz.strings_CutSuffix ⟨s.toArray⟩ ⟨p.toArray⟩ w (by show s.toArray.size ≤ _; simp; omega)
theorem indexC (s p : Str) (w : World) (hg : Gl w) (hs : s.length ≤ 4000000000) : Calls Tryz.prog 41 #[sv s, sv p] w fun e w' => e = .returned (I (Lib.index s p)) ∧ w' = w := by
  obtain ⟨m, hm⟩ := hg.mx
  exact Tryz.strings_Index ⟨s.toArray⟩ ⟨p.toArray⟩ m w (by show s.toArray.size < _; simp; omega) hm
theorem countC (s : Str) (c : UInt8) (w : World) : Calls Tryz.prog 20 #[sv s, sv [c]] w fun e w' => e = .returned (I (s.count c)) ∧ w' = w := Tryz.strings_Count_one ⟨s.toArray⟩ c w
theorem itoaC (n : Int) (h0 : InI64 n) (w : World) (hg : Gl w) : Calls Tryz.prog 46 #[I n] w fun e w' => e = .returned (sv (Lib.itoa n)) ∧ Below w.heap.size w w' := by
  refine (Tryz.strconv_Itoa n h0.1 h0.2 w hg.tab).mono ?_
  rintro e w' ⟨rfl, k, os, rfl⟩
  exact ⟨rfl, below_grow w k os⟩

/-! ### Split -/
theorem index_cons_ne (x c : UInt8) (r : Str) (h : x ≠ c) : Lib.index (x :: r) [c] = if Lib.index r [c] == -1 then -1 else Lib.index r [c] + 1 := by
  have : ([c] : Str).isPrefixOf (x :: r) = false := by simp [List.isPrefixOf]; exact fun e => h e.symm
  rw [Lib.index, this]
  rfl
theorem index_cons_eq (c : UInt8) (r : Str) : Lib.index (c :: r) [c] = 0 := by
  have : ([c] : Str).isPrefixOf (c :: r) = true := by simp [List.isPrefixOf]
  rw [Lib.index, this]
  rfl
theorem splitC_ne (c : UInt8) (s : Str) : splitC c s ≠ [] := by
  cases s with
  | nil => simp [splitC]
  | cons x r =>
    simp only [splitC]
    split
    · simp
    · split <;> simp
theorem splitK_eq (c : UInt8) : ∀ (s : Str), Lib.splitK [c] 0 (Lib.count s [c]) s = splitC c s
  | [] => by
    rw [Lib.count_one]
    rfl
  | x :: r => by
    have ih := splitK_eq c r
    by_cases h : x = c
    · subst h
      rw [Lib.count_cons_eq, Nat.add_comm, Lib.splitK, index_cons_eq]
      simp only [splitC, if_true]
      rw [show (if (0 : Int) == -1 then [x :: r] else (x :: r).take ((0 : Int).toNat + 0) :: Lib.splitK [x] 0 (Lib.count r [x]) ((x :: r).drop ((0 : Int).toNat + [x].length))) = [] :: Lib.splitK [x] 0 (Lib.count r [x]) r from rfl, ih]
    · rw [Lib.count_cons_ne x c r h]
      simp only [splitC, if_neg h]
      rw [← ih]
      cases hn : Lib.count r [c] with
      | zero => rfl
      | succ k =>
        rw [Lib.splitK, Lib.splitK, index_cons_ne x c r h]
        rcases Lib.index_spec r [c] with ⟨h1, _⟩ | ⟨i, h1, _, _, _⟩
        · rw [h1]
          rfl
        · rw [h1]
          have e1 : ((i : Int) == -1) = false := beq_eq_false_iff_ne.2 (by omega)
          have e2 : ((i : Int) + 1 == -1) = false := beq_eq_false_iff_ne.2 (by omega)
          simp only [e1, e2, Bool.false_eq_true, if_false]
          have e3 : ((i : Int) + 1).toNat = i + 1 := by omega
          have e4 : (i : Int).toNat = i := by omega
          rw [e3, e4]
          simp
theorem splitC_length (c : UInt8) (s : Str) : (splitC c s).length = s.count c + 1 := by
  induction s with
  | nil => rfl
  | cons x r ih =>
    simp only [splitC]
    by_cases h : x = c
    · subst h
      rw [if_pos rfl, List.length_cons, ih, List.count_cons_self]
    · rw [if_neg h, List.count_cons_of_ne (fun e => h e)]
      rw [← ih]
      cases hs : splitC c r with
      | nil => exact absurd hs (splitC_ne c r)
      | cons a b => rfl
/-- A row of strings in memory. -/
def StrRow (w : World) (g : Nat) (l : List Str) : Prop := w.heap[g]? = some (.cells (l.map sv).toArray 9 (0, 0))
theorem StrRow.cell {w : World} {g : Nat} {l : List Str} (h : StrRow w g l) {i : Nat} {s : Str} (hi : l[i]? = some s) : w.cell? ⟨g, i, none⟩ = some (sv s) := by
  have h1 : (l.map sv).toArray[i]? = some (sv s) := by simp [hi]
  exact (cell_of_row w g i _ _ _ h).trans h1
theorem splitCc (s : Str) (c : UInt8) (w : World) (hg : Gl w) (hs : s.length ≤ 4000000000) : Calls Tryz.prog 22 #[sv s, sv [c]] w fun e w' =>
    e = .returned (.slice (some ⟨w.heap.size, 0, none⟩) (splitC c s).length (splitC c s).length) ∧ w' = w.alloc (.cells ((splitC c s).map sv).toArray 9) := by
  obtain ⟨m, hm⟩ := hg.mx
  refine (Tryz.strings_Split ⟨s.toArray⟩ ⟨([c] : Str).toArray⟩ m w (by show s.toArray.size < _; simp; omega) hm (Nat.le_refl 1)).mono ?_
  have hd := Lib.splitB_data ⟨([c] : Str).toArray⟩ 0 (Lib.countB ⟨s.toArray⟩ ⟨([c] : Str).toArray⟩) ⟨s.toArray⟩
  have hk : Lib.countB ⟨s.toArray⟩ ⟨([c] : Str).toArray⟩ = Lib.count s [c] := rfl
  rw [hk] at hd ⊢
  have hd2 : (Lib.splitB ⟨([c] : Str).toArray⟩ 0 (Lib.count s [c]) ⟨s.toArray⟩).map (·.data.toList) = splitC c s := hd.trans (splitK_eq c s)
  have hm2 : (Lib.splitB ⟨([c] : Str).toArray⟩ 0 (Lib.count s [c]) ⟨s.toArray⟩).map Value.string = (splitC c s).map sv := by
    rw [← hd2, List.map_map]
    rfl
  have hl : Lib.count s [c] + 1 = (splitC c s).length := by rw [splitC_length, Lib.count_one]
  rintro e w' ⟨rfl, rfl⟩
  rw [hm2, hl]
  exact ⟨rfl, rfl⟩

theorem splitCw (s : Str) (c : UInt8) (w : World) (hg : Gl w) (hs : s.length ≤ 4000000000) : Calls Tryz.prog 22 #[sv s, sv [c]] w fun e w' =>
    e = .returned (.slice (some ⟨w.heap.size, 0, none⟩) (splitC c s).length (splitC c s).length) ∧ StrRow w' w.heap.size (splitC c s) ∧ Below w.heap.size w w' ∧ w'.heap.size = w.heap.size + 1 := by
  refine (splitCc s c w hg hs).mono ?_
  rintro e w' ⟨rfl, rfl⟩
  exact ⟨rfl, heap_alloc_new _ _, (Below.refl _ _).alloc (Nat.le_refl _) _, World.size_alloc _ _⟩

end Go.Proofs.YtljmonfobefiiaaGreatDoor
