import Derived.Shelf.Strings.BuilderK
import Derived.Test.YtljmonfobefiiaaGreatDoorUBase
import Derived.Test.YtljmonfobefiiaaGreatDoorUP5
import Derived.Test.YtljmonfobefiiaaGreatDoorUTG9
import Derived.Test.YtljmonfobefiiaaGreatDoorUSH
import Derived.Shelf.Strings.MapGrows
/- strings.Builder: copyCheck, WriteString, WriteByte, over Lib.IsBuilderF (String is laid by the shelf). -/
namespace Go.Proofs.YtljmonfobefiiaaGreatDoor
open Go.RowKit

theorem sizeBuilder : (Tryz.prog.info? 123).map (·.size) = some 2 := by kernel_rfl
theorem liesBuilder : liesAt Tryz.prog Tryz.prog.depth 123 (2 / Tryz.prog.cellsOf 123) 0 123 1 = true := by kernel_rfl
theorem infoByte : (Tryz.prog.info? 5).map (fun i => (i.zero, i.size, i.bytes)) = some (some (.int .u8 0), 1, 1) := by kernel_rfl

set_option maxHeartbeats 1000000 in
set_option maxRecDepth 100000 in
theorem copyCheck_used (b : Nat) (w : World) (h0 : w.cell? ⟨b, 0, none⟩ = some (.pointer (some ⟨b, 0, none⟩))) :
    Calls Tryz.prog 104 #[.pointer (some ⟨b, 0, none⟩)] w fun e w' => e = .returned (.tuple #[]) ∧ w' = w := by
  obtain ⟨j, hj, _⟩ := Option.map_eq_some_iff.1 sizeBuilder
  go_enter Tryz.func104, Tryz.ntmps104
  go_wp2
  rw [Lib.run_neq_ptr_same w _ Tryz.underlying121 hj]
  go_wp2
  go_end0
  exact ⟨rfl, rfl⟩

set_option maxHeartbeats 1000000 in
set_option maxRecDepth 100000 in
theorem copyCheck_fresh (b : Nat) (w : World) (h0 : w.cell? ⟨b, 0, none⟩ = some (.pointer none)) (hsh : w.shape? b = some (123, 2)) (hfz : w.frozen? ⟨b, 0, none⟩ = false) :
    Calls Tryz.prog 104 #[.pointer (some ⟨b, 0, none⟩)] w fun e w' => e = .returned (.tuple #[]) ∧ w' = w.setCell ⟨b, 0, none⟩ (.pointer (some ⟨b, 0, none⟩)) := by
  obtain ⟨j, hj, hjs⟩ := Option.map_eq_some_iff.1 sizeBuilder
  go_enter Tryz.func104, Tryz.ntmps104
  go_wp2
  rw [Lib.run_to_unsafe w ⟨b, 0, none⟩ Tryz.underlying121 Tryz.underlying188 hj (by rw [hjs]; decide) hsh (Nat.zero_lt_succ 1)]
  simp only [Result.andThen]
  rw [Oper.upon_value]
  go_wp2
  rw [run_callFunc_extern Tryz.func137 (by kernel_rfl) (by kernel_rfl) (by kernel_rfl) (e := Extern.AbiNoEscape.same) (by kernel_rfl)]
  rw [Lib.run_noEscape]
  simp only [Result.andThen]
  rw [Oper.upon_value]
  go_wp2
  rw [Lib.run_from_unsafe w ⟨b, 0, none⟩ Tryz.underlying188 Tryz.underlying121 hj hsh liesBuilder]
  simp only [Result.andThen]
  rw [Oper.upon_value]
  go_wp2
  go_end0
  exact ⟨rfl, rfl⟩

theorem copyCheckC (B b : Nat) (bs : List Value) (w : World) (h : Lib.IsBuilderF 123 5 B b bs w) :
    Calls Tryz.prog 104 #[.pointer (some ⟨b, 0, none⟩)] w fun e w' => e = .returned (.tuple #[]) ∧ (Lib.BuilderAtF 123 5 B b (.pointer (some ⟨b, 0, none⟩)) bs w' ∧ Below B w w' ∧ Lib.OthersKept 5 (some b) w w') := by
  rcases h with h | h
  · refine (copyCheck_fresh b w h.cell0 h.shape h.frozen0).mono ?_
    rintro e w' ⟨rfl, rfl⟩
    exact ⟨rfl, h.used _, (Below.refl B w).setCell (p := ⟨b, 0, none⟩) h.1 _, (Lib.OthersKept.refl _ _ w).setCell ⟨b, 0, none⟩ rfl _⟩
  · refine (copyCheck_used b w h.cell0).mono ?_
    rintro e w' ⟨rfl, rfl⟩
    exact ⟨rfl, h, Below.refl B _, Lib.OthersKept.refl _ _ _⟩

set_option maxHeartbeats 2000000 in
set_option maxRecDepth 100000 in
theorem writeByteC (B b : Nat) (bs : List Value) (c : Int) (w : World) (h : Lib.IsBuilderF 123 5 B b bs w) (hlen : bs.length + 1 ≤ 140737488355328) (hBw : B ≤ w.heap.size) :
    Calls Tryz.prog 70 #[.pointer (some ⟨b, 0, none⟩), .int .u8 c] w fun e w' => e = .returned .nilIface ∧ (Lib.BuilderAtF 123 5 B b (.pointer (some ⟨b, 0, none⟩)) (bs ++ [.int .u8 c]) w' ∧ Below B w w' ∧ Lib.OthersKept 5 (some b) w w') := by
  obtain ⟨i0, hi, hz0, hz1, hz2⟩ := info_parts infoByte
  go_enter Tryz.func70, Tryz.ntmps70
  go_wp2_with (go_at_call 104; refine (copyCheckC B b bs _ h).mono ?_)
  rintro e w1 ⟨rfl, h1, hb1, hk1⟩
  obtain ⟨hB, v, hbk, hown, hne⟩ := h1
  have c0 : w1.cell? ⟨b, 0, none⟩ = some (.pointer (some ⟨b, 0, none⟩)) := by rw [Lib.cell_of_heap hbk]; rfl
  have c1 : w1.cell? ⟨b, 1, none⟩ = some v := by rw [Lib.cell_of_heap hbk]; rfl
  go_wp2_with (at_builtin; refine wpList_append_ownF _ rfl _ _ 62 rfl B 5 i0 (.int .u8 0) 1 1 Tryz.underlying62 hi hz0 hz1 hz2 rfl (by decide) _ _ _ rfl (hown.alloc _) ⟨w1.heap.size, 0, none⟩ 1 1 [.int .u8 c] rfl rfl ?c1 ?c2 ?c3 ?c4 ?c5 ?_)
  case c1 =>
    intro j u hj
    match j, hj with
    | 0, hj => simp at hj; subst hj; simp [Addr.add]
  case c2 => intro u hu; simp at hu; subst hu; rfl
  case c3 => unfold maxLen; omega
  case c4 => omega
  case c5 => have := hb1.size; simp; omega
  intro v' w2 hown' hgrow _
  have hlt : b < w1.heap.size := by
    rcases Nat.lt_or_ge b w1.heap.size with h' | h'
    · exact h'
    · simp [Array.getElem?_eq_none h'] at hbk
  have hb2 : w2.heap[b]? = some (.cells #[.pointer (some ⟨b, 0, none⟩), v] 123 (0, 0)) := by
    rw [hgrow.block b (by simp; omega) (fun e => hne e.symm), Lib.alloc_old w1 _ b hlt]
    exact hbk
  have d0 : w2.cell? ⟨b, 0, none⟩ = some (.pointer (some ⟨b, 0, none⟩)) := by rw [Lib.cell_of_heap hb2]; rfl
  have d1 : w2.cell? ⟨b, 1, none⟩ = some v := by rw [Lib.cell_of_heap hb2]; rfl
  have f1 : w2.frozen? ⟨b, 1, none⟩ = false := Lib.frozen_of_heap hb2 1
  obtain ⟨g, cap, rfl⟩ : ∃ g cap, v' = .slice (some ⟨g, 0, none⟩) (bs.length + 1) cap := by
    rcases hown'.2 with ⟨_, h0⟩ | ⟨g, cap, cur, fz, hv, _⟩
    · omega
    · exact ⟨g, cap, hv⟩
  go_wp2
  go_ret
  refine ⟨rfl, ?_, ?_, ((hk1.alloc _).grown hgrow (Lib.ownsRowF_kind (hown.alloc _))).setCell ⟨b, 1, none⟩ rfl _⟩
  · exact Lib.BuilderAtF.put (T := 123) (e := 5) hB hb2 (bs' := bs ++ [.int .u8 c]) (by simpa using hown') (by decide)
  · exact ((hb1.alloc (by have := hb1.size; omega) _).grown hgrow (by have := hb1.size; simp; omega) (fun k hk => (hown.lt k hk).1)).setCell (p := ⟨b, 1, none⟩) hB _

set_option maxHeartbeats 2000000 in
set_option maxRecDepth 100000 in
theorem writeStringC (B b : Nat) (bs : List Value) (s : ByteArray) (w : World) (h : Lib.IsBuilderF 123 5 B b bs w) (hlen : bs.length + s.size ≤ 140737488355328) (hBw : B ≤ w.heap.size) :
    Calls Tryz.prog 66 #[.pointer (some ⟨b, 0, none⟩), .string s] w fun e w' => e = .returned (.tuple #[.int .i64 s.size, .nilIface]) ∧ (Lib.BuilderAtF 123 5 B b (.pointer (some ⟨b, 0, none⟩)) (bs ++ Lib.strCells s) w' ∧ Below B w w' ∧ Lib.OthersKept 5 (some b) w w') := by
  obtain ⟨i0, hi, hz0, hz1, hz2⟩ := info_parts infoByte
  go_enter Tryz.func66, Tryz.ntmps66
  go_wp2_with (go_at_call 104; refine (copyCheckC B b bs _ h).mono ?_)
  rintro e w1 ⟨rfl, h1, hb1, hk1⟩
  obtain ⟨hB, v, hbk, hown, hne⟩ := h1
  have c0 : w1.cell? ⟨b, 0, none⟩ = some (.pointer (some ⟨b, 0, none⟩)) := by rw [Lib.cell_of_heap hbk]; rfl
  have c1 : w1.cell? ⟨b, 1, none⟩ = some v := by rw [Lib.cell_of_heap hbk]; rfl
  go_wp2_with (at_builtin; refine Lib.wpList_append_own_stringF _ rfl _ _ 62 9 rfl B 5 i0 Tryz.underlying62 Tryz.underlying9 hi hz0 hz1 hz2 _ _ _ rfl hown s rfl ?c3 ?c4 ?c5 ?_)
  case c3 => unfold maxLen; omega
  case c4 => omega
  case c5 => have := hb1.size; omega
  intro v' w2 hown' hgrow _
  have hlt : b < w1.heap.size := by
    rcases Nat.lt_or_ge b w1.heap.size with h' | h'
    · exact h'
    · simp [Array.getElem?_eq_none h'] at hbk
  have hb2 : w2.heap[b]? = some (.cells #[.pointer (some ⟨b, 0, none⟩), v] 123 (0, 0)) := by
    rw [hgrow.block b hlt (fun e => hne e.symm)]
    exact hbk
  have d0 : w2.cell? ⟨b, 0, none⟩ = some (.pointer (some ⟨b, 0, none⟩)) := by rw [Lib.cell_of_heap hb2]; rfl
  have d1 : w2.cell? ⟨b, 1, none⟩ = some v := by rw [Lib.cell_of_heap hb2]; rfl
  have f1 : w2.frozen? ⟨b, 1, none⟩ = false := Lib.frozen_of_heap hb2 1
  obtain ⟨ao, n', cap, rfl⟩ : ∃ ao n' cap, v' = .slice ao n' cap := by
    rcases hown'.2 with ⟨hv, _⟩ | ⟨g, cap, cur, fz, hv, _⟩
    · exact ⟨_, _, _, hv⟩
    · exact ⟨_, _, _, hv⟩
  go_wp2
  go_ret2
  refine ⟨rfl, ?_, ?_, (hk1.grown hgrow (Lib.ownsRowF_kind hown)).setCell ⟨b, 1, none⟩ rfl _⟩
  · exact Lib.BuilderAtF.put (T := 123) (e := 5) hB hb2 (bs' := bs ++ Lib.strCells s) (by simpa [Lib.strCells_length] using hown') (by decide)
  · exact (hb1.grown hgrow (by have := hb1.size; omega) (fun k hk => (hown.lt k hk).1)).setCell (p := ⟨b, 1, none⟩) hB _

end Go.Proofs.YtljmonfobefiiaaGreatDoor

/- What story.Print holds in memory: the rows of what comes immediately before; the builder; and the text that it writes. -/
namespace Go.Proofs.YtljmonfobefiiaaGreatDoor
open Go.RowKit

/-- The rows of second parts (arr, in block gn). -/
structure BfAt (B gn n : Nat) (W : World) (L : List (Nat × Nat)) (arr : Array Value) : Prop where
  bn : Blk W gn arr
  ln : gn < B
  hB : B ≤ W.heap.size
  sn : arr.size = n
  row : ∀ a < n, ∃ va, arr[a]? = some va ∧ W.ownsRow B 3 1 va (nxL L a).length (nv (nxL L a))
  sep : ∀ (a a' : Nat) (va va' : Value), a ≠ a' → arr[a]? = some va → arr[a']? = some va' → va.ownBlock = none ∨ va.ownBlock ≠ va'.ownBlock

theorem BfAt.kept {B gn n : Nat} {W W' : World} {L : List (Nat × Nat)} {arr : Array Value} (h : BfAt B gn n W L arr) (hb : Below W.heap.size W W') : BfAt B gn n W' L arr :=
  { h with
    bn := h.bn.kept hb h.bn.lt
    hB := Nat.le_trans h.hB hb.size
    row := fun a ha => by
      obtain ⟨va, h1, h2⟩ := h.row a ha
      exact ⟨va, h1, owns_below h2 hb⟩ }
theorem BfAt.drew {B gn n : Nat} {W : World} {L : List (Nat × Nat)} {arr : Array Value} (h : BfAt B gn n W L arr) : BfAt B gn n W.drew L arr := h.kept ((Below.refl _ W).drew)
theorem BfAt.start {B gn n : Nat} {W : World} (hn : Blk W gn (mk1 n (.slice none 0 0))) (h1 : gn < B) (hB : B ≤ W.heap.size) : BfAt B gn n W [] (mk1 n (.slice none 0 0)) where
  bn := hn
  ln := h1
  hB := hB
  sn := mk1_size _ _
  row := fun a ha => ⟨_, mk1_get _ _ _ ha, World.ownsRow_nil _ _ _ _⟩
  sep := fun a a' va va' _ h1 _ => by
    have : va = .slice none 0 0 := by
      have hlt := (Array.getElem?_eq_some_iff.1 h1).1
      rw [mk1_size] at hlt
      rw [mk1_get _ _ _ hlt] at h1
      exact (Option.some.inj h1).symm
    subst this
    exact .inl rfl

/-- One more pair: the row of its first part has grown, its second part has one predecessor more. -/
theorem BfAt.step {B gn n : Nat} {W W2 : World} {L : List (Nat × Nat)} {arr : Array Value} (h : BfAt B gn n W L arr) (p : Nat × Nat) (hp1 : p.1 < n) (va : Value) (hva : arr[p.1]? = some va)
    (g cap : Nat) (hown : W2.ownsRow B 3 1 (.slice (some ⟨g, 0, none⟩) ((nxL L p.1).length + 1) cap) ((nxL L p.1).length + 1) (nv (nxL L p.1) ++ [I (p.2 : Nat)])) (hgr : W.grownBy W2 va.ownBlock) (hg : va.ownBlock = some g ∨ W.heap.size ≤ g) (hsz : W.heap.size ≤ W2.heap.size) :
    BfAt B gn n (W2.setCell ⟨gn, p.1, none⟩ (.slice (some ⟨g, 0, none⟩) ((nxL L p.1).length + 1) cap)) (L ++ [p])
      (arr.setIfInBounds p.1 (.slice (some ⟨g, 0, none⟩) ((nxL L p.1).length + 1) cap)) := by
  have hvb : va.ownBlock = none ∨ ∃ g, va.ownBlock = some g ∧ B ≤ g ∧ g < W.heap.size := by
    obtain ⟨va', e1, e2⟩ := h.row p.1 hp1
    rw [hva] at e1
    cases e1
    exact owns_block e2
  have hne : ∀ x, x < B → va.ownBlock ≠ some x := fun x hx e => by
    rcases hvb with h0 | ⟨g', h0, h1, _⟩
    · rw [h0] at e; cases e
    · rw [h0] at e; cases e; omega
  have hgB : B ≤ g := (hown.lt g rfl).1
  have hset : ∀ {va' : Value} {m : Nat} {xs : List Value}, W2.ownsRow B 3 1 va' m xs → (W2.setCell ⟨gn, p.1, none⟩ (.slice (some ⟨g, 0, none⟩) ((nxL L p.1).length + 1) cap)).ownsRow B 3 1 va' m xs := by
    intro va' m xs ho
    have hnb : ∀ x, x < B → va'.ownBlock = none ∨ va'.ownBlock ≠ some x := fun x hx => by
      rcases owns_block ho with h0 | ⟨g', h0, h1, _⟩
      · exact .inl h0
      · exact .inr (by rw [h0]; intro e; cases e; omega)
    have h1 : W2.grownBy (W2.setCell ⟨gn, p.1, none⟩ (.slice (some ⟨g, 0, none⟩) ((nxL L p.1).length + 1) cap)) (some gn) := ⟨rfl, rfl, rfl, by simp, fun k _ hk => heap_setCell_other _ _ _ _ (fun e => hk (by rw [e]))⟩
    exact ho.kept h1 (hnb gn h.ln)
  exact {
    bn := (h.bn.grown hgr (hne gn h.ln)).set p.1 _
    ln := h.ln
    hB := by simp only [World.size_setCell]; exact Nat.le_trans h.hB hsz
    sn := by rw [Array.size_setIfInBounds]; exact h.sn
    row := fun a ha => by
      by_cases e : p.1 = a
      · subst e
        refine ⟨_, by rw [Array.getElem?_setIfInBounds_self_of_lt (by rw [h.sn]; exact hp1)], ?_⟩
        rw [nxL_snoc, if_pos rfl]
        have := hset hown
        simpa [nv] using this
      · obtain ⟨va', e1, e2⟩ := h.row a ha
        refine ⟨va', by rw [Array.getElem?_setIfInBounds_ne e]; exact e1, ?_⟩
        rw [nxL_snoc, if_neg e]
        exact hset (e2.kept hgr (h.sep a p.1 va' va (fun x => e x.symm) e1 hva))
    sep := fun a a' x y hne' hx hy => by
      by_cases e : p.1 = a
      · subst e
        rw [Array.getElem?_setIfInBounds_self_of_lt (by rw [h.sn]; exact hp1)] at hx
        cases hx
        rw [Array.getElem?_setIfInBounds_ne hne'] at hy
        right
        intro e2
        have hy2 : y.ownBlock = some g := e2.symm
        have ha' : a' < n := by have := (Array.getElem?_eq_some_iff.1 hy).1; rw [h.sn] at this; exact this
        obtain ⟨y', f1, f2⟩ := h.row a' ha'
        rw [hy] at f1
        cases f1
        have hlt := (f2.lt g hy2).2
        rcases hg with hg | hg
        · rcases h.sep p.1 a' va y hne' hva hy with h0 | h0
          · rw [h0] at hg; cases hg
          · exact h0 (hg.trans hy2.symm)
        · omega
      · rw [Array.getElem?_setIfInBounds_ne e] at hx
        by_cases e' : p.1 = a'
        · subst e'
          rw [Array.getElem?_setIfInBounds_self_of_lt (by rw [h.sn]; exact hp1)] at hy
          cases hy
          right
          intro e2
          have hx2 : x.ownBlock = some g := e2
          have ha : a < n := by have := (Array.getElem?_eq_some_iff.1 hx).1; rw [h.sn] at this; exact this
          obtain ⟨x', f1, f2⟩ := h.row a ha
          rw [hx] at f1
          cases f1
          have hlt := (f2.lt g hx2).2
          rcases hg with hg | hg
          · rcases h.sep p.1 a va x (fun z => e z) hva hx with h0 | h0
            · rw [h0] at hg; cases hg
            · exact h0 (hg.trans hx2.symm)
          · omega
        · rw [Array.getElem?_setIfInBounds_ne e'] at hy
          exact h.sep a a' x y hne' hx hy }


/-! ### The builder -/
def Bd (W : World) (b : Nat) (t : Str) : Prop := Lib.IsBuilderF 123 5 b b (Lib.byteCells t) W
theorem Bd.kept {W W' : World} {b : Nat} {t : Str} (h : Bd W b t) (hb : Below W.heap.size W W') : Bd W' b t :=
  h.elim (fun x => .inl (Lib.BuilderAtF.below x hb)) (fun x => .inr (Lib.BuilderAtF.below x hb))
theorem Bd.lt {W : World} {b : Nat} {t : Str} (h : Bd W b t) : b < W.heap.size := h.elim (fun x => x.lt) (fun x => x.lt)
theorem Bd.new (W : World) : Bd (W.alloc (.cells #[.pointer none, .slice none 0 0] 123)) W.heap.size [] :=
  .inl ⟨Nat.le_refl _, .slice none 0 0, heap_alloc_new _ _, ⟨rfl, .inl ⟨rfl, rfl⟩⟩, by simp [Value.ownBlock]⟩
/-- What a write leaves: the builder's new text; all that is older than the builder; every block that is not the builder's. -/
structure Wrote (W W' : World) (b : Nat) (t : Str) : Prop where
  bd : Bd W' b t
  below : Below b W W'
  others : ∀ (k : Nat) (cs : Array Value) (T : TypeId) (fz : Nat × Nat), W.heap[k]? = some (.cells cs T fz) → k ≠ b → T ≠ 5 → W'.heap[k]? = some (.cells cs T fz)
theorem Wrote.of {W W' : World} {b : Nat} {t : Str} (h : Lib.BuilderAtF 123 5 b b (.pointer (some ⟨b, 0, none⟩)) (Lib.byteCells t) W') (hb : Below b W W') (ho : Lib.OthersKept 5 (some b) W W') : Wrote W W' b t where
  bd := .inr h
  below := hb
  others := fun k cs T fz hk hkb hT => ho k _ hk (fun e => hkb (Option.some.inj e)) (fun c f e => hT (by injection e))
theorem writeC (W : World) (b : Nat) (t s : Str) (h : Bd W b t) (hl : t.length + s.length ≤ 140737488355328) :
    Calls Tryz.prog 66 #[.pointer (some ⟨b, 0, none⟩), sv s] W fun e W' => e = .returned (.tuple #[.int .i64 (s.length : Nat), .nilIface]) ∧ Wrote W W' b (t ++ s) := by
  have hz : (⟨s.toArray⟩ : ByteArray).size = s.length := by simp [ByteArray.size]
  refine (writeStringC b b (Lib.byteCells t) ⟨s.toArray⟩ W h (by rw [Lib.byteCells_length, hz]; exact hl) (Nat.le_of_lt h.lt)).mono ?_
  rintro e W' ⟨rfl, h1, h2, h3⟩
  rw [show Lib.strCells ⟨s.toArray⟩ = Lib.byteCells s from rfl, ← Lib.byteCells_append] at h1
  exact ⟨by rw [hz], Wrote.of h1 h2 h3⟩
theorem writeNlC (W : World) (b : Nat) (t : Str) (h : Bd W b t) (hl : t.length + 1 ≤ 140737488355328) :
    Calls Tryz.prog 70 #[.pointer (some ⟨b, 0, none⟩), .int .u8 10] W fun e W' => e = .returned .nilIface ∧ Wrote W W' b (t ++ [10]) := by
  refine (writeByteC b b (Lib.byteCells t) 10 W h (by rw [Lib.byteCells_length]; exact hl) (Nat.le_of_lt h.lt)).mono ?_
  rintro e W' ⟨rfl, h1, h2, h3⟩
  rw [show Lib.byteCells t ++ [.int .u8 10] = Lib.byteCells (t ++ [10]) by rw [Lib.byteCells_append]; rfl] at h1
  exact ⟨rfl, Wrote.of h1 h2 h3⟩
theorem bstringC (W : World) (b : Nat) (t : Str) (h : Bd W b t) :
    Calls Tryz.prog 71 #[.pointer (some ⟨b, 0, none⟩)] W fun e W' => e = .returned (sv t) ∧ Below b W W' := by
  refine (Tryz.Builder_String_any_k b b t W h (Nat.le_of_lt h.lt)).mono ?_
  rintro e W' ⟨rfl, h1, h2, h3⟩
  exact ⟨rfl, h2⟩

/-- In X: the step's row in block q, all that is older than the builder as in W5, the builder's text. -/
structure PS (W5 X : World) (q : Nat) (cs : Array Value) (t : Str) : Prop where
  row : X.heap[q]? = some (.cells cs 53 (0, 0))
  below : Below W5.heap.size W5 X
  bd : Bd X W5.heap.size t
  lt : W5.heap.size < q
theorem PS.qlt {W5 X : World} {q : Nat} {cs : Array Value} {t : Str} (h : PS W5 X q cs t) : q < X.heap.size := (Array.getElem?_eq_some_iff.1 h.row).1
theorem PS.then {W5 X Y : World} {q : Nat} {cs : Array Value} {t : Str} (h : PS W5 X q cs t) (D : Below X.heap.size X Y) : PS W5 Y q cs t where
  row := (D.block q h.qlt).trans h.row
  below := h.below.trans (D.mono h.below.size)
  bd := h.bd.kept D
  lt := h.lt
theorem PS.drew {W5 X : World} {q : Nat} {cs : Array Value} {t : Str} (h : PS W5 X q cs t) : PS W5 X.drew q cs t := h.then ((Below.refl _ X).drew)
theorem PS.alloc {W5 X : World} {q : Nat} {cs : Array Value} {t : Str} (h : PS W5 X q cs t) (o : Obj) : PS W5 (X.alloc o) q cs t := h.then ((Below.refl _ X).alloc (Nat.le_refl _) o)
theorem PS.wrote {W5 X Y : World} {q : Nat} {cs : Array Value} {t t' : Str} (h : PS W5 X q cs t) (D : Wrote X Y W5.heap.size t') : PS W5 Y q cs t' where
  row := D.others q cs _ _ h.row (by have := h.lt; omega) (by decide)
  below := h.below.trans D.below
  bd := D.bd
  lt := h.lt
theorem PS.cell {W5 X : World} {q : Nat} {cs : Array Value} {t : Str} (h : PS W5 X q cs t) : ∀ j, X.cell? ⟨q, j, none⟩ = cs[j]? := fun j => Blk.cell ⟨_, h.row⟩ j

end Go.Proofs.YtljmonfobefiiaaGreatDoor
