/- Questions, answers, tapes: plain data, how they lie in memory, and questions as the keys of a map. -/
import Derived.Test.YtjdhcdbjfbhogaaG1
import Derived.Maps.OwnSet
import Derived.Maps.RangeWalk
import Derived.DeepKeys4
import Derived.Deep.MidRow
namespace Go.Proofs.Ytjdhcdbjfbhogaa
open Go.RowKit Go.Maps

def InI64 (n : Int) : Prop := -9223372036854775808 ≤ n ∧ n ≤ 9223372036854775807
structure Qn where
  node : Int
  handler : Int
  count : Int
  kind : Int
  index : Int
deriving DecidableEq
structure Ans where
  q : Qn
  n : Int
deriving DecidableEq
def Qn.ints (q : Qn) : List Int := [q.node, q.handler, q.count, q.kind, q.index]
def Ans.ints (a : Ans) : List Int := [a.q.node, a.q.handler, a.q.count, a.q.kind, a.q.index, a.n]
theorem Qn.ints_inj {a b : Qn} : a.ints = b.ints ↔ a = b := by
  constructor
  · intro h; cases a; cases b; simp [Qn.ints] at h; simp [h]
  · intro h; rw [h]
def Qn.val (q : Qn) : Value := .agg #[I q.node, I q.handler, I q.count, I q.kind, I q.index]
def Qn.ok (q : Qn) : Prop := ∀ n ∈ q.ints, InI64 n
def Ans.ok (a : Ans) : Prop := a.q.ok ∧ InI64 a.n

def AnsSl (w : World) (v : Value) (l : List Ans) : Prop := Flat w 6 v l.length (l.flatMap fun a => iv a.ints)
theorem AnsSl.kept {w w' : World} {v : Value} {l : List Ans} (h : AnsSl w v l) {B : Nat} (hb : Below B w w') (hB : w.heap.size ≤ B) : AnsSl w' v l := Flat.kept h hb hB
theorem AnsSl.open {w : World} {v : Value} {l : List Ans} (h : AnsSl w v l) : ∃ a c, v = .slice a l.length c ∧ l.length ≤ 9223372036854775807 := Flat.open h
theorem Ans.cells_length (x : Ans) : (iv x.ints).length = 6 := rfl
theorem AnsSl.at {w : World} {a : Option Addr} {n c : Nat} {l : List Ans} (h : AnsSl w (.slice a n c) l) {i : Nat} {x : Ans} (hi : l[i]? = some x) :
    ∃ b o, a = some ⟨b, o, none⟩ ∧ w.rangeAt b (o + i * 6) [I x.q.node, I x.q.handler, I x.q.count, I x.q.kind, I x.q.index, I x.n] := by
  obtain ⟨b, o, ha, hc⟩ := flat_at (f := fun a : Ans => iv a.ints) Ans.cells_length (by omega) h hi
  exact ⟨b, o, ha, fun j v hv => hc j v hv⟩
def EvSl (w : World) (v : Value) (l : List Ev) : Prop := Flat w 8 v l.length (l.flatMap fun a => iv a.ints)
theorem EvSl.kept {w w' : World} {v : Value} {l : List Ev} (h : EvSl w v l) {B : Nat} (hb : Below B w w') (hB : w.heap.size ≤ B) : EvSl w' v l := Flat.kept h hb hB
theorem EvSl.open {w : World} {v : Value} {l : List Ev} (h : EvSl w v l) : ∃ a c, v = .slice a l.length c ∧ l.length ≤ 9223372036854775807 := Flat.open h

/-! ### Questions as keys -/
theorem laidOut : laidOutB Try.prog = true := by kernel_rfl
theorem row66 : (66 : TypeId) < Try.prog.types.size := of_decide_eq_true (by kernel_rfl)
theorem wide66 : (match Try.prog.underlying 66 with | some (.array _ _) | some (.struct _) => true | _ => false) = true := by rw [Try.underlying66]
set_option maxRecDepth 100000 in
theorem law66 : Keyed Try.prog 66 := Keyed.of_law (deep_law_laid laidOut (m := 3) (by omega) row66 (by kernel_rfl) wide66)
theorem wf_of {n : Int} (h : InI64 n) : (Lit.int .i64 n).wf = true := WalkArith.wf_i64 h
theorem cells66 : Try.prog.cellsOf 66 = 5 := by kernel_rfl
theorem cells52 : Try.prog.cellsOf 52 = 3 := by kernel_rfl
theorem cells3 : Try.prog.cellsOf 3 = 1 := by kernel_rfl
theorem keyType66 : Try.prog.keyType 66 = true := by kernel_rfl
def qLit (q : Qn) : Lit := .string (keyBytes [.int .i64 q.node, .int .i64 q.handler, .int .i64 q.count, .int .i64 q.kind, .int .i64 q.index])
set_option maxRecDepth 100000 in
theorem keyQ (q : Qn) (h : q.ok) : keyOf Try.prog 66 q.val = some (qLit q) := by
  have h0 := wf_of (h q.node (by simp [Qn.ints]))
  have h1 := wf_of (h q.handler (by simp [Qn.ints]))
  have h2 := wf_of (h q.count (by simp [Qn.ints]))
  have h3 := wf_of (h q.kind (by simp [Qn.ints]))
  have h4 := wf_of (h q.index (by simp [Qn.ints]))
  obtain ⟨m, hm⟩ : ∃ m, Try.prog.types.size = m + 3 := ⟨Try.prog.types.size - 3, by kernel_rfl⟩
  unfold qLit keyOf
  simp only [Try.underlying66]
  rw [if_pos (by simp [keyType66, Qn.val, Value.formed, Try.underlying66, cells66]), hm]
  unfold Program.keyLits
  simp only [Try.underlying66, Qn.val, Value.cells]
  rw [if_pos ⟨by rw [cells66]; rfl, by kernel_rfl⟩]
  have e3 : ∀ (n : Int), (Lit.int .i64 n).wf = true → Try.prog.keyLits (m + 3) 3 [I n] = some [.int .i64 n] := fun n hn => by simp [Program.keyLits, Try.underlying3, hn]
  have e52 : Try.prog.keyLits (m + 3) 52 [I q.node, I q.handler, I q.count] = some [.int .i64 q.node, .int .i64 q.handler, .int .i64 q.count] := by
    unfold Program.keyLits
    simp only [Try.underlying52]
    rw [if_pos ⟨by rw [cells52]; rfl, by kernel_rfl⟩]
    simp [cells3, Program.keyLits, Try.underlying3, h0, h1, h2]
  simp [cells52, cells3, e3 _ h3, e3 _ h4, e52]
theorem qLit_inj {a b : Qn} (ha : a.ok) (hb : b.ok) (h : qLit a = qLit b) : a = b := by
  have := law66.inj (keyQ a ha) (h ▸ keyQ b hb)
  cases a; cases b
  simp [Qn.val] at this
  simp [this]
theorem qLit_key (q : Qn) (h : q.ok) : WideAt.IsKeyLit (qLit q) := law66.key (keyQ q h)

/-- The answer that a list gives to a question: of several the last one counts. -/
def getA (l : List Ans) (q : Qn) : Int := l.foldl (fun n a => if a.q = q then max 0 a.n else n) 0
theorem getA_snoc (l : List Ans) (a : Ans) (q : Qn) : getA (l ++ [a]) q = if a.q = q then max 0 a.n else getA l q := by simp [getA, List.foldl_append]
theorem getA_nonneg (l : List Ans) (q : Qn) : 0 ≤ getA l q := by
  have key : ∀ (l : List Ans) (n : Int), 0 ≤ n → 0 ≤ l.foldl (fun n a => if a.q = q then max 0 a.n else n) n := by
    intro l
    induction l with
    | nil => intro n h; exact h
    | cons a l ih =>
      intro n h
      rw [List.foldl_cons]
      refine ih _ ?_
      split
      · omega
      · exact h
  exact key l 0 (Int.le_refl _)
/-- The map's datum holds the positive answers of f. -/
structure MapA (D : DataW Unit) (f : Qn → Int) : Prop where
  tidy : Tidy D
  at_ : ∀ q : Qn, q.ok → D.atKey (qLit q) (.lit (.int .i64 0)) = .lit (.int .i64 (f q))
  has_ : ∀ q : Qn, q.ok → Maps.has D (qLit q) = decide (0 < f q)
  sz : ∃ ys : List Qn, ys.Nodup ∧ (∀ q, q ∈ ys ↔ (q.ok ∧ 0 < f q)) ∧ Maps.size D = ys.length
theorem MapA.empty : MapA (.map []) (fun _ => 0) := ⟨tidy_empty, fun q _ => rfl, fun q _ => by simp [Maps.has], [], List.nodup_nil, fun q => by simp, rfl⟩
theorem MapA.del {D : DataW Unit} {f : Qn → Int} (h : MapA D f) (q : Qn) (hq : q.ok) : MapA (D.del (qLit q)) (fun p => if q = p then 0 else f p) := by
  refine ⟨h.tidy.del _, fun p hp => ?_, fun p hp => ?_, ?_⟩
  · by_cases e : q = p
    · subst e
      simp [atKey_del_same]
    · rw [atKey_del_other (fun e2 => e (qLit_inj hp hq e2).symm), h.at_ p hp, if_neg e]
  · by_cases e : q = p
    · subst e
      simp [has_del_same]
    · rw [has_del_other (fun e2 => e (qLit_inj hp hq e2).symm), h.has_ p hp, if_neg e]
  · obtain ⟨ys, h1, h2, h3⟩ := h.sz
    have hs := size_del (k := qLit q) h.tidy
    rw [h.has_ q hq] at hs
    by_cases h0 : 0 < f q
    · have hm : q ∈ ys := (h2 q).2 ⟨hq, h0⟩
      refine ⟨ys.erase q, h1.erase q, fun p => ?_, ?_⟩
      · rw [h1.mem_erase_iff, h2 p]
        by_cases e : q = p
        · subst e; simp
        · simp only [if_neg e]
          exact ⟨fun x => x.2, fun x => ⟨fun e2 => e e2.symm, x⟩⟩
      · rw [List.length_erase_of_mem hm]
        simp [h0] at hs
        have := List.length_pos_of_mem hm
        omega
    · refine ⟨ys, h1, fun p => ?_, ?_⟩
      · rw [h2 p]
        by_cases e : q = p
        · subst e; simp [h0]
        · simp only [if_neg e]
      · simp [h0] at hs
        omega
theorem MapA.put {D : DataW Unit} {f : Qn → Int} (h : MapA D f) (q : Qn) (hq : q.ok) (n : Int) (hn : 0 < n) : MapA (D.put (qLit q) (.lit (.int .i64 n))) (fun p => if q = p then n else f p) := by
  refine ⟨h.tidy.put (qLit_key q hq) _, fun p hp => ?_, fun p hp => ?_, ?_⟩
  · by_cases e : q = p
    · subst e
      rw [atKey_put_same h.tidy.isMap (qLit_key q hq), if_pos rfl]
    · rw [atKey_put_other (fun e2 => e (qLit_inj hp hq e2).symm), h.at_ p hp, if_neg e]
  · by_cases e : q = p
    · subst e
      rw [has_put_same h.tidy.isMap (qLit_key q hq), if_pos rfl]
      simp [hn]
    · rw [has_put_other (fun e2 => e (qLit_inj hp hq e2).symm), h.has_ p hp, if_neg e]
  · obtain ⟨ys, h1, h2, h3⟩ := h.sz
    have hs := size_put (k := qLit q) h.tidy (DataW.lit (.int .i64 n))
    rw [h.has_ q hq] at hs
    by_cases h0 : 0 < f q
    · refine ⟨ys, h1, fun p => ?_, ?_⟩
      · rw [h2 p]
        by_cases e : q = p
        · subst e; simp [h0, hn]
        · simp only [if_neg e]
      · rw [hs]
        simp [h0, h3]
    · have hm : q ∉ ys := fun hm => h0 ((h2 q).1 hm).2
      refine ⟨q :: ys, List.nodup_cons.2 ⟨hm, h1⟩, fun p => ?_, ?_⟩
      · rw [List.mem_cons, h2 p]
        by_cases e : q = p
        · subst e; simp [hn, hq]
        · simp only [if_neg e]
          constructor
          · rintro (e2 | x)
            · exact absurd e2.symm e
            · exact x
          · exact .inr
      · rw [hs]
        simp [h0, h3]
theorem MapA.congr {D : DataW Unit} {f g : Qn → Int} (h : MapA D f) (e : ∀ q, f q = g q) : MapA D g := by
  have : f = g := funext e
  exact this ▸ h

end Go.Proofs.Ytjdhcdbjfbhogaa
