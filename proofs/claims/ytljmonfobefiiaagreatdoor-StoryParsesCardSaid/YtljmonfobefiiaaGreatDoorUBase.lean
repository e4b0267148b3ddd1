import Derived.WalkKit
import Derived.WalkSpells
import Derived.Lib.Hide
import Derived.Deep.QuietTactic
import Derived.Deep.AppendLies
import Derived.Test.YtljmonfobefiiaaGreatDoorProg
import Derived.WalkLawsBesides
import Derived.BigQuiet
import Derived.StillTailTactics
import Derived.Deep.RegionHeld3
import Derived.Maps.OwnSet
import Derived.Maps.RangeWalk
import Derived.DeepKeys4
import Derived.Deep.MidRow
import Derived.Lib.ParseIntB
import Derived.Lib.ItoaNum
import Derived.Lib.ItoaMem
import Derived.Lib.Strings
import Derived.Lib.IndexMore
import Derived.Lib.SplitLaws
/- Plain data of steps, and how they lie in memory: representation predicates for slices of integers and structs. -/
namespace Go.Proofs.YtljmonfobefiiaaGreatDoor
open Go.RowKit

structure Msg where
  node : Int
  handler : Int
  count : Int
  index : Int
  copy : Int
deriving DecidableEq

structure Ev where
  kind : Int
  node : Int
  arg : Int
  msg : Msg
deriving DecidableEq

structure Ask where
  node : Int
  handler : Int
  count : Int
  kind : Int
  index : Int
  arity : Int
  n : Int
deriving DecidableEq

structure Stp where
  ev : Ev
  asks : List Ask
  obs : Bool
  sent : List Msg
deriving DecidableEq

abbrev I (n : Int) : Value := .int .i64 n

def Msg.ints (m : Msg) : List Int := [m.node, m.handler, m.count, m.index, m.copy]
def Ev.ints (e : Ev) : List Int := [e.kind, e.node, e.arg, e.msg.node, e.msg.handler, e.msg.count, e.msg.index, e.msg.copy]
def Ask.ints (a : Ask) : List Int := [a.node, a.handler, a.count, a.kind, a.index, a.arity, a.n]
theorem Ask.ints_inj {a b : Ask} : a.ints = b.ints ↔ a = b := by
  constructor
  · intro h; cases a; cases b; simp [Ask.ints] at h; simp [h]
  · intro h; rw [h]
theorem Msg.ints_inj {a b : Msg} : a.ints = b.ints ↔ a = b := by
  constructor
  · intro h; cases a; cases b; simp [Msg.ints] at h; simp [h]
  · intro h; rw [h]
theorem Ev.ints_inj {a b : Ev} : a.ints = b.ints ↔ a = b := by
  constructor
  · intro h; obtain ⟨_, _, _, ⟨_, _, _, _, _⟩⟩ := a; obtain ⟨_, _, _, ⟨_, _, _, _, _⟩⟩ := b; simp [Ev.ints] at h; simp [h]
  · intro h; rw [h]

def iv (l : List Int) : List Value := l.map I
def Msg.cells (m : Msg) : List Value := iv m.ints
def Ask.cells (m : Ask) : List Value := iv m.ints

theorem getElem?_flat {α β : Type} (f : α → List β) (k : Nat) (hk : ∀ x, (f x).length = k) : ∀ (l : List α) (i j : Nat) (x : α), l[i]? = some x → j < k → (l.flatMap f)[i * k + j]? = (f x)[j]?
  | [], i, j, x, h, _ => by simp at h
  | y :: l, 0, j, x, h, hj => by
    simp at h
    subst h
    simp only [List.flatMap_cons, Nat.zero_mul, Nat.zero_add]
    rw [List.getElem?_append_left (by rw [hk]; exact hj)]
  | y :: l, i + 1, j, x, h, hj => by
    have h' : l[i]? = some x := by simpa using h
    have ih := getElem?_flat f k hk l i j x h' hj
    simp only [List.flatMap_cons]
    have e : (i + 1) * k + j = k + (i * k + j) := by rw [Nat.add_mul]; omega
    rw [List.getElem?_append_right (by rw [hk, e]; omega), hk, e, Nat.add_sub_cancel_left]
    exact ih
theorem length_flat {α β : Type} (f : α → List β) (k : Nat) (hk : ∀ x, (f x).length = k) (l : List α) : (l.flatMap f).length = l.length * k := by
  induction l with
  | nil => simp
  | cons y l ih => simp [List.flatMap_cons, hk, Nat.add_mul, ih]; omega

/-- The slice value v of n elements, k cells each, reads in w as the cells xs. -/
def Flat (w : World) (k : Nat) (v : Value) (n : Nat) (xs : List Value) : Prop :=
  xs.length = n * k ∧ n ≤ 9223372036854775807 ∧ ∃ (a : Option Addr) (c : Nat), v = .slice a n c ∧ ∀ j u, xs[j]? = some u → ∃ b o, a = some ⟨b, o, none⟩ ∧ w.cell? ⟨b, o + j, none⟩ = some u

theorem Flat.kept {w w' : World} {k : Nat} {v : Value} {n : Nat} {xs : List Value} (h : Flat w k v n xs) {B : Nat} (hb : Below B w w') (hB : w.heap.size ≤ B) : Flat w' k v n xs := by
  obtain ⟨hl, hm, a, c, hv, hr⟩ := h
  refine ⟨hl, hm, a, c, hv, fun j u hu => ?_⟩
  obtain ⟨b, o, ha, hc⟩ := hr j u hu
  refine ⟨b, o, ha, ?_⟩
  have h2 := World.block_lt_of_cell? _ _ hc
  rw [hb.cell (p := ⟨b, o + j, none⟩) (by simp at h2 ⊢; omega)]
  exact hc
theorem Flat.open {w : World} {k : Nat} {v : Value} {n : Nat} {xs : List Value} (h : Flat w k v n xs) : ∃ a c, v = .slice a n c ∧ n ≤ 9223372036854775807 := by
  obtain ⟨_, hm, a, c, hv, _⟩ := h
  exact ⟨a, c, hv, hm⟩
theorem Flat.cells {w : World} {k : Nat} {a : Option Addr} {m c n : Nat} {xs : List Value} (h : Flat w k (.slice a m c) n xs) (hpos : 0 < xs.length) :
    ∃ b o, a = some ⟨b, o, none⟩ ∧ ∀ j u, xs[j]? = some u → w.cell? ⟨b, o + j, none⟩ = some u := by
  obtain ⟨_, _, a', c', hv, hr⟩ := h
  simp at hv
  obtain ⟨b, o, ha, _⟩ := hr 0 xs[0] (by simp [hpos])
  refine ⟨b, o, hv.1.trans ha, fun j u hu => ?_⟩
  obtain ⟨b', o', ha', hc⟩ := hr j u hu
  rw [ha] at ha'
  simp at ha'
  rw [ha'.1, ha'.2]
  exact hc
theorem Flat.nil (w : World) (k : Nat) (a : Option Addr) (c : Nat) : Flat w k (.slice a 0 c) 0 [] := ⟨by simp, by omega, a, c, rfl, fun j u h => by simp at h⟩
theorem Flat.of_cells {w : World} {k n c b o : Nat} {xs : List Value} (hl : xs.length = n * k) (hn : n ≤ 9223372036854775807) (h : ∀ j u, xs[j]? = some u → w.cell? ⟨b, o + j, none⟩ = some u) : Flat w k (.slice (some ⟨b, o, none⟩) n c) n xs :=
  ⟨hl, hn, _, _, rfl, fun j u hu => ⟨b, o, rfl, h j u hu⟩⟩
theorem Flat.of_owns {w : World} {B : Nat} {e : TypeId} {k : Nat} {v : Value} {n : Nat} {xs : List Value} (h : w.ownsRow B e k v n xs) : Flat w k v n xs := by
  refine ⟨h.1, ?_⟩
  rcases h.2 with ⟨rfl, rfl⟩ | ⟨g, cap, cur, rfl, _, hg, hn, hc, _, _⟩
  · exact ⟨by omega, none, 0, rfl, fun j u hu => by have := h.1; simp at this; subst this; simp at hu⟩
  · refine ⟨Nat.le_trans hn (by simpa [maxLen] using hc), _, _, rfl, fun j u hu => ⟨g, 0, rfl, ?_⟩⟩
    have := h.cells (g := g) rfl j u hu
    have hadd : (⟨g, 0, none⟩ : Addr).add j = ⟨g, 0 + j, none⟩ := by unfold Addr.add; split <;> simp_all
    rw [hadd] at this
    exact this

def IntSl (w : World) (v : Value) (l : List Int) : Prop := Flat w 1 v l.length (iv l)
def AskSl (w : World) (v : Value) (l : List Ask) : Prop := Flat w 7 v l.length (l.flatMap Ask.cells)
def MsgSl (w : World) (v : Value) (l : List Msg) : Prop := Flat w 5 v l.length (l.flatMap Msg.cells)

theorem IntSl.kept {w w' : World} {v : Value} {l : List Int} (h : IntSl w v l) {B : Nat} (hb : Below B w w') (hB : w.heap.size ≤ B) : IntSl w' v l := Flat.kept h hb hB
theorem AskSl.kept {w w' : World} {v : Value} {l : List Ask} (h : AskSl w v l) {B : Nat} (hb : Below B w w') (hB : w.heap.size ≤ B) : AskSl w' v l := Flat.kept h hb hB
theorem MsgSl.kept {w w' : World} {v : Value} {l : List Msg} (h : MsgSl w v l) {B : Nat} (hb : Below B w w') (hB : w.heap.size ≤ B) : MsgSl w' v l := Flat.kept h hb hB
theorem IntSl.open {w : World} {v : Value} {l : List Int} (h : IntSl w v l) : ∃ a c, v = .slice a l.length c ∧ l.length ≤ 9223372036854775807 := Flat.open h
theorem AskSl.open {w : World} {v : Value} {l : List Ask} (h : AskSl w v l) : ∃ a c, v = .slice a l.length c ∧ l.length ≤ 9223372036854775807 := Flat.open h
theorem MsgSl.open {w : World} {v : Value} {l : List Msg} (h : MsgSl w v l) : ∃ a c, v = .slice a l.length c ∧ l.length ≤ 9223372036854775807 := Flat.open h

theorem flat_at {w : World} {α : Type} {f : α → List Value} {k : Nat} (hk : ∀ x, (f x).length = k) (hk0 : 0 < k) {a : Option Addr} {m n c : Nat} {l : List α} (h : Flat w k (.slice a m c) n (l.flatMap f)) {i : Nat} {x : α} (hi : l[i]? = some x) :
    ∃ b o, a = some ⟨b, o, none⟩ ∧ ∀ j u, (f x)[j]? = some u → w.cell? ⟨b, o + i * k + j, none⟩ = some u := by
  have hlt := (List.getElem?_eq_some_iff.1 hi).1
  obtain ⟨b, o, ha, hc⟩ := h.cells (by rw [length_flat f k hk]; exact Nat.mul_pos (by omega) hk0)
  refine ⟨b, o, ha, fun j u hu => ?_⟩
  have hj : j < k := by have := (List.getElem?_eq_some_iff.1 hu).1; rw [hk] at this; exact this
  have := hc (i * k + j) u (by rw [getElem?_flat f k hk l i j x hi hj]; exact hu)
  rwa [← Nat.add_assoc] at this
theorem Ask.cells_length (x : Ask) : x.cells.length = 7 := rfl
theorem Msg.cells_length (x : Msg) : x.cells.length = 5 := rfl

theorem AskSl.at {w : World} {a : Option Addr} {n c : Nat} {l : List Ask} (h : AskSl w (.slice a n c) l) {i : Nat} {x : Ask} (hi : l[i]? = some x) :
    ∃ b o, a = some ⟨b, o, none⟩ ∧ w.cell? ⟨b, o + i * 7, none⟩ = some (I x.node) ∧ w.cell? ⟨b, o + i * 7 + 1, none⟩ = some (I x.handler) ∧ w.cell? ⟨b, o + i * 7 + 2, none⟩ = some (I x.count) ∧
      w.cell? ⟨b, o + i * 7 + 3, none⟩ = some (I x.kind) ∧ w.cell? ⟨b, o + i * 7 + 4, none⟩ = some (I x.index) ∧ w.cell? ⟨b, o + i * 7 + 5, none⟩ = some (I x.arity) ∧ w.cell? ⟨b, o + i * 7 + 6, none⟩ = some (I x.n) := by
  obtain ⟨b, o, ha, hc⟩ := flat_at Ask.cells_length (by omega) h hi
  exact ⟨b, o, ha, hc 0 _ rfl, hc 1 _ rfl, hc 2 _ rfl, hc 3 _ rfl, hc 4 _ rfl, hc 5 _ rfl, hc 6 _ rfl⟩
theorem MsgSl.at {w : World} {a : Option Addr} {n c : Nat} {l : List Msg} (h : MsgSl w (.slice a n c) l) {i : Nat} {x : Msg} (hi : l[i]? = some x) :
    ∃ b o, a = some ⟨b, o, none⟩ ∧ w.cell? ⟨b, o + i * 5, none⟩ = some (I x.node) ∧ w.cell? ⟨b, o + i * 5 + 1, none⟩ = some (I x.handler) ∧ w.cell? ⟨b, o + i * 5 + 2, none⟩ = some (I x.count) ∧
      w.cell? ⟨b, o + i * 5 + 3, none⟩ = some (I x.index) ∧ w.cell? ⟨b, o + i * 5 + 4, none⟩ = some (I x.copy) := by
  obtain ⟨b, o, ha, hc⟩ := flat_at Msg.cells_length (by omega) h hi
  exact ⟨b, o, ha, hc 0 _ rfl, hc 1 _ rfl, hc 2 _ rfl, hc 3 _ rfl, hc 4 _ rfl⟩
theorem IntSl.at {w : World} {a : Option Addr} {n c : Nat} {l : List Int} (h : IntSl w (.slice a n c) l) {i : Nat} {x : Int} (hi : l[i]? = some x) :
    ∃ b o, a = some ⟨b, o, none⟩ ∧ w.cell? ⟨b, o + i, none⟩ = some (I x) := by
  have hlt := (List.getElem?_eq_some_iff.1 hi).1
  obtain ⟨b, o, ha, hc⟩ := Flat.cells h (by simp [iv]; omega)
  exact ⟨b, o, ha, hc i _ (by simp [iv, hi])⟩

/-- The cells of a step. -/
def Stp.row (s : Stp) (va vs : Value) : List Value :=
  [I s.ev.kind, I s.ev.node, I s.ev.arg, I s.ev.msg.node, I s.ev.msg.handler, I s.ev.msg.count, I s.ev.msg.index, I s.ev.msg.copy, va, .bool s.obs, vs]
/-- The value of a step. -/
def Stp.val (s : Stp) (va vs : Value) : Value := .agg (s.row va vs).toArray

/-- In w the value v is the step s. -/
def Stp.In (w : World) (s : Stp) (v : Value) : Prop := ∃ va vs, v = s.val va vs ∧ AskSl w va s.asks ∧ MsgSl w vs s.sent
theorem Stp.In.kept {w w' : World} {s : Stp} {v : Value} (h : s.In w v) {B : Nat} (hb : Below B w w') (hB : w.heap.size ≤ B) : s.In w' v := by
  obtain ⟨va, vs, hv, h1, h2⟩ := h
  exact ⟨va, vs, hv, h1.kept hb hB, h2.kept hb hB⟩

/-- The cells xs are the steps l, one behind the other. -/
def StpCells (w : World) : List Stp → List Value → Prop
  | [], xs => xs = []
  | s :: l, xs => ∃ va vs ys, xs = s.row va vs ++ ys ∧ AskSl w va s.asks ∧ MsgSl w vs s.sent ∧ StpCells w l ys
theorem StpCells.kept {w w' : World} {B : Nat} (hb : Below B w w') (hB : w.heap.size ≤ B) : ∀ {l : List Stp} {xs : List Value}, StpCells w l xs → StpCells w' l xs
  | [], _, h => h
  | _ :: _, _, ⟨va, vs, ys, hx, h1, h2, h3⟩ => ⟨va, vs, ys, hx, h1.kept hb hB, h2.kept hb hB, h3.kept hb hB⟩
theorem StpCells.append {w : World} : ∀ {l m : List Stp} {xs ys : List Value}, StpCells w l xs → StpCells w m ys → StpCells w (l ++ m) (xs ++ ys)
  | [], _, xs, ys, h, h' => by
    have : xs = [] := h
    subst this
    exact h'
  | s :: l, m, xs, ys, ⟨va, vs, zs, hx, h1, h2, h3⟩, h' => ⟨va, vs, zs ++ ys, by rw [hx, List.append_assoc], h1, h2, h3.append h'⟩
theorem StpCells.one {w : World} {s : Stp} {va vs : Value} (h1 : AskSl w va s.asks) (h2 : MsgSl w vs s.sent) : StpCells w [s] (s.row va vs) := ⟨va, vs, [], by simp, h1, h2, rfl⟩
theorem StpCells.length {w : World} : ∀ {l : List Stp} {xs : List Value}, StpCells w l xs → xs.length = l.length * 11
  | [], xs, h => by
    have : xs = [] := h
    subst this
    rfl
  | s :: l, xs, ⟨va, vs, zs, hx, _, _, h3⟩ => by
    have := h3.length
    rw [hx, List.length_append, this]
    simp [Stp.row]
    omega
theorem StpCells.at {w : World} : ∀ {l : List Stp} {xs : List Value} {i : Nat} {s : Stp}, StpCells w l xs → l[i]? = some s →
    ∃ va vs, AskSl w va s.asks ∧ MsgSl w vs s.sent ∧ ∀ j u, (s.row va vs)[j]? = some u → xs[i * 11 + j]? = some u
  | [], _, _, _, _, h => by simp at h
  | t :: l, xs, 0, s, ⟨va, vs, zs, hx, h1, h2, h3⟩, h => by
    simp at h
    subst h
    refine ⟨va, vs, h1, h2, fun j u hu => ?_⟩
    have hj := (List.getElem?_eq_some_iff.1 hu).1
    rw [hx, Nat.zero_mul, Nat.zero_add, List.getElem?_append_left hj]
    exact hu
  | t :: l, xs, i + 1, s, ⟨va, vs, zs, hx, h1, h2, h3⟩, h => by
    have h' : l[i]? = some s := by simpa using h
    obtain ⟨va', vs', g1, g2, g3⟩ := h3.at h'
    refine ⟨va', vs', g1, g2, fun j u hu => ?_⟩
    have := g3 j u hu
    have e : (i + 1) * 11 + j = 11 + (i * 11 + j) := by omega
    have hl : (t.row va vs).length = 11 := rfl
    rw [hx, e, List.getElem?_append_right (by omega), hl, Nat.add_sub_cancel_left]
    exact this

/-- The slice value v reads, in w, as the steps l. -/
def StpSl (w : World) (v : Value) (l : List Stp) : Prop := ∃ xs, StpCells w l xs ∧ Flat w 11 v l.length xs
theorem StpSl.kept {w w' : World} {v : Value} {l : List Stp} (h : StpSl w v l) {B : Nat} (hb : Below B w w') (hB : w.heap.size ≤ B) : StpSl w' v l := by
  obtain ⟨xs, h1, h2⟩ := h
  exact ⟨xs, h1.kept hb hB, h2.kept hb hB⟩
theorem StpSl.open {w : World} {v : Value} {l : List Stp} (h : StpSl w v l) : ∃ a c, v = .slice a l.length c ∧ l.length ≤ 9223372036854775807 := by
  obtain ⟨xs, h1, h2⟩ := h
  exact h2.open
theorem StpSl.nil (w : World) (a : Option Addr) (c : Nat) : StpSl w (.slice a 0 c) [] := ⟨[], rfl, Flat.nil _ _ _ _⟩
/-- The step at i: where it lies. -/
theorem StpSl.at {w : World} {a : Option Addr} {n c : Nat} {l : List Stp} (h : StpSl w (.slice a n c) l) {i : Nat} {s : Stp} (hi : l[i]? = some s) :
    ∃ b o va vs, a = some ⟨b, o, none⟩ ∧ AskSl w va s.asks ∧ MsgSl w vs s.sent ∧
      w.cell? ⟨b, o + i * 11, none⟩ = some (I s.ev.kind) ∧ w.cell? ⟨b, o + i * 11 + 1, none⟩ = some (I s.ev.node) ∧ w.cell? ⟨b, o + i * 11 + 2, none⟩ = some (I s.ev.arg) ∧
      w.cell? ⟨b, o + i * 11 + 3, none⟩ = some (I s.ev.msg.node) ∧ w.cell? ⟨b, o + i * 11 + 4, none⟩ = some (I s.ev.msg.handler) ∧ w.cell? ⟨b, o + i * 11 + 5, none⟩ = some (I s.ev.msg.count) ∧
      w.cell? ⟨b, o + i * 11 + 6, none⟩ = some (I s.ev.msg.index) ∧ w.cell? ⟨b, o + i * 11 + 7, none⟩ = some (I s.ev.msg.copy) ∧ w.cell? ⟨b, o + i * 11 + 8, none⟩ = some va ∧
      w.cell? ⟨b, o + i * 11 + 9, none⟩ = some (.bool s.obs) ∧ w.cell? ⟨b, o + i * 11 + 10, none⟩ = some vs := by
  obtain ⟨xs, h1, h2⟩ := h
  obtain ⟨va, vs, g1, g2, g3⟩ := h1.at hi
  have hlt := (List.getElem?_eq_some_iff.1 hi).1
  obtain ⟨b, o, ha, hc⟩ := h2.cells (by rw [h1.length]; omega)
  have key : ∀ j u, (s.row va vs)[j]? = some u → w.cell? ⟨b, o + i * 11 + j, none⟩ = some u := fun j u hu => by
    have := hc _ u (g3 j u hu)
    rwa [← Nat.add_assoc] at this
  exact ⟨b, o, va, vs, ha, g1, g2, key 0 _ rfl, key 1 _ rfl, key 2 _ rfl, key 3 _ rfl, key 4 _ rfl, key 5 _ rfl, key 6 _ rfl, key 7 _ rfl, key 8 _ rfl, key 9 _ rfl, key 10 _ rfl⟩
theorem StpSl.of_owns {w W : World} {B0 B : Nat} {e : TypeId} {v : Value} {l : List Stp} {n : Nat} {xs : List Value} (h : w.ownsRow B e 11 v n xs) (hn : n = l.length) (hc : StpCells W l xs) (hb : Below B0 W w) (hB : W.heap.size ≤ B0) : StpSl w v l := by
  subst hn
  exact ⟨xs, hc.kept hb hB, Flat.of_owns h⟩

/-- A block that holds just these cells. -/
def Blk (w : World) (g : Nat) (cs : Array Value) : Prop := ∃ t, w.heap[g]? = some (.cells cs t (0, 0))
theorem Blk.cell {w : World} {g : Nat} {cs : Array Value} (h : Blk w g cs) (j : Nat) : w.cell? ⟨g, j, none⟩ = cs[j]? := by
  obtain ⟨t, h⟩ := h
  exact cell_of_row w g j cs t _ h
theorem Blk.frozen {w : World} {g : Nat} {cs : Array Value} (h : Blk w g cs) (j : Nat) : w.frozen? ⟨g, j, none⟩ = false := by
  obtain ⟨t, h⟩ := h
  exact frozen_of_row w g j cs t h
theorem Blk.kept {w w' : World} {g : Nat} {cs : Array Value} (h : Blk w g cs) {B : Nat} (hb : Below B w w') (hB : g < B) : Blk w' g cs := by
  obtain ⟨t, h⟩ := h
  exact ⟨t, (hb.block g hB).trans h⟩
theorem Blk.new (w : World) (cs : Array Value) (t : TypeId) : Blk (w.alloc (.cells cs t)) w.heap.size cs := ⟨t, heap_alloc_new w _⟩
theorem Blk.lt {w : World} {g : Nat} {cs : Array Value} (h : Blk w g cs) : g < w.heap.size := by
  obtain ⟨t, h⟩ := h
  exact (Array.getElem?_eq_some_iff.1 h).1
theorem Blk.alloc {w : World} {g : Nat} {cs : Array Value} (h : Blk w g cs) (o : Obj) : Blk (w.alloc o) g cs := by
  have hl := h.lt
  obtain ⟨t, h⟩ := h
  exact ⟨t, (Below.heap_alloc w o g hl).trans h⟩
theorem Blk.drewN {w : World} {g : Nat} {cs : Array Value} (h : Blk w g cs) (n : Nat) : Blk (w.drewN n) g cs := h
theorem Blk.drew {w : World} {g : Nat} {cs : Array Value} (h : Blk w g cs) : Blk w.drew g cs := h
theorem Blk.grown {w w' : World} {g : Nat} {cs : Array Value} (h : Blk w g cs) {row : Option Nat} (hg : w.grownBy w' row) (hne : row ≠ some g) : Blk w' g cs := by
  have hl := h.lt
  obtain ⟨t, h⟩ := h
  exact ⟨t, (hg.block g hl (fun e => hne e.symm)).trans h⟩
theorem Blk.setOther {w : World} {g : Nat} {cs : Array Value} (h : Blk w g cs) (a : Addr) (v : Value) (hne : a.block ≠ g) : Blk (w.setCell a v) g cs := by
  obtain ⟨t, h⟩ := h
  exact ⟨t, (heap_setCell_other w a g v (fun e => hne e.symm)).trans h⟩
theorem Blk.set {w : World} {g : Nat} {cs : Array Value} (h : Blk w g cs) (i : Nat) (v : Value) : Blk (w.setCell ⟨g, i, none⟩ v) g (cs.setIfInBounds i v) := by
  obtain ⟨t, h⟩ := h
  exact ⟨t, heap_setCell_same w g i cs t v h⟩
theorem below_drewN {B : Nat} {a w : World} (h : Below B a w) (n : Nat) : Below B a (w.drewN n) := ⟨h.os, h.tape, h.output, h.size, h.block⟩
theorem ret_bool {a b : Bool} (h : a = b) : Ending.returned (.bool a) = .returned (.bool b) := by rw [h]
theorem ret_int {a b : Int} (h : a = b) : Ending.returned (I a) = .returned (I b) := by rw [h]

theorem ext_of {α : Type} {l m : List α} (hl : l.length = m.length) (h : ∀ j < l.length, l[j]? = m[j]?) : l = m := by
  apply List.ext_getElem?
  intro j
  by_cases hj : j < l.length
  · exact h j hj
  · rw [List.getElem?_eq_none (by omega), List.getElem?_eq_none (by omega)]

/-- append of m > 0 elements onto a row of the call's own. -/
theorem wpList_app {P : Program} {w : World} {ops : Array Oper} {rest : List Oper} {o : Oper} {a : Act} {Q : Exit → Act → World → Prop} (hgd : o.guard = none) (s x : Operand) (t : TypeId)
    (ho : o.op = .call { callee := .builtin .append, args := #[s, x], argTypes := #[t, t] })
    (e : TypeId) (z : Value) (k bytes : Nat) (ht : P.underlying t = some (.slice e)) (hinfo : (P.info? e).map (fun i => (i.zero, i.size, i.bytes)) = some (some z, k, bytes)) (hzs : z.cells.size = k) (hk : 0 < k) (hby : bytes ≤ 1000)
    (B : Nat) (v : Value) (n : Nat) (xs : List Value) (hs : a.eval s = v) (hown : w.ownsRow B e k v n xs)
    (b of m c : Nat) (news : List Value) (hx : a.eval x = .slice (some ⟨b, of, none⟩) m c) (hl : news.length = m * k) (hnews : ∀ j u, news[j]? = some u → w.cell? ⟨b, of + j, none⟩ = some u) (h1 : ∀ u ∈ news, u.oneCell' = true)
    (hm : 0 < m) (hbd : n + m ≤ 100000000) (hbase : B ≤ w.heap.size)
    (h : ∀ g cap w', B ≤ g → g < w'.heap.size → (v.ownBlock = some g ∨ g = w.heap.size) → w'.ownsRow B e k (.slice (some ⟨g, 0, none⟩) (n + m) cap) (n + m) (xs ++ news) → w.grownBy w' v.ownBlock → Below B w w' →
      wpList P ops Q rest (a.put o.dst (.slice (some ⟨g, 0, none⟩) (n + m) cap)) w') : wpList P ops Q (o :: rest) a w := by
  obtain ⟨i0, hi, hz0, hz1, hz2⟩ := info_parts hinfo
  refine wpList_append_lies w hgd s x t ho B e i0 z k bytes ht hi hz0 hz1 hz2 hzs hk v n xs hs hown ⟨b, of, none⟩ m c news hx hl (fun j u hu => ?_) h1 hm (by unfold maxLen; omega)
    (Nat.le_trans (Nat.mul_le_mul hbd hby) (by omega)) hbase w.heap.size rfl ?_
  · have hadd : (⟨b, of, none⟩ : Addr).add j = ⟨b, of + j, none⟩ := by unfold Addr.add; split <;> simp_all
    rw [hadd]
    exact hnews j u hu
  · intro g cap w' h2 h3 h4 h5
    have hB : Below B w w' := (Below.refl B w).grown h3 hbase (fun k' hk' => (hown.lt k' hk').1)
    refine h g cap w' ?_ h5 h4 h2 h3 hB
    rcases h4 with h4 | h4
    · exact (hown.lt g h4).1
    · omega

/-- append of what one block holds (what a composite literal has just laid). -/
theorem wpList_appB {P : Program} {w : World} {ops : Array Oper} {rest : List Oper} {o : Oper} {a : Act} {Q : Exit → Act → World → Prop} (hgd : o.guard = none) (s x : Operand) (t : TypeId)
    (ho : o.op = .call { callee := .builtin .append, args := #[s, x], argTypes := #[t, t] })
    (e : TypeId) (z : Value) (k bytes : Nat) (ht : P.underlying t = some (.slice e)) (hinfo : (P.info? e).map (fun i => (i.zero, i.size, i.bytes)) = some (some z, k, bytes)) (hzs : z.cells.size = k) (hk : 0 < k) (hby : bytes ≤ 1000)
    (B : Nat) (v : Value) (n : Nat) (xs : List Value) (hs : a.eval s = v) (hown : w.ownsRow B e k v n xs)
    (b m c : Nat) (cs : Array Value) (t' : TypeId) (hx : a.eval x = .slice (some ⟨b, 0, none⟩) m c) (hblk : w.heap[b]? = some (.cells cs t' (0, 0))) (hl : cs.size = m * k) (h1 : cs.toList.all Value.oneCell' = true)
    (hm : 0 < m) (hbd : n + m ≤ 100000000) (hbase : B ≤ w.heap.size)
    (h : ∀ g cap w', B ≤ g → g < w'.heap.size → (v.ownBlock = some g ∨ g = w.heap.size) → w'.ownsRow B e k (.slice (some ⟨g, 0, none⟩) (n + m) cap) (n + m) (xs ++ cs.toList) → w.grownBy w' v.ownBlock → Below B w w' →
      wpList P ops Q rest (a.put o.dst (.slice (some ⟨g, 0, none⟩) (n + m) cap)) w') : wpList P ops Q (o :: rest) a w :=
  wpList_app hgd s x t ho e z k bytes ht hinfo hzs hk hby B v n xs hs hown b 0 m c cs.toList hx (by simpa using hl)
    (fun j u hu => by rw [Nat.zero_add, cell_of_row w b j cs t' _ hblk]; simpa using hu) (List.all_eq_true.1 h1) hm hbd hbase h

/-- append of m > 0 elements onto a row of the call's own. -/
theorem step_app {P : Program} {w : World} {ops : Array Oper} {o : Oper} {a : Act} {K : Act → World → Prop} {Q : Exit → Act → World → Prop} {E : Prop} (hgd : o.guard = none) (s x : Operand) (t : TypeId)
    (ho : o.op = .call { callee := .builtin .append, args := #[s, x], argTypes := #[t, t] })
    (e : TypeId) (z : Value) (k bytes : Nat) (ht : P.underlying t = some (.slice e)) (hinfo : (P.info? e).map (fun i => (i.zero, i.size, i.bytes)) = some (some z, k, bytes)) (hzs : z.cells.size = k) (hk : 0 < k) (hby : bytes ≤ 1000)
    (B : Nat) (v : Value) (n : Nat) (xs : List Value) (hs : a.eval s = v) (hown : w.ownsRow B e k v n xs)
    (b of m c : Nat) (news : List Value) (hx : a.eval x = .slice (some ⟨b, of, none⟩) m c) (hl : news.length = m * k) (hnews : ∀ j u, news[j]? = some u → w.cell? ⟨b, of + j, none⟩ = some u) (h1 : ∀ u ∈ news, u.oneCell' = true)
    (hm : 0 < m) (hbd : n + m ≤ 100000000) (hbase : B ≤ w.heap.size)
    (h : ∀ g cap w', B ≤ g → g < w'.heap.size → (v.ownBlock = some g ∨ g = w.heap.size) → w'.ownsRow B e k (.slice (some ⟨g, 0, none⟩) (n + m) cap) (n + m) (xs ++ news) → w.grownBy w' v.ownBlock → Below B w w' →
      K (a.put o.dst (.slice (some ⟨g, 0, none⟩) (n + m) cap)) w') : if Region.wanted o (yielded ops a.tmps) = true then Oper.wp P o a w K Q else E := by
  obtain ⟨i0, hi, hz0, hz1, hz2⟩ := info_parts hinfo
  refine step_append_lies w hgd s x t ho B e i0 z k bytes ht hi hz0 hz1 hz2 hzs hk v n xs hs hown ⟨b, of, none⟩ m c news hx hl (fun j u hu => ?_) h1 hm (by unfold maxLen; omega)
    (Nat.le_trans (Nat.mul_le_mul hbd hby) (by omega)) hbase w.heap.size rfl ?_
  · have hadd : (⟨b, of, none⟩ : Addr).add j = ⟨b, of + j, none⟩ := by unfold Addr.add; split <;> simp_all
    rw [hadd]
    exact hnews j u hu
  · intro g cap w' h2 h3 h4 h5
    have hB : Below B w w' := (Below.refl B w).grown h3 hbase (fun k' hk' => (hown.lt k' hk').1)
    refine h g cap w' ?_ h5 h4 h2 h3 hB
    rcases h4 with h4 | h4
    · exact (hown.lt g h4).1
    · omega

/-- append of what one block holds (what a composite literal has just laid). -/
theorem step_appB {P : Program} {w : World} {ops : Array Oper} {o : Oper} {a : Act} {K : Act → World → Prop} {Q : Exit → Act → World → Prop} {E : Prop} (hgd : o.guard = none) (s x : Operand) (t : TypeId)
    (ho : o.op = .call { callee := .builtin .append, args := #[s, x], argTypes := #[t, t] })
    (e : TypeId) (z : Value) (k bytes : Nat) (ht : P.underlying t = some (.slice e)) (hinfo : (P.info? e).map (fun i => (i.zero, i.size, i.bytes)) = some (some z, k, bytes)) (hzs : z.cells.size = k) (hk : 0 < k) (hby : bytes ≤ 1000)
    (B : Nat) (v : Value) (n : Nat) (xs : List Value) (hs : a.eval s = v) (hown : w.ownsRow B e k v n xs)
    (b m c : Nat) (cs : Array Value) (t' : TypeId) (hx : a.eval x = .slice (some ⟨b, 0, none⟩) m c) (hblk : w.heap[b]? = some (.cells cs t' (0, 0))) (hl : cs.size = m * k) (h1 : cs.toList.all Value.oneCell' = true)
    (hm : 0 < m) (hbd : n + m ≤ 100000000) (hbase : B ≤ w.heap.size)
    (h : ∀ g cap w', B ≤ g → g < w'.heap.size → (v.ownBlock = some g ∨ g = w.heap.size) → w'.ownsRow B e k (.slice (some ⟨g, 0, none⟩) (n + m) cap) (n + m) (xs ++ cs.toList) → w.grownBy w' v.ownBlock → Below B w w' →
      K (a.put o.dst (.slice (some ⟨g, 0, none⟩) (n + m) cap)) w') : if Region.wanted o (yielded ops a.tmps) = true then Oper.wp P o a w K Q else E :=
  step_app hgd s x t ho e z k bytes ht hinfo hzs hk hby B v n xs hs hown b 0 m c cs.toList hx (by simpa using hl)
    (fun j u hu => by rw [Nat.zero_add, cell_of_row w b j cs t' _ hblk]; simpa using hu) (List.all_eq_true.1 h1) hm hbd hbase h

/-- A block that has just been laid is a row of the call's own. -/
theorem owns_of_block {w : World} {B g n k : Nat} {e : TypeId} {cs : Array Value} (h : w.heap[g]? = some (.cells cs e (0, 0))) (hB : B ≤ g) (hs : cs.size = n * k) (hn : n ≤ 1000000) : w.ownsRow B e k (.slice (some ⟨g, 0, none⟩) n n) n cs.toList :=
  ⟨by simpa using hs, .inr ⟨g, n, cs, rfl, hB, h, Nat.le_refl _, by unfold maxLen; omega, hs, by rw [List.take_of_length_le (by simp [hs])]⟩⟩

end Go.Proofs.YtljmonfobefiiaaGreatDoor

/- Equality of structs of integers, as one step of the walk each. -/
namespace Go.Proofs.YtljmonfobefiiaaGreatDoor
open Go.RowKit
/-- Lists of integers are equal: a plain name, which the walk does not open. -/
def eqL (a b : List Int) : Bool := decide (a = b)
theorem eqL_true {a b : List Int} (h : a = b) : eqL a b = true := by simp [eqL, h]
theorem eqL_false {a b : List Int} (h : a ≠ b) : eqL a b = false := by simp [eqL, h]

theorem run_eql_Cause (a0 a1 a2 b0 b1 b2 : Int) (w : World) : (binOp .eql 45 (.agg #[I a0, I a1, I a2]) (.agg #[I b0, I b1, I b2])).run Tryz.prog w = .ok (.bool (eqL [a0, a1, a2] [b0, b1, b2])) w := by
  simp [go_sem, eqL]
  repeat' split
  all_goals simp_all
attribute [go_sem high] run_eql_Cause

theorem run_neq_Cause (a0 a1 a2 b0 b1 b2 : Int) (w : World) : (binOp .neq 45 (.agg #[I a0, I a1, I a2]) (.agg #[I b0, I b1, I b2])).run Tryz.prog w = .ok (.bool (!eqL [a0, a1, a2] [b0, b1, b2])) w := by
  simp [go_sem, eqL]
  repeat' split
  all_goals simp_all
attribute [go_sem high] run_neq_Cause

theorem run_eql_Msg (a0 a1 a2 a3 a4 b0 b1 b2 b3 b4 : Int) (w : World) : (binOp .eql 47 (.agg #[I a0, I a1, I a2, I a3, I a4]) (.agg #[I b0, I b1, I b2, I b3, I b4])).run Tryz.prog w = .ok (.bool (eqL [a0, a1, a2, a3, a4] [b0, b1, b2, b3, b4])) w := by
  simp [go_sem, eqL]
  repeat' split
  all_goals simp_all
attribute [go_sem high] run_eql_Msg

theorem run_neq_Msg (a0 a1 a2 a3 a4 b0 b1 b2 b3 b4 : Int) (w : World) : (binOp .neq 47 (.agg #[I a0, I a1, I a2, I a3, I a4]) (.agg #[I b0, I b1, I b2, I b3, I b4])).run Tryz.prog w = .ok (.bool (!eqL [a0, a1, a2, a3, a4] [b0, b1, b2, b3, b4])) w := by
  simp [go_sem, eqL]
  repeat' split
  all_goals simp_all
attribute [go_sem high] run_neq_Msg

theorem run_eql_Event (a0 a1 a2 a3 a4 a5 a6 a7 b0 b1 b2 b3 b4 b5 b6 b7 : Int) (w : World) : (binOp .eql 49 (.agg #[I a0, I a1, I a2, I a3, I a4, I a5, I a6, I a7]) (.agg #[I b0, I b1, I b2, I b3, I b4, I b5, I b6, I b7])).run Tryz.prog w = .ok (.bool (eqL [a0, a1, a2, a3, a4, a5, a6, a7] [b0, b1, b2, b3, b4, b5, b6, b7])) w := by
  simp [go_sem, eqL]
  repeat' split
  all_goals simp_all
attribute [go_sem high] run_eql_Event

theorem run_neq_Event (a0 a1 a2 a3 a4 a5 a6 a7 b0 b1 b2 b3 b4 b5 b6 b7 : Int) (w : World) : (binOp .neq 49 (.agg #[I a0, I a1, I a2, I a3, I a4, I a5, I a6, I a7]) (.agg #[I b0, I b1, I b2, I b3, I b4, I b5, I b6, I b7])).run Tryz.prog w = .ok (.bool (!eqL [a0, a1, a2, a3, a4, a5, a6, a7] [b0, b1, b2, b3, b4, b5, b6, b7])) w := by
  simp [go_sem, eqL]
  repeat' split
  all_goals simp_all
attribute [go_sem high] run_neq_Event

theorem run_eql_Question (a0 a1 a2 a3 a4 b0 b1 b2 b3 b4 : Int) (w : World) : (binOp .eql 58 (.agg #[I a0, I a1, I a2, I a3, I a4]) (.agg #[I b0, I b1, I b2, I b3, I b4])).run Tryz.prog w = .ok (.bool (eqL [a0, a1, a2, a3, a4] [b0, b1, b2, b3, b4])) w := by
  simp [go_sem, eqL]
  repeat' split
  all_goals simp_all
attribute [go_sem high] run_eql_Question

theorem run_neq_Question (a0 a1 a2 a3 a4 b0 b1 b2 b3 b4 : Int) (w : World) : (binOp .neq 58 (.agg #[I a0, I a1, I a2, I a3, I a4]) (.agg #[I b0, I b1, I b2, I b3, I b4])).run Tryz.prog w = .ok (.bool (!eqL [a0, a1, a2, a3, a4] [b0, b1, b2, b3, b4])) w := by
  simp [go_sem, eqL]
  repeat' split
  all_goals simp_all
attribute [go_sem high] run_neq_Question

theorem run_eql_Ask (a0 a1 a2 a3 a4 a5 a6 b0 b1 b2 b3 b4 b5 b6 : Int) (w : World) : (binOp .eql 60 (.agg #[I a0, I a1, I a2, I a3, I a4, I a5, I a6]) (.agg #[I b0, I b1, I b2, I b3, I b4, I b5, I b6])).run Tryz.prog w = .ok (.bool (eqL [a0, a1, a2, a3, a4, a5, a6] [b0, b1, b2, b3, b4, b5, b6])) w := by
  simp [go_sem, eqL]
  repeat' split
  all_goals simp_all
attribute [go_sem high] run_eql_Ask

theorem run_neq_Ask (a0 a1 a2 a3 a4 a5 a6 b0 b1 b2 b3 b4 b5 b6 : Int) (w : World) : (binOp .neq 60 (.agg #[I a0, I a1, I a2, I a3, I a4, I a5, I a6]) (.agg #[I b0, I b1, I b2, I b3, I b4, I b5, I b6])).run Tryz.prog w = .ok (.bool (!eqL [a0, a1, a2, a3, a4, a5, a6] [b0, b1, b2, b3, b4, b5, b6])) w := by
  simp [go_sem, eqL]
  repeat' split
  all_goals simp_all
attribute [go_sem high] run_neq_Ask


/-- What the tables say of the element types. -/
theorem info_int : (Tryz.prog.info? 3).map (fun i => (i.zero, i.size, i.bytes)) = some (some (.int .i64 0), 1, 8) := by kernel_rfl
theorem info_Msg : (Tryz.prog.info? 47).map (fun i => (i.zero, i.size, i.bytes)) = some (some (.agg #[.int .i64 0, .int .i64 0, .int .i64 0, .int .i64 0, .int .i64 0]), 5, 40) := by kernel_rfl
theorem info_Ask : (Tryz.prog.info? 60).map (fun i => (i.zero, i.size, i.bytes)) = some (some (.agg #[.int .i64 0, .int .i64 0, .int .i64 0, .int .i64 0, .int .i64 0, .int .i64 0, .int .i64 0]), 7, 56) := by kernel_rfl
theorem info_Step : (Tryz.prog.info? 53).map (fun i => (i.zero, i.size, i.bytes)) = some (some (.agg #[.int .i64 0, .int .i64 0, .int .i64 0, .int .i64 0, .int .i64 0, .int .i64 0, .int .i64 0, .int .i64 0, .slice none 0 0, .bool false, .slice none 0 0]), 11, 120) := by kernel_rfl
end Go.Proofs.YtljmonfobefiiaaGreatDoor

/- Comparing steps and runs: the reference's SameStep, SameRun, SameInts; Around, Has. -/
namespace Go.Proofs.YtljmonfobefiiaaGreatDoor
open Go.RowKit

/-- What Around computes. -/
def around (n most : Int) : Int := (if n < 0 then -(n + 1) else n) % most
theorem around_range (n most : Int) (h : 1 ≤ most) : 0 ≤ around n most ∧ around n most < most := by
  unfold around
  exact ⟨Int.emod_nonneg _ (by omega), Int.emod_lt_of_pos _ (by omega)⟩

set_option maxHeartbeats 400000 in
theorem around_any (n most : Int) (w : World) (h1 : 1 ≤ most) (ha : -9223372036854775808 ≤ n) (hb : n ≤ 9223372036854775807) : Calls Tryz.prog 13 #[I n, I most] w fun e w' => e = .returned (I (around n most)) ∧ w = w' := by
  have hz : (most == 0) = false := by rw [beq_eq_false_iff_ne]; omega
  by_cases hneg : n < 0
  · go_enter Tryz.func13, Tryz.ntmps13
    go_wp2
    go_ret
    refine ⟨ret_int ?_, rfl⟩
    unfold around
    rw [if_pos hneg, ← Int.neg_tmod, Int.tmod_eq_emod_of_nonneg (by omega)]
  · go_enter Tryz.func13, Tryz.ntmps13
    go_wp2
    go_ret
    refine ⟨ret_int ?_, rfl⟩
    unfold around
    rw [if_neg (by omega)]

set_option maxHeartbeats 400000 in
theorem sameInts (l m : List Int) (v u : Value) (w : World) (hl : IntSl w v l) (hm : IntSl w u m) :
    Calls Tryz.prog 30 #[v, u] w fun e w' => e = .returned (.bool (decide (l = m))) ∧ ∃ n, w' = w.drewN n := by
  obtain ⟨ka, ca, rfl, hml⟩ := hl.open
  obtain ⟨kb, cb, rfl, hmm⟩ := hm.open
  by_cases hlen : l.length = m.length
  · have Hlen := Lib.hid hlen
    simp only [← hlen] at hm ⊢
    clear hlen hmm
    have e0 : ((l.length : Int) != (l.length : Int)) = false := by simp
    go_enter Tryz.func30, Tryz.ntmps30
    go_wp2
    go_loopw [5] (fun i wr => ∃ k n : Nat, k ≤ l.length ∧ i = .int .i64 k ∧ wr = w.drewN n ∧ (∀ j < k, l[j]? = m[j]?)) (fun i _ => l.length - (intOf i).toNat)
    case atStart => exact ⟨0, 0, by omega, rfl, rfl, fun j hj => absurd hj (by omega)⟩
    case round =>
      obtain ⟨k, n, hk, rfl, rfl, hE⟩ := hrel
      have HE := Lib.hid hE
      clear hE
      by_cases hlt : k < l.length
      · have hlt2 : k < m.length := by have := Hlen.out; omega
        obtain ⟨b, o, rfl, x0⟩ := hl.at (i := k) (x := l[k]) (by simp [hlt])
        obtain ⟨b', o', rfl, y0⟩ := hm.at (i := k) (x := m[k]) (by simp [hlt2])
        by_cases hx : l[k] = m[k]
        · have Hx := Lib.hid hx
          have hq : (l[k] != m[k]) = false := by simp [hx]
          clear hx
          go_wp2
          go_quiet (fail)
          go_wp2
          go_roundw
          case rel =>
            refine ⟨k + 1, n + nq, by omega, by go_num, rfl, ?_⟩
            intro j hj
            by_cases hjk : j = k
            · subst hjk
              simp [hlt, hlt2, Hx.out]
            · exact HE.out j (by omega)
          case measure => simp [intOf]; omega
        · have Hx := Lib.hid hx
          have hq : (l[k] != m[k]) = true := by simp [hx]
          clear hx
          go_wp2
          go_quiet (fail)
          go_wp2
          go_ret
          refine ⟨ret_bool ?_, n + nq, by simp⟩
          symm
          rw [decide_eq_false_iff_not]
          intro h
          exact Hx.out (by subst h; rfl)
      · have HA := Lib.hid (ext_of Hlen.out (fun j hj => HE.out j (by omega)))
        go_wp2
        go_ret
        refine ⟨ret_bool ?_, n, rfl⟩
        symm
        rw [decide_eq_true_iff, HA.out]
  · have e0 : ((l.length : Int) != (m.length : Int)) = true := by rw [bne_iff_ne]; omega
    have Hlen := Lib.hid hlen
    clear hlen
    go_enter Tryz.func30, Tryz.ntmps30
    go_wp2
    go_ret
    refine ⟨ret_bool ?_, 0, rfl⟩
    symm
    rw [decide_eq_false_iff_not]
    intro h
    exact Hlen.out (by rw [h])

set_option maxHeartbeats 400000 in
theorem has_any (l : List Int) (n : Int) (v : Value) (w : World) (hl : IntSl w v l) :
    Calls Tryz.prog 32 #[v, I n] w fun e w' => e = .returned (.bool (decide (n ∈ l))) ∧ w = w' := by
  obtain ⟨ka, ca, rfl, hml⟩ := hl.open
  go_enter Tryz.func32, Tryz.ntmps32
  go_wp2
  go_loop [5] (fun i => ∃ k : Nat, k ≤ l.length ∧ i = .int .i64 k ∧ (∀ j < k, l[j]? ≠ some n)) (fun i => l.length - (intOf i).toNat)
  case atStart => exact ⟨0, by omega, rfl, fun j hj => absurd hj (by omega)⟩
  case round =>
    obtain ⟨k, hk, rfl, hE⟩ := hrel
    have HE := Lib.hid hE
    clear hE
    by_cases hlt : k < l.length
    · obtain ⟨b, o, rfl, x0⟩ := hl.at (i := k) (x := l[k]) (by simp [hlt])
      by_cases hx : l[k] = n
      · have Hx := Lib.hid hx
        have hq : (l[k] == n) = true := by simp [hx]
        clear hx
        go_wp2
        go_ret
        refine ⟨ret_bool ?_, rfl⟩
        symm
        rw [decide_eq_true_iff, ← Hx.out]
        simp
      · have Hx := Lib.hid hx
        have hq : (l[k] == n) = false := by simp [hx]
        clear hx
        go_wp2
        go_round
        case rel =>
          refine ⟨k + 1, by omega, by go_num, ?_⟩
          intro j hj
          by_cases hjk : j = k
          · subst hjk
            simp [hlt, Hx.out]
          · exact HE.out j (by omega)
        case measure => simp [intOf]; omega
    · go_wp2
      go_ret
      refine ⟨ret_bool ?_, rfl⟩
      symm
      rw [decide_eq_false_iff_not]
      intro h
      obtain ⟨j, hj⟩ := List.getElem?_of_mem h
      exact HE.out j (by have := (List.getElem?_eq_some_iff.1 hj).1; omega) hj

end Go.Proofs.YtljmonfobefiiaaGreatDoor

/- The reference's projections, keys and comparisons of steps. -/
namespace Go.Proofs.YtljmonfobefiiaaGreatDoor
open Go.RowKit

theorem Below.then {w W w1 : World} (h : Below w.heap.size w W) (h1 : Below W.heap.size W w1) : Below w.heap.size w w1 := h.trans (h1.mono h.size)
theorem bcell {W w1 : World} (hb : Below W.heap.size W w1) : ∀ b o, b < W.heap.size → w1.cell? ⟨b, o, none⟩ = W.cell? ⟨b, o, none⟩ := fun b o h => hb.cell (p := ⟨b, o, none⟩) h

/-- Does step b consume a message that step a sent? -/
def feedsB (a b : Stp) : Bool := (b.ev.kind == 3 || b.ev.kind == 5 || b.ev.kind == 6) &&
  a.sent.any fun m => m.copy == 0 && m.node == b.ev.msg.node && m.handler == b.ev.msg.handler && m.count == b.ev.msg.count && m.index == b.ev.msg.index
def depB (a b : Stp) : Bool := a.ev.node == b.ev.node || (a.obs && b.obs) || feedsB a b || feedsB b a

set_option maxHeartbeats 400000 in
theorem msgKey (m : Msg) (w : World) : Calls Tryz.prog 37 #[.agg #[I m.node, I m.handler, I m.count, I m.index, I m.copy]] w fun e w' =>
    ∃ g, e = .returned (.slice (some ⟨g, 0, none⟩) 5 5) ∧ w.heap.size ≤ g ∧ w'.heap[g]? = some (.cells #[I m.node, I m.handler, I m.count, I m.index, I m.copy] 3 (0, 0)) ∧ Below w.heap.size w w' := by
  go_enter Tryz.func37, Tryz.ntmps37
  go_wp2
  go_ret
  exact ⟨_, rfl, by simp, heap_alloc2_new _ _ _, (by repeat (first | exact Below.refl _ _ | assumption | refine Below.drew ?_ | refine below_drewN ?_ _ | refine Below.alloc ?_ (by simp <;> omega) _ | refine Below.setCell ?_ (by simp <;> omega) _))⟩

set_option maxHeartbeats 400000 in
theorem questionKey (a0 a1 a2 a3 a4 : Int) (w : World) : Calls Tryz.prog 111 #[.agg #[I a0, I a1, I a2, I a3, I a4]] w fun e w' =>
    ∃ g, e = .returned (.slice (some ⟨g, 0, none⟩) 5 5) ∧ w.heap.size ≤ g ∧ w'.heap[g]? = some (.cells #[I a0, I a1, I a2, I a3, I a4] 3 (0, 0)) ∧ Below w.heap.size w w' := by
  go_enter Tryz.func111, Tryz.ntmps111
  go_wp2
  go_ret
  exact ⟨_, rfl, by simp, heap_alloc2_new _ _ _, (by repeat (first | exact Below.refl _ _ | assumption | refine Below.drew ?_ | refine below_drewN ?_ _ | refine Below.alloc ?_ (by simp <;> omega) _ | refine Below.setCell ?_ (by simp <;> omega) _))⟩

end Go.Proofs.YtljmonfobefiiaaGreatDoor

/- The reference's keys and comparison of steps. -/
namespace Go.Proofs.YtljmonfobefiiaaGreatDoor
open Go.RowKit

/-- Lexicographic comparison of lists of numbers. -/
def lexL : List Int → List Int → Int
  | [], [] => 0
  | [], _ :: _ => -1
  | _ :: _, [] => 1
  | a :: l, b :: m => if a < b then -1 else if b < a then 1 else lexL l m

theorem lexL_end (l m : List Int) (h : l = [] ∨ m = []) : lexL l m = if l.length < m.length then -1 else if m.length < l.length then 1 else 0 := by
  rcases h with rfl | rfl
  · cases m <;> simp [lexL]
  · cases l <;> simp [lexL]

set_option maxHeartbeats 400000 in
theorem lists_any (l m : List Int) (v u : Value) (w : World) (hl : IntSl w v l) (hm : IntSl w u m) :
    Calls Tryz.prog 75 #[v, u] w fun e w' => e = .returned (I (lexL l m)) ∧ ∃ n, w' = w.drewN n := by
  obtain ⟨ka, ca, rfl, hml⟩ := hl.open
  obtain ⟨kb, cb, rfl, hmm⟩ := hm.open
  go_enter Tryz.func75, Tryz.ntmps75
  go_wp2
  go_loopw [5] (fun i wr => ∃ k n : Nat, k ≤ l.length ∧ k ≤ m.length ∧ i = .int .i64 k ∧ wr = w.drewN n ∧ lexL l m = lexL (l.drop k) (m.drop k)) (fun i _ => l.length - (intOf i).toNat)
  case atStart => exact ⟨0, 0, by omega, by omega, rfl, rfl, by simp⟩
  case round =>
    obtain ⟨k, n, hk, hk2, rfl, rfl, hE⟩ := hrel
    have HE := Lib.hid hE
    clear hE
    by_cases hlt : k < l.length
    · have q1 : decide (k < l.length) = true := by simp [hlt]
      by_cases hlt2 : k < m.length
      · have q2 : decide (k < m.length) = true := by simp [hlt2]
        obtain ⟨b, o, rfl, x0⟩ := hl.at (i := k) (x := l[k]) (by simp [hlt])
        obtain ⟨b', o', rfl, y0⟩ := hm.at (i := k) (x := m[k]) (by simp [hlt2])
        have hd : lexL l m = if l[k] < m[k] then -1 else if m[k] < l[k] then 1 else lexL (l.drop (k + 1)) (m.drop (k + 1)) := by
          rw [HE.out, List.drop_eq_getElem_cons hlt, List.drop_eq_getElem_cons hlt2]; rfl
        have Hd := Lib.hid hd
        clear hd q1 q2
        by_cases h1 : l[k] < m[k]
        · have p1 : decide (l[k] < m[k]) = true := by simp [h1]
          have h1' := Lib.hid h1
          clear h1
          go_wp2
          go_quiet (fail)
          go_wp2
          go_ret
          exact ⟨ret_int (by rw [Hd.out, if_pos h1'.out]), n + nq, by simp⟩
        · have p1 : decide (l[k] < m[k]) = false := by simp [h1]
          have h1' := Lib.hid h1
          clear h1
          by_cases h2 : m[k] < l[k]
          · have p2 : decide (m[k] < l[k]) = true := by simp [h2]
            have hr := Lib.hid (show lexL l m = 1 by rw [Hd.out, if_neg h1'.out, if_pos h2])
            clear h2
            go_wp2
            go_quiet (fail)
            go_wp2
            revert nq
            intro n1
            go_quiet (fail)
            go_wp2
            go_ret
            exact ⟨ret_int hr.out.symm, n + n1 + nq, by simp⟩
          · have p2 : decide (m[k] < l[k]) = false := by simp [h2]
            have hr := Lib.hid (show lexL l m = lexL (l.drop (k + 1)) (m.drop (k + 1)) by rw [Hd.out, if_neg h1'.out, if_neg h2])
            clear h2
            go_wp2
            go_quiet (fail)
            go_wp2
            revert nq
            intro n1
            go_quiet (fail)
            go_wp2
            go_roundw
            case rel => exact ⟨k + 1, n + n1 + nq, by omega, by omega, by go_num, by first | rfl | simp, hr.out⟩
            case measure => simp [intOf]; omega
      · have q2 : decide (k < m.length) = false := by simp [hlt2]
        have hkm : k = m.length := by omega
        have hr : lexL l m = 1 := by
          rw [HE.out, lexL_end _ _ (.inr (by simp [hkm]))]
          simp only [List.length_drop]
          rw [if_neg (by omega), if_pos (by omega)]
        have Hr := Lib.hid hr
        have r1 : decide (l.length < m.length) = false := by simp; omega
        have r2 : decide (m.length < l.length) = true := by simp; omega
        clear hr hkm hlt hlt2
        go_wp2
        go_ret
        exact ⟨ret_int Hr.out.symm, n, rfl⟩
    · have q1 : decide (k < l.length) = false := by simp [hlt]
      have hkm : k = l.length := by omega
      by_cases h1 : l.length < m.length
      · have hr : lexL l m = -1 := by
          rw [HE.out, lexL_end _ _ (.inl (by simp [hkm]))]
          simp only [List.length_drop]
          rw [if_pos (by omega)]
        have Hr := Lib.hid hr
        have r1 : decide (l.length < m.length) = true := by simp [h1]
        clear hr hkm hlt h1
        go_wp2
        go_ret
        exact ⟨ret_int Hr.out.symm, n, rfl⟩
      · have hr : lexL l m = 0 := by
          rw [HE.out, lexL_end _ _ (.inl (by simp [hkm]))]
          simp only [List.length_drop]
          rw [if_neg (by omega), if_neg (by omega)]
        have Hr := Lib.hid hr
        have r1 : decide (l.length < m.length) = false := by simp [h1]
        have r2 : decide (m.length < l.length) = false := by simp; omega
        clear hr hkm hlt h1
        go_wp2
        go_ret
        exact ⟨ret_int Hr.out.symm, n, rfl⟩

set_option maxHeartbeats 800000 in
set_option maxRecDepth 100000 in
theorem eventKey (e : Ev) (w : World) : Calls Tryz.prog 110 #[.agg #[I e.kind, I e.node, I e.arg, I e.msg.node, I e.msg.handler, I e.msg.count, I e.msg.index, I e.msg.copy]] w fun r w' =>
    ∃ g c, r = .returned (.slice (some ⟨g, 0, none⟩) 8 c) ∧ w.heap.size ≤ g ∧ w'.ownsRow w.heap.size 3 1 (.slice (some ⟨g, 0, none⟩) 8 c) 8 (iv e.ints) ∧ Below w.heap.size w w' := by
  go_enter Tryz.func110, Tryz.ntmps110
  go_wp2
  go_region_held3 (fun w' => w'.cell? ⟨w.heap.size, 0, none⟩ = some (I e.kind) ∧ w'.cell? ⟨w.heap.size, 1, none⟩ = some (I e.node) ∧ w'.cell? ⟨w.heap.size, 2, none⟩ = some (I e.arg) ∧
    w'.cell? ⟨w.heap.size, 3, none⟩ = some (I e.msg.node) ∧ w'.cell? ⟨w.heap.size, 4, none⟩ = some (I e.msg.handler) ∧ w'.cell? ⟨w.heap.size, 5, none⟩ = some (I e.msg.count) ∧ w'.cell? ⟨w.heap.size, 6, none⟩ = some (I e.msg.index) ∧ w'.cell? ⟨w.heap.size, 7, none⟩ = some (I e.msg.copy)) (first | ((repeat' apply And.intro) <;> first | assumption | (simp [*]; done)) | go_keep)
    (first
      | (go_at_call 37; refine (msgKey ⟨e.msg.node, e.msg.handler, e.msg.count, e.msg.index, e.msg.copy⟩ _).mono ?_; rintro r w1 ⟨g, rfl, hg, hb, hB1⟩; have hk1 : Blk w1 w.heap.size #[I e.kind, I e.node, I e.arg, I e.msg.node, I e.msg.handler, I e.msg.count, I e.msg.index, I e.msg.copy] := Blk.kept (by first | exact Blk.new _ _ _ | exact (Blk.new _ _ _).alloc _) hB1 (by simp only [heap_drew, World.size_alloc]; omega); have hkc := hk1.cell; have hz1 := hB1.size; simp only [heap_drew, World.size_alloc] at hz1 hg; have hBw := Below.then (w := w) (by repeat (first | exact Below.refl _ _ | assumption | refine Below.drew ?_ | refine below_drewN ?_ _ | refine Below.alloc ?_ (by simp <;> omega) _ | refine Below.setCell ?_ (by simp <;> omega) _)) hB1)
      | (refine step_appB (by rfl) _ _ 22 (by rfl) 3 _ 1 8 Tryz.underlying22 info_int rfl (by omega) (by omega) w.heap.size (.slice (some ⟨w.heap.size + 1, 0, none⟩) 3 3) 3 [I e.kind, I e.node, I e.arg] (by rfl) (owns_of_block (cs := #[I e.kind, I e.node, I e.arg]) ((hB1.block _ (by simp only [heap_drew, World.size_alloc]; omega)).trans (heap_alloc2_new w _ _)) (by omega) rfl (by omega)) g 5 5 #[I e.msg.node, I e.msg.handler, I e.msg.count, I e.msg.index, I e.msg.copy] 3 (by rfl) hb rfl rfl (by omega) (by omega) (by first | omega | (simp only [World.size_alloc]; omega)) ?_
         intro g1 cap w2 hg1 hg2 hg3 hown1 hgr hB2
         have hkc2 := (hk1.grown hgr (by simp [Value.ownBlock] <;> omega)).cell
         have hBB := hBw.trans hB2)
      | (refine step_appB (by rfl) _ _ 22 (by rfl) 3 _ 1 8 Tryz.underlying22 info_int rfl (by omega) (by omega) w.heap.size (.slice (some ⟨w1.heap.size, 0, none⟩) 3 3) 3 [I e.kind, I e.node, I e.arg] (by rfl) (owns_of_block (cs := #[I e.kind, I e.node, I e.arg]) (heap_alloc_new w1 _) (by omega) rfl (by omega)) g 5 5 #[I e.msg.node, I e.msg.handler, I e.msg.count, I e.msg.index, I e.msg.copy] 3 (by rfl) ((Below.heap_alloc w1 _ _ (Array.getElem?_eq_some_iff.1 hb).1).trans hb) rfl rfl (by omega) (by omega) (by first | omega | (simp only [World.size_alloc]; omega)) ?_
         intro g1 cap w2 hg1 hg2 hg3 hown1 hgr hB2
         have hkc2 := ((hk1.alloc _).grown hgr (by simp [Value.ownBlock] <;> omega)).cell
         have hBB := (hBw.alloc (by omega) _).trans hB2))
  all_goals
    go_wp2
    go_ret
    exact ⟨g1, cap, rfl, hg1, hown1, hBB⟩

/-- The numbers by which a question is compared, and its answer. -/
def Ask.key (a : Ask) : List Int := [a.node, a.handler, a.count, a.kind, a.index, a.n]
def Stp.key (s : Stp) : List Int := s.ev.ints ++ s.asks.flatMap Ask.key

end Go.Proofs.YtljmonfobefiiaaGreatDoor

/- The reference's key of a step, and its comparison of steps. -/
namespace Go.Proofs.YtljmonfobefiiaaGreatDoor
open Go.RowKit

/-- What a call that makes blocks of its own alone leaves to a row. -/
theorem owns_below {w w1 : World} {B k n : Nat} {e : TypeId} {v : Value} {xs : List Value} (h : w.ownsRow B e k v n xs) (hB : Below w.heap.size w w1) : w1.ownsRow B e k v n xs :=
  h.kept (row := none) ⟨hB.os, hB.tape, hB.output, hB.size, fun k' hk _ => hB.block k' hk⟩ (by cases hv : v.ownBlock <;> simp)
theorem blk_of_heap {w : World} {g : Nat} {cs : Array Value} {t : TypeId} (h : w.heap[g]? = some (.cells cs t (0, 0))) : Blk w g cs := ⟨t, h⟩
theorem heap_lt {w : World} {g : Nat} {x : Obj} (h : w.heap[g]? = some x) : g < w.heap.size := (Array.getElem?_eq_some_iff.1 h).1

/-- What a region of a function with one box (just above w's blocks) may lean on: the box, and all that lay below it. -/
def Kp (w : World) (cs : Array Value) (X : World) : Prop := Blk X w.heap.size cs ∧ Below w.heap.size w X ∧ w.heap.size + 1 ≤ X.heap.size
theorem Kp.S {w X : World} {cs : Array Value} (h : Kp w cs X) : (∀ j, X.cell? ⟨w.heap.size, j, none⟩ = cs[j]?) ∧ (∀ b o, b < w.heap.size → X.cell? ⟨b, o, none⟩ = w.cell? ⟨b, o, none⟩) :=
  ⟨h.1.cell, fun b o hb => h.2.1.cell (p := ⟨b, o, none⟩) hb⟩
theorem Kp.drew {w X : World} {cs : Array Value} (h : Kp w cs X) : Kp w cs X.drew := ⟨h.1, h.2.1.drew, h.2.2⟩
theorem Kp.alloc {w X : World} {cs : Array Value} (h : Kp w cs X) (o : Obj) : Kp w cs (X.alloc o) := ⟨h.1.alloc o, h.2.1.alloc (by have := h.2.2; omega) o, by have := h.2.2; simp; omega⟩
theorem Kp.call {w X w1 : World} {cs : Array Value} (h : Kp w cs X) (hB : Below X.heap.size X w1) : Kp w cs w1 :=
  ⟨h.1.kept hB (by have := h.2.2; omega), h.2.1.trans (hB.mono (by have := h.2.2; omega)), by have := h.2.2; have := hB.size; omega⟩
theorem Kp.app {w X w1 : World} {cs : Array Value} (h : Kp w cs X) {row : Option Nat} (hg : X.grownBy w1 row) (hne : row ≠ some w.heap.size) (hB : Below (w.heap.size + 1) X w1) : Kp w cs w1 :=
  ⟨h.1.grown hg hne, h.2.1.trans (hB.mono (by omega)), by have := h.2.2; have := hB.size; omega⟩
theorem owns_ne {w : World} {B k n : Nat} {e : TypeId} {v : Value} {xs : List Value} (h : w.ownsRow B e k v n xs) {g : Nat} (hg : g < B) : v.ownBlock ≠ some g := by
  intro hv
  have := (h.lt g hv).1
  omega

set_option maxHeartbeats 1600000 in
set_option maxRecDepth 100000 in
theorem stepKey (s : Stp) (v : Value) (w : World) (hs : s.In w v) (hsm : s.asks.length ≤ 1000000) : Calls Tryz.prog 76 #[v] w fun r w' =>
    ∃ u, r = .returned u ∧ IntSl w' u s.key ∧ Below w.heap.size w w' := by
  obtain ⟨va, vs, rfl, hsa, hss⟩ := hs
  obtain ⟨ka, ca, rfl, hma⟩ := hsa.open
  simp only [Stp.val, Stp.row]
  go_enter Tryz.func76, Tryz.ntmps76
  go_wp2_with fail
  refine (eventKey s.ev _).mono ?_
  rintro e w1 ⟨g, c, rfl, hg, hown1, hB1⟩
  have hk1 : Blk w1 w.heap.size #[I s.ev.kind, I s.ev.node, I s.ev.arg, I s.ev.msg.node, I s.ev.msg.handler, I s.ev.msg.count, I s.ev.msg.index, I s.ev.msg.copy, .slice ka s.asks.length ca, .bool s.obs, vs] := (Blk.new _ _ _).kept hB1 (by simp)
  have hBw := Below.then (w := w) (by repeat (first | exact Below.refl _ _ | assumption | refine Below.drew ?_ | refine below_drewN ?_ _ | refine Below.alloc ?_ (by simp <;> omega) _ | refine Below.setCell ?_ (by simp <;> omega) _)) hB1
  have hz1 := hB1.size
  simp only [World.size_alloc] at hown1 hg hz1
  clear hB1
  go_wp2_with fail
  go_loopw [3, 4] (fun v i wr => ∃ (k m : Nat) (xs : List Int), k ≤ s.asks.length ∧ i = .int .i64 k ∧ m = 8 + k * 6 ∧ wr.ownsRow (w.heap.size + 1) 3 1 v m (iv xs) ∧ Hid (xs = s.ev.ints ++ (s.asks.take k).flatMap Ask.key) ∧
      Below w.heap.size w wr ∧ w.heap.size + 1 ≤ wr.heap.size ∧
      Blk wr w.heap.size #[I s.ev.kind, I s.ev.node, I s.ev.arg, I s.ev.msg.node, I s.ev.msg.handler, I s.ev.msg.count, I s.ev.msg.index, I s.ev.msg.copy, .slice ka s.asks.length ca, .bool s.obs, vs]) (fun _ i _ => s.asks.length - (intOf i).toNat)
  case atStart => exact ⟨0, 8, s.ev.ints, by omega, rfl, rfl, hown1, Lib.hid (by simp), hBw, hz1, hk1⟩
  case round =>
    obtain ⟨k, m, xs, hk, rfl, hm, hown, Hxs, hB, hz, hkb⟩ := hrel
    have Hm := Lib.hid hm
    have hmm : m ≤ 6000010 := by omega
    clear hm
    have hcb := hkb.cell
    by_cases hlt : k < s.asks.length
    · obtain ⟨b, o, rfl, x0, x1, x2, x3, x4, x5, x6⟩ := hsa.at (i := k) (x := s.asks[k]) (by simp [hlt])
      have hbl : b < w.heap.size := by simpa using World.block_lt_of_cell? _ _ x0
      have hlen : (iv xs).length = m := by have := hown.1; simpa using this
      have hkp : Kp w #[I s.ev.kind, I s.ev.node, I s.ev.arg, I s.ev.msg.node, I s.ev.msg.handler, I s.ev.msg.count, I s.ev.msg.index, I s.ev.msg.copy, .slice (some ⟨b, o, none⟩) s.asks.length ca, .bool s.obs, vs] wr := ⟨hkb, hB, hz⟩
      have hxs' : s.ev.ints ++ (s.asks.take (k + 1)).flatMap Ask.key = (s.ev.ints ++ (s.asks.take k).flatMap Ask.key) ++ s.asks[k].key := by
        rw [List.take_succ_eq_append_getElem hlt, List.flatMap_append, ← List.append_assoc]; simp
      have Hxs' := Lib.hid hxs'
      clear hxs' hlen hcb hkb
      have hS0 := hkp.S
      have hcb := hS0.1
      have hcw := hS0.2
      go_wp2_with fail
      go_region_held3 (fun w' => (∀ j, w'.cell? ⟨w.heap.size, j, none⟩ = (#[I s.ev.kind, I s.ev.node, I s.ev.arg, I s.ev.msg.node, I s.ev.msg.handler, I s.ev.msg.count, I s.ev.msg.index, I s.ev.msg.copy, .slice (some ⟨b, o, none⟩) s.asks.length ca, .bool s.obs, vs] : Array Value)[j]?) ∧ (∀ b o, b < w.heap.size → w'.cell? ⟨b, o, none⟩ = w.cell? ⟨b, o, none⟩))
        ((first | exact Kp.S hkp | exact Kp.S hkp.drew | exact Kp.S kp3 | exact Kp.S kp2 | exact Kp.S (kp2.alloc _) | exact Kp.S kp1 | exact Kp.S (kp1.alloc _) | exact Kp.S (hkp.alloc _).drew | exact Kp.S (hkp.alloc _)))
        (first
          | (go_at_call 111; refine (questionKey _ _ _ _ _ _).mono ?_; rintro e w1 ⟨gq, rfl, hgq, hbq, hB1⟩
             have kp1 : Kp w #[I s.ev.kind, I s.ev.node, I s.ev.arg, I s.ev.msg.node, I s.ev.msg.handler, I s.ev.msg.count, I s.ev.msg.index, I s.ev.msg.copy, .slice (some ⟨b, o, none⟩) s.asks.length ca, .bool s.obs, vs] w1 := by first | exact Kp.call hkp.drew hB1 | exact Kp.call (hkp.alloc _).drew hB1
             have ho1 : w1.ownsRow (w.heap.size + 1) 3 1 u3 m (iv xs) := by first | exact owns_below (w := wr.drew) hown hB1 | exact owns_below (w := (wr.alloc (.cells #[I s.asks[k].n] 3)).drew) (hown.alloc _) hB1
             have hz1 := hB1.size
             simp only [heap_drew, World.size_alloc] at hz1 hgq)
          | (refine step_appB (by rfl) _ _ 22 (by rfl) 3 _ 1 8 Tryz.underlying22 info_int rfl (by omega) (by omega) (w.heap.size + 1) u3 m (iv xs) (by rfl) (by first | exact ho1 | exact ho1.alloc _) gq 5 5 #[I s.asks[k].node, I s.asks[k].handler, I s.asks[k].count, I s.asks[k].kind, I s.asks[k].index] 3 (by rfl) (by first | exact hbq | exact (Below.heap_alloc w1 _ _ (heap_lt hbq)).trans hbq) rfl rfl (by omega) (by omega) (by first | omega | (simp only [World.size_alloc]; omega)) ?_
             intro g2 cap2 w2 hg1 hg2 hg3 ho2 hgr2 hB2
             have kp2 : Kp w #[I s.ev.kind, I s.ev.node, I s.ev.arg, I s.ev.msg.node, I s.ev.msg.handler, I s.ev.msg.count, I s.ev.msg.index, I s.ev.msg.copy, .slice (some ⟨b, o, none⟩) s.asks.length ca, .bool s.obs, vs] w2 := by first | exact kp1.app hgr2 (owns_ne ho1 (by omega)) hB2 | exact (kp1.alloc _).app hgr2 (owns_ne ho1 (by omega)) hB2
             have hz2 := hB2.size
             try simp only [World.size_alloc] at hz2)
          | (refine step_appB (by rfl) _ _ 22 (by rfl) 3 _ 1 8 Tryz.underlying22 info_int rfl (by omega) (by omega) (w.heap.size + 1) (.slice (some ⟨g2, 0, none⟩) (m + 5) cap2) (m + 5) _ (by rfl) (by first | exact ho2 | exact ho2.alloc _) _ 1 1 #[I s.asks[k].n] 3 (by rfl)
               (by first | exact heap_alloc_new w2 _ | exact (hgr2.block _ (by simp only [World.size_alloc]; omega) (fun e => by have := (ho1.lt _ e.symm).2; omega)).trans (heap_alloc_new w1 _) | exact (hgr2.block _ (by omega) (fun e => by have := (hown.lt _ e.symm).2; omega)).trans ((hB1.block _ (by simp only [heap_drew, World.size_alloc]; omega)).trans (heap_alloc_new wr _)))
               rfl rfl (by omega) (by omega) (by first | omega | (simp only [World.size_alloc]; omega)) ?_
             intro g3 cap3 w3 hg31 hg32 hg33 ho3 hgr3 hB3
             have kp3 : Kp w #[I s.ev.kind, I s.ev.node, I s.ev.arg, I s.ev.msg.node, I s.ev.msg.handler, I s.ev.msg.count, I s.ev.msg.index, I s.ev.msg.copy, .slice (some ⟨b, o, none⟩) s.asks.length ca, .bool s.obs, vs] w3 := by first | exact kp2.app hgr3 (owns_ne ho2 (by omega)) hB3 | exact (kp2.alloc _).app hgr3 (owns_ne ho2 (by omega)) hB3))
      all_goals
        go_wp2_with fail
        go_roundw
        case rel =>
          refine ⟨k + 1, m + 5 + 1, xs ++ s.asks[k].key, by omega, by go_num, by have := Hm.out; omega, ?_, ?_, kp3.2.1, kp3.2.2, kp3.1⟩
          · have : iv (xs ++ s.asks[k].key) = iv xs ++ #[I s.asks[k].node, I s.asks[k].handler, I s.asks[k].count, I s.asks[k].kind, I s.asks[k].index].toList ++ #[I s.asks[k].n].toList := by simp [iv, Ask.key]
            rw [this]
            exact ho3
          · exact Lib.hid (by rw [Hxs'.out, Hxs.out])
        case measure => simp [intOf]; omega
    · go_wp2
      go_ret
      refine ⟨_, rfl, ?_, hB⟩
      have hkk : k = s.asks.length := by omega
      have hxs : xs = s.key := by rw [Hxs.out, List.take_of_length_le (by omega)]; rfl
      have := Flat.of_owns hown
      unfold IntSl
      have hl : s.key.length = m := by rw [← hxs]; simpa [iv] using hown.1
      rw [hl, ← hxs]
      exact this

theorem compareStep (s t : Stp) (v u : Value) (w : World) (hs : s.In w v) (ht : t.In w u) (hsm : s.asks.length ≤ 1000000) (htm : t.asks.length ≤ 1000000) : Calls Tryz.prog 33 #[v, u] w fun r w' =>
    r = .returned (I (lexL s.key t.key)) ∧ Below w.heap.size w w' := by
  have hsk := hs
  have htk := ht
  obtain ⟨va, vs, rfl, hsa, hss⟩ := hs
  obtain ⟨ka, ca, rfl, hma⟩ := hsa.open
  obtain ⟨kb, cb, rfl, _⟩ := hss.open
  obtain ⟨ua, us, rfl, hta, hts⟩ := ht
  obtain ⟨kc, cc, rfl, _⟩ := hta.open
  obtain ⟨kd, cd, rfl, _⟩ := hts.open
  have c1 : ∀ W, Below w.heap.size w W → Calls Tryz.prog 76 #[s.val (.slice ka s.asks.length ca) (.slice kb s.sent.length cb)] W fun r w' => ∃ u, r = .returned u ∧ IntSl w' u s.key ∧ Below W.heap.size W w' := fun W h => stepKey s _ W (hsk.kept h (Nat.le_refl _)) hsm
  have c2 : ∀ W, Below w.heap.size w W → Calls Tryz.prog 76 #[t.val (.slice kc t.asks.length cc) (.slice kd t.sent.length cd)] W fun r w' => ∃ u, r = .returned u ∧ IntSl w' u t.key ∧ Below W.heap.size W w' := fun W h => stepKey t _ W (htk.kept h (Nat.le_refl _)) htm
  simp only [Stp.val, Stp.row] at c1 c2 ⊢
  have C1 := Lib.hid c1
  have C2 := Lib.hid c2
  clear c1 c2 hsk htk
  go_enter Tryz.func33, Tryz.ntmps33
  go_wp2_with fail
  have hA : Blk ((w.alloc (.cells #[I s.ev.kind, I s.ev.node, I s.ev.arg, I s.ev.msg.node, I s.ev.msg.handler, I s.ev.msg.count, I s.ev.msg.index, I s.ev.msg.copy, .slice ka s.asks.length ca, .bool s.obs, .slice kb s.sent.length cb] 53)).alloc (.cells #[I t.ev.kind, I t.ev.node, I t.ev.arg, I t.ev.msg.node, I t.ev.msg.handler, I t.ev.msg.count, I t.ev.msg.index, I t.ev.msg.copy, .slice kc t.asks.length cc, .bool t.obs, .slice kd t.sent.length cd] 53)) w.heap.size #[I s.ev.kind, I s.ev.node, I s.ev.arg, I s.ev.msg.node, I s.ev.msg.handler, I s.ev.msg.count, I s.ev.msg.index, I s.ev.msg.copy, .slice ka s.asks.length ca, .bool s.obs, .slice kb s.sent.length cb] := (Blk.new _ _ _).alloc _
  have hA' : Blk ((w.alloc (.cells #[I s.ev.kind, I s.ev.node, I s.ev.arg, I s.ev.msg.node, I s.ev.msg.handler, I s.ev.msg.count, I s.ev.msg.index, I s.ev.msg.copy, .slice ka s.asks.length ca, .bool s.obs, .slice kb s.sent.length cb] 53)).alloc (.cells #[I t.ev.kind, I t.ev.node, I t.ev.arg, I t.ev.msg.node, I t.ev.msg.handler, I t.ev.msg.count, I t.ev.msg.index, I t.ev.msg.copy, .slice kc t.asks.length cc, .bool t.obs, .slice kd t.sent.length cd] 53)) (w.heap.size + 1) #[I t.ev.kind, I t.ev.node, I t.ev.arg, I t.ev.msg.node, I t.ev.msg.handler, I t.ev.msg.count, I t.ev.msg.index, I t.ev.msg.copy, .slice kc t.asks.length cc, .bool t.obs, .slice kd t.sent.length cd] := blk_of_heap (heap_alloc2_new w _ _)
  have hac := hA.cell
  have hac' := hA'.cell
  go_region_held3 (fun w' => (∀ j, w'.cell? ⟨w.heap.size, j, none⟩ = (#[I s.ev.kind, I s.ev.node, I s.ev.arg, I s.ev.msg.node, I s.ev.msg.handler, I s.ev.msg.count, I s.ev.msg.index, I s.ev.msg.copy, .slice ka s.asks.length ca, .bool s.obs, .slice kb s.sent.length cb] : Array Value)[j]?) ∧ (∀ j, w'.cell? ⟨w.heap.size + 1, j, none⟩ = (#[I t.ev.kind, I t.ev.node, I t.ev.arg, I t.ev.msg.node, I t.ev.msg.handler, I t.ev.msg.count, I t.ev.msg.index, I t.ev.msg.copy, .slice kc t.asks.length cc, .bool t.obs, .slice kd t.sent.length cd] : Array Value)[j]?)) ((first | exact ⟨hac, hac'⟩ | exact ⟨hbc, hbc'⟩ | exact ⟨hcc, hcc'⟩ | exact ⟨fun j => hdc j, fun j => hdc' j⟩))
    (first
      | (go_at_call_of 76 (s.ev.kind); refine (C1.out _ (by repeat (first | exact Below.refl _ _ | assumption | refine Below.drew ?_ | refine below_drewN ?_ _ | refine Below.alloc ?_ (by simp <;> omega) _ | refine Below.setCell ?_ (by simp <;> omega) _))).mono ?_; rintro e w1 ⟨u1, rfl, hu1, hB1⟩; have hBB1 := Below.then (w := w) (by repeat (first | exact Below.refl _ _ | assumption | refine Below.drew ?_ | refine below_drewN ?_ _ | refine Below.alloc ?_ (by simp <;> omega) _ | refine Below.setCell ?_ (by simp <;> omega) _)) hB1; have hb := hA.drew.kept hB1 (by simp only [heap_drew, World.size_alloc]; omega); have hb' := hA'.drew.kept hB1 (by simp only [heap_drew, World.size_alloc]; omega); have hz1 := hB1.size; simp only [heap_drew, World.size_alloc] at hz1; have hbc := hb.cell; have hbc' := hb'.cell)
      | (go_at_call_of 76 (t.ev.kind); refine (C2.out _ hBB1).mono ?_; rintro e w2 ⟨u2, rfl, hu2, hB2⟩; have hBB2 := Below.then (w := w) hBB1 hB2; have hc := hb.kept hB2 (by omega); have hc' := hb'.kept hB2 (by omega); have hcc := hc.cell; have hcc' := hc'.cell)
      | (go_at_call 75; refine (lists_any s.key t.key _ _ _ (hu1.kept hB2 (Nat.le_refl _)) hu2).mono ?_; rintro e w3 ⟨rfl, n3, rfl⟩; have hdc := (hc.drewN n3).cell; have hdc' := (hc'.drewN n3).cell))
  go_wp2_with fail
  go_ret
  exact ⟨rfl, below_drewN hBB2 _⟩

end Go.Proofs.YtljmonfobefiiaaGreatDoor

/- The program's comparisons: package names. -/
namespace Go.Proofs.YtljmonfobefiiaaGreatDoor
open Go.RowKit

def cmpI (a b : Int) : Int := if a < b then -1 else if b < a then 1 else 0
/-- The first number that is not 0. -/
def orL : List Int → Int
  | [] => 0
  | a :: l => if a != 0 then a else orL l
/-- Pairs compared: the first that differ decide. -/
def numsL : List Int → Int
  | a :: b :: l => if cmpI a b != 0 then cmpI a b else numsL l
  | _ => 0

theorem lexL_cons (a b : Int) (l m : List Int) : lexL (a :: l) (b :: m) = if cmpI a b != 0 then cmpI a b else lexL l m := by
  simp only [lexL, cmpI]
  by_cases h1 : a < b
  · simp [h1]
  · by_cases h2 : b < a <;> simp [h1, h2]
theorem lexL_append : ∀ (l m l' m' : List Int), l.length = m.length → lexL (l ++ l') (m ++ m') = if lexL l m != 0 then lexL l m else lexL l' m'
  | [], [], l', m', _ => by simp [lexL]
  | a :: l, b :: m, l', m', h => by
    have ih := lexL_append l m l' m' (by simpa using h)
    rw [List.cons_append, List.cons_append, lexL_cons, lexL_cons, ih]
    by_cases h1 : cmpI a b = 0
    · simp [h1]
    · have : (cmpI a b != 0) = true := by simpa using h1
      simp [this]
  | [], _ :: _, _, _, h => by simp at h
  | _ :: _, [], _, _, h => by simp at h

theorem IntSl.of_heap {w : World} {g n c : Nat} {cs : Array Value} {t : TypeId} {l : List Int} (h : w.heap[g]? = some (.cells cs t (0, 0))) (hl : cs.toList = iv l) (hn : n = l.length) (hs : l.length ≤ 1000000) : IntSl w (.slice (some ⟨g, 0, none⟩) n c) l := by
  subst hn
  refine Flat.of_cells (by simp [iv]) (by omega) fun j u hu => ?_
  rw [Nat.zero_add, cell_of_row w g j cs t _ h, ← Array.getElem?_toList, hl]
  exact hu

set_option maxHeartbeats 400000 in
theorem isNaN (a : Int) (w : World) : Calls Tryz.prog 164 #[I a] w fun e w' => e = .returned (.bool false) ∧ w = w' := by
  have h : (a != a) = false := by simp
  go_enter Tryz.func164, Tryz.ntmps164
  go_wp2
  go_ret
  exact ⟨rfl, rfl⟩

set_option maxHeartbeats 400000 in
theorem cmpCompare (a b : Int) (w : World) : Calls Tryz.prog 125 #[I a, I b] w fun e w' => e = .returned (I (cmpI a b)) ∧ w = w' := by
  by_cases h1 : a < b
  · have p1 : decide (a < b) = true := by simp [h1]
    have hr := Lib.hid (show cmpI a b = -1 by simp [cmpI, h1])
    clear h1
    go_enter Tryz.func125, Tryz.ntmps125
    go_wp2_with (go_at_call 164; refine (isNaN _ _).mono ?_; rintro e w' ⟨rfl, rfl⟩)
    go_ret
    exact ⟨ret_int hr.out.symm, rfl⟩
  · have p1 : decide (a < b) = false := by simp [h1]
    by_cases h2 : b < a
    · have p2 : decide (b < a) = true := by simp [h2]
      have hr := Lib.hid (show cmpI a b = 1 by simp [cmpI, h1, h2])
      clear h1 h2
      go_enter Tryz.func125, Tryz.ntmps125
      go_wp2_with (go_at_call 164; refine (isNaN _ _).mono ?_; rintro e w' ⟨rfl, rfl⟩)
      go_ret
      exact ⟨ret_int hr.out.symm, rfl⟩
    · have p2 : decide (b < a) = false := by simp [h2]
      have hr := Lib.hid (show cmpI a b = 0 by simp [cmpI, h1, h2])
      clear h1 h2
      go_enter Tryz.func125, Tryz.ntmps125
      go_wp2_with (go_at_call 164; refine (isNaN _ _).mono ?_; rintro e w' ⟨rfl, rfl⟩)
      go_ret
      exact ⟨ret_int hr.out.symm, rfl⟩

set_option maxHeartbeats 400000 in
theorem cmpOr (l : List Int) (v : Value) (w : World) (hl : IntSl w v l) : Calls Tryz.prog 93 #[v] w fun e w' => e = .returned (I (orL l)) ∧ w = w' := by
  obtain ⟨ka, ca, rfl, hml⟩ := hl.open
  go_enter Tryz.func93, Tryz.ntmps93
  go_wp2
  go_loop [8] (fun i => ∃ k : Nat, k ≤ l.length ∧ i = .int .i64 k ∧ orL l = orL (l.drop k)) (fun i => l.length - (intOf i).toNat)
  case atStart => exact ⟨0, by omega, rfl, by simp⟩
  case round =>
    obtain ⟨k, hk, rfl, hE⟩ := hrel
    have HE := Lib.hid hE
    clear hE
    by_cases hlt : k < l.length
    · obtain ⟨b, o, rfl, x0⟩ := hl.at (i := k) (x := l[k]) (by simp [hlt])
      have Hd := Lib.hid (List.drop_eq_getElem_cons hlt)
      by_cases hx : l[k] = 0
      · have hq : (l[k] != 0) = false := by simp [hx]
        have hr := Lib.hid (show orL l = orL (l.drop (k + 1)) by rw [HE.out, Hd.out, orL, if_neg (by simp [hx])])
        clear hx
        go_wp2
        go_round
        case rel => exact ⟨k + 1, by omega, by go_num, hr.out⟩
        case measure => simp [intOf]; omega
      · have hq : (l[k] != 0) = true := by simp [hx]
        have hr := Lib.hid (show orL l = l[k] by rw [HE.out, Hd.out, orL, if_pos (by simp [hx])])
        clear hx
        go_wp2
        go_ret
        exact ⟨ret_int hr.out.symm, rfl⟩
    · have hr := Lib.hid (show orL l = 0 by rw [HE.out, List.drop_of_length_le (by omega)]; rfl)
      go_wp2
      go_ret
      exact ⟨ret_int hr.out.symm, rfl⟩

/-- Nothing but the tape's count has moved on. -/
def Quiet (w wr : World) : Prop := ∃ n, wr = w.drewN n
theorem Quiet.refl (w : World) : Quiet w w := ⟨0, rfl⟩
theorem Quiet.drewN {w wr : World} (h : Quiet w wr) (n : Nat) : Quiet w (wr.drewN n) := by
  obtain ⟨m, rfl⟩ := h
  exact ⟨m + n, by simp⟩
theorem Quiet.cell {w wr : World} (h : Quiet w wr) (a : Addr) : wr.cell? a = w.cell? a := by
  obtain ⟨m, rfl⟩ := h
  rfl
theorem Quiet.below {w wr : World} (h : Quiet w wr) (B : Nat) : Below B w wr := by
  obtain ⟨m, rfl⟩ := h
  exact below_drewN (Below.refl _ _) m

set_option maxHeartbeats 400000 in
theorem numbers_any (l : List Int) (v : Value) (w : World) (hl : IntSl w v l) (hs : l.length ≤ 1000000) : Calls Tryz.prog 95 #[v] w fun e w' => e = .returned (I (numsL l)) ∧ Quiet w w' := by
  obtain ⟨ka, ca, rfl, hml⟩ := hl.open
  go_enter Tryz.func95, Tryz.ntmps95
  go_wp2
  go_loopw [3] (fun i wr => ∃ k : Nat, k ≤ l.length + 1 ∧ i = .int .i64 k ∧ Quiet w wr ∧ numsL l = numsL (l.drop k)) (fun i _ => l.length + 2 - (intOf i).toNat)
  case atStart => exact ⟨0, by omega, rfl, Quiet.refl _, by simp⟩
  case round =>
    obtain ⟨k, hk, rfl, hQ, hE⟩ := hrel
    have HE := Lib.hid hE
    clear hE
    by_cases hlt : k + 1 < l.length
    · have hlt0 : k < l.length := by omega
      obtain ⟨b, o, rfl, x0⟩ := hl.at (i := k) (x := l[k]) (by simp [hlt0])
      obtain ⟨b', o', hbo, x1⟩ := hl.at (i := k + 1) (x := l[k + 1]) (by simp [hlt])
      simp at hbo
      obtain ⟨rfl, rfl⟩ := hbo
      have y0 := (hQ.cell ⟨b, o + k, none⟩).trans x0
      have y1 := (hQ.cell ⟨b, o + (k + 1), none⟩).trans x1
      have Hd := Lib.hid ((List.drop_eq_getElem_cons hlt0).trans (congrArg (l[k] :: ·) (List.drop_eq_getElem_cons hlt)))
      by_cases hx : cmpI l[k] l[k + 1] = 0
      · have hq : (cmpI l[k] l[k + 1] != 0) = false := by simp [hx]
        have hr := Lib.hid (show numsL l = numsL (l.drop (k + 2)) by rw [HE.out, Hd.out, numsL, if_neg (by simp [hx])])
        clear hx
        go_wp2
        go_quiet ((go_at_call 125; exact Calls.quiet_of_same ((cmpCompare _ _ _).mono fun _ _ h => ⟨h.1, h.2.symm⟩)))
        go_wp2
        go_roundw
        case rel => exact ⟨k + 2, by omega, by go_num, hQ.drewN nq, hr.out⟩
        case measure => simp [intOf]; omega
      · have hq : (cmpI l[k] l[k + 1] != 0) = true := by simp [hx]
        have hr := Lib.hid (show numsL l = cmpI l[k] l[k + 1] by rw [HE.out, Hd.out, numsL, if_pos (by simp [hx])])
        clear hx
        go_wp2
        go_quiet ((go_at_call 125; exact Calls.quiet_of_same ((cmpCompare _ _ _).mono fun _ _ h => ⟨h.1, h.2.symm⟩)))
        go_wp2
        go_ret
        exact ⟨ret_int hr.out.symm, hQ.drewN nq⟩
    · have hr := Lib.hid (show numsL l = 0 by
        rw [HE.out]
        have : (l.drop k).length ≤ 1 := by simp; omega
        match hd : l.drop k, this with
        | [], _ => rfl
        | [_], _ => rfl)
      go_wp2
      go_ret
      exact ⟨ret_int hr.out.symm, hQ⟩

theorem heap_alloc3_new (w : World) (A B C : Obj) : (((w.alloc A).alloc B).alloc C).heap[w.heap.size + 1 + 1]? = some C := by
  have h := heap_alloc_new ((w.alloc A).alloc B) C
  simpa only [World.size_alloc] using h
/-- As Kp, for two boxes. -/
def Kp2 (w : World) (cs ds : Array Value) (X : World) : Prop := Blk X w.heap.size cs ∧ Blk X (w.heap.size + 1) ds ∧ Below w.heap.size w X ∧ w.heap.size + 2 ≤ X.heap.size
theorem Kp2.S {w X : World} {cs ds : Array Value} (h : Kp2 w cs ds X) : (∀ j, X.cell? ⟨w.heap.size, j, none⟩ = cs[j]?) ∧ (∀ j, X.cell? ⟨w.heap.size + 1, j, none⟩ = ds[j]?) := ⟨h.1.cell, h.2.1.cell⟩
theorem Kp2.drew {w X : World} {cs ds : Array Value} (h : Kp2 w cs ds X) : Kp2 w cs ds X.drew := ⟨h.1, h.2.1, h.2.2.1.drew, h.2.2.2⟩
theorem Kp2.drewN {w X : World} {cs ds : Array Value} (h : Kp2 w cs ds X) (n : Nat) : Kp2 w cs ds (X.drewN n) := ⟨h.1, h.2.1, below_drewN h.2.2.1 n, h.2.2.2⟩
theorem Kp2.alloc {w X : World} {cs ds : Array Value} (h : Kp2 w cs ds X) (o : Obj) : Kp2 w cs ds (X.alloc o) := ⟨h.1.alloc o, h.2.1.alloc o, h.2.2.1.alloc (by have := h.2.2.2; omega) o, by have := h.2.2.2; simp; omega⟩
theorem Kp2.call {w X w1 : World} {cs ds : Array Value} (h : Kp2 w cs ds X) (hB : Below X.heap.size X w1) : Kp2 w cs ds w1 :=
  ⟨h.1.kept hB (by have := h.2.2.2; omega), h.2.1.kept hB (by have := h.2.2.2; omega), h.2.2.1.trans (hB.mono (by have := h.2.2.2; omega)), by have := h.2.2.2; have := hB.size; omega⟩
theorem Kp2.start (w : World) (cs ds : Array Value) (t : TypeId) : Kp2 w cs ds ((w.alloc (.cells cs t)).alloc (.cells ds t)) :=
  ⟨(Blk.new _ _ _).alloc _, ⟨t, heap_alloc2_new w _ _⟩, (by repeat (first | exact Below.refl _ _ | assumption | refine Below.drew ?_ | refine below_drewN ?_ _ | refine Below.alloc ?_ (by simp <;> omega) _ | refine Below.setCell ?_ (by simp <;> omega) _)), by simp⟩

set_option maxHeartbeats 400000 in
set_option maxRecDepth 100000 in
theorem compareCause (a0 a1 a2 b0 b1 b2 : Int) (w : World) : Calls Tryz.prog 94 #[.agg #[I a0, I a1, I a2], .agg #[I b0, I b1, I b2]] w fun e w' => e = .returned (I (lexL [a0, a1, a2] [b0, b1, b2])) ∧ Below w.heap.size w w' := by
  have hr := Lib.hid (show lexL [a0, a1, a2] [b0, b1, b2] = numsL [a0, b0, a1, b1, a2, b2] by simp only [numsL]; rw [lexL_cons, lexL_cons, lexL_cons]; rfl)
  go_enter Tryz.func94, Tryz.ntmps94
  go_wp2_with fail
  refine (numbers_any [a0, b0, a1, b1, a2, b2] _ _ (IntSl.of_heap (heap_alloc3_new w _ _ _) rfl rfl (by simp)) (by simp)).mono ?_
  rintro e w1 ⟨rfl, hQ⟩
  have hB := hQ.below w.heap.size
  go_wp2_with fail
  go_ret
  exact ⟨ret_int hr.out.symm, Below.trans (by repeat (first | exact Below.refl _ _ | assumption | refine Below.drew ?_ | refine below_drewN ?_ _ | refine Below.alloc ?_ (by simp <;> omega) _ | refine Below.setCell ?_ (by simp <;> omega) _)) hB⟩

end Go.Proofs.YtljmonfobefiiaaGreatDoor

/- The program's comparisons of messages, events, questions and steps. -/
namespace Go.Proofs.YtljmonfobefiiaaGreatDoor
open Go.RowKit

set_option maxHeartbeats 800000 in
set_option maxRecDepth 100000 in
theorem compareMsg (a0 a1 a2 a3 a4 b0 b1 b2 b3 b4 : Int) (w : World) : Calls Tryz.prog 165 #[.agg #[I a0, I a1, I a2, I a3, I a4], .agg #[I b0, I b1, I b2, I b3, I b4]] w fun e w' => e = .returned (I (lexL [a0, a1, a2, a3, a4] [b0, b1, b2, b3, b4])) ∧ Below w.heap.size w w' := by
  have hr := Lib.hid (show lexL [a0, a1, a2, a3, a4] [b0, b1, b2, b3, b4] = orL [lexL [a0, a1, a2] [b0, b1, b2], numsL [a3, b3, a4, b4]] by
    rw [show lexL [a0, a1, a2, a3, a4] [b0, b1, b2, b3, b4] = lexL ([a0, a1, a2] ++ [a3, a4]) ([b0, b1, b2] ++ [b3, b4]) from rfl, lexL_append [a0, a1, a2] [b0, b1, b2] [a3, a4] [b3, b4] rfl, lexL_cons a3, lexL_cons a4]
    simp only [orL, numsL]
    repeat' split
    all_goals simp_all [lexL])
  have hk0 := Kp2.start w #[I a0, I a1, I a2, I a3, I a4] #[I b0, I b1, I b2, I b3, I b4] 47
  have hac := hk0.1.cell
  have hac' := hk0.2.1.cell
  go_enter Tryz.func165, Tryz.ntmps165
  go_wp2_with fail
  go_region_held3 (fun w' => (∀ j, w'.cell? ⟨w.heap.size, j, none⟩ = (#[I a0, I a1, I a2, I a3, I a4] : Array Value)[j]?) ∧ (∀ j, w'.cell? ⟨w.heap.size + 1, j, none⟩ = (#[I b0, I b1, I b2, I b3, I b4] : Array Value)[j]?))
    ((first | exact Kp2.S hk0 | exact Kp2.S hk0.drew | exact Kp2.S (hk0.alloc _).drew | exact Kp2.S kp1 | exact Kp2.S (kp1.alloc _) | exact Kp2.S kp2 | exact Kp2.S (kp2.alloc _)))
    (first
      | (go_at_call 94; refine (compareCause a0 a1 a2 b0 b1 b2 _).mono ?_; rintro e w1 ⟨rfl, hB1⟩
         have kp1 : Kp2 w #[I a0, I a1, I a2, I a3, I a4] #[I b0, I b1, I b2, I b3, I b4] w1 := by first | exact Kp2.call hk0.drew hB1 | exact Kp2.call (hk0.alloc _).drew hB1)
      | (go_at_call 95; refine (numbers_any [a3, b3, a4, b4] _ _ (by first | exact IntSl.of_heap (heap_alloc_new w1 _) rfl rfl (by simp) | exact IntSl.of_heap ((hB1.block _ (by simp only [heap_drew, World.size_alloc]; omega)).trans (heap_alloc3_new w _ _ _)) rfl rfl (by simp)) (by simp)).mono ?_; rintro e w2 ⟨rfl, hQ2⟩
         have kp2 : Kp2 w #[I a0, I a1, I a2, I a3, I a4] #[I b0, I b1, I b2, I b3, I b4] w2 := by first | exact Kp2.call kp1 (hQ2.below _) | exact Kp2.call (kp1.alloc _) (hQ2.below _))
      | (go_at_call 93; refine (cmpOr [lexL [a0, a1, a2] [b0, b1, b2], numsL [a3, b3, a4, b4]] _ _ (IntSl.of_heap (heap_alloc_new w2 _) rfl rfl (by simp))).mono ?_; rintro e w3 ⟨rfl, rfl⟩))
  all_goals
    go_wp2_with fail
    go_ret
    exact ⟨ret_int hr.out.symm, (kp2.alloc _).2.2.1⟩

set_option maxHeartbeats 800000 in
set_option maxRecDepth 100000 in
theorem compareQuestion (a0 a1 a2 a3 a4 b0 b1 b2 b3 b4 : Int) (w : World) : Calls Tryz.prog 55 #[.agg #[I a0, I a1, I a2, I a3, I a4], .agg #[I b0, I b1, I b2, I b3, I b4]] w fun e w' => e = .returned (I (lexL [a0, a1, a2, a3, a4] [b0, b1, b2, b3, b4])) ∧ Below w.heap.size w w' := by
  have hr := Lib.hid (show lexL [a0, a1, a2, a3, a4] [b0, b1, b2, b3, b4] = orL [lexL [a0, a1, a2] [b0, b1, b2], numsL [a3, b3, a4, b4]] by
    rw [show lexL [a0, a1, a2, a3, a4] [b0, b1, b2, b3, b4] = lexL ([a0, a1, a2] ++ [a3, a4]) ([b0, b1, b2] ++ [b3, b4]) from rfl, lexL_append [a0, a1, a2] [b0, b1, b2] [a3, a4] [b3, b4] rfl, lexL_cons a3, lexL_cons a4]
    simp only [orL, numsL]
    repeat' split
    all_goals simp_all [lexL])
  have hk0 := Kp2.start w #[I a0, I a1, I a2, I a3, I a4] #[I b0, I b1, I b2, I b3, I b4] 58
  have hac := hk0.1.cell
  have hac' := hk0.2.1.cell
  go_enter Tryz.func55, Tryz.ntmps55
  go_wp2_with fail
  go_region_held3 (fun w' => (∀ j, w'.cell? ⟨w.heap.size, j, none⟩ = (#[I a0, I a1, I a2, I a3, I a4] : Array Value)[j]?) ∧ (∀ j, w'.cell? ⟨w.heap.size + 1, j, none⟩ = (#[I b0, I b1, I b2, I b3, I b4] : Array Value)[j]?))
    ((first | exact Kp2.S hk0 | exact Kp2.S hk0.drew | exact Kp2.S (hk0.alloc _).drew | exact Kp2.S kp1 | exact Kp2.S (kp1.alloc _) | exact Kp2.S kp2 | exact Kp2.S (kp2.alloc _)))
    (first
      | (go_at_call 94; refine (compareCause a0 a1 a2 b0 b1 b2 _).mono ?_; rintro e w1 ⟨rfl, hB1⟩
         have kp1 : Kp2 w #[I a0, I a1, I a2, I a3, I a4] #[I b0, I b1, I b2, I b3, I b4] w1 := by first | exact Kp2.call hk0.drew hB1 | exact Kp2.call (hk0.alloc _).drew hB1)
      | (go_at_call 95; refine (numbers_any [a3, b3, a4, b4] _ _ (by first | exact IntSl.of_heap (heap_alloc_new w1 _) rfl rfl (by simp) | exact IntSl.of_heap ((hB1.block _ (by simp only [heap_drew, World.size_alloc]; omega)).trans (heap_alloc3_new w _ _ _)) rfl rfl (by simp)) (by simp)).mono ?_; rintro e w2 ⟨rfl, hQ2⟩
         have kp2 : Kp2 w #[I a0, I a1, I a2, I a3, I a4] #[I b0, I b1, I b2, I b3, I b4] w2 := by first | exact Kp2.call kp1 (hQ2.below _) | exact Kp2.call (kp1.alloc _) (hQ2.below _))
      | (go_at_call 93; refine (cmpOr [lexL [a0, a1, a2] [b0, b1, b2], numsL [a3, b3, a4, b4]] _ _ (IntSl.of_heap (heap_alloc_new w2 _) rfl rfl (by simp))).mono ?_; rintro e w3 ⟨rfl, rfl⟩))
  all_goals
    go_wp2_with fail
    go_ret
    exact ⟨ret_int hr.out.symm, (kp2.alloc _).2.2.1⟩

set_option maxHeartbeats 800000 in
set_option maxRecDepth 100000 in
theorem compareEvent (a0 a1 a2 a3 a4 a5 a6 a7 b0 b1 b2 b3 b4 b5 b6 b7 : Int) (w : World) : Calls Tryz.prog 129 #[.agg #[I a0, I a1, I a2, I a3, I a4, I a5, I a6, I a7], .agg #[I b0, I b1, I b2, I b3, I b4, I b5, I b6, I b7]] w fun e w' => e = .returned (I (lexL [a0, a1, a2, a3, a4, a5, a6, a7] [b0, b1, b2, b3, b4, b5, b6, b7])) ∧ Below w.heap.size w w' := by
  have hr := Lib.hid (show lexL [a0, a1, a2, a3, a4, a5, a6, a7] [b0, b1, b2, b3, b4, b5, b6, b7] = orL [numsL [a0, b0, a1, b1, a2, b2], lexL [a3, a4, a5, a6, a7] [b3, b4, b5, b6, b7]] by
    rw [lexL_cons a0, lexL_cons a1, lexL_cons a2]
    simp only [orL, numsL]
    repeat' split
    all_goals simp_all)
  have hk0 := Kp2.start w #[I a0, I a1, I a2, I a3, I a4, I a5, I a6, I a7] #[I b0, I b1, I b2, I b3, I b4, I b5, I b6, I b7] 49
  have hac := hk0.1.cell
  have hac' := hk0.2.1.cell
  go_enter Tryz.func129, Tryz.ntmps129
  go_wp2_with fail
  go_region_held3 (fun w' => (∀ j, w'.cell? ⟨w.heap.size, j, none⟩ = (#[I a0, I a1, I a2, I a3, I a4, I a5, I a6, I a7] : Array Value)[j]?) ∧ (∀ j, w'.cell? ⟨w.heap.size + 1, j, none⟩ = (#[I b0, I b1, I b2, I b3, I b4, I b5, I b6, I b7] : Array Value)[j]?))
    ((first | exact Kp2.S hk0 | exact Kp2.S hk0.drew | exact Kp2.S (hk0.alloc _).drew | exact Kp2.S kp1 | exact Kp2.S (kp1.alloc _) | exact Kp2.S kp2 | exact Kp2.S (kp2.alloc _)))
    (first
      | (go_at_call 95; refine (numbers_any [a0, b0, a1, b1, a2, b2] _ _ (IntSl.of_heap (w := (((w.alloc _).alloc _).alloc _).drew) (heap_alloc3_new w _ _ _) rfl rfl (by simp)) (by simp)).mono ?_; rintro e w1 ⟨rfl, hQ1⟩
         have kp1 : Kp2 w #[I a0, I a1, I a2, I a3, I a4, I a5, I a6, I a7] #[I b0, I b1, I b2, I b3, I b4, I b5, I b6, I b7] w1 := Kp2.call (hk0.alloc _).drew (hQ1.below _))
      | (go_at_call 165; refine (compareMsg a3 a4 a5 a6 a7 b3 b4 b5 b6 b7 _).mono ?_; rintro e w2 ⟨rfl, hB2⟩
         have kp2 : Kp2 w #[I a0, I a1, I a2, I a3, I a4, I a5, I a6, I a7] #[I b0, I b1, I b2, I b3, I b4, I b5, I b6, I b7] w2 := Kp2.call kp1 hB2)
      | (go_at_call 93; refine (cmpOr [numsL [a0, b0, a1, b1, a2, b2], lexL [a3, a4, a5, a6, a7] [b3, b4, b5, b6, b7]] _ _ (IntSl.of_heap (heap_alloc_new w2 _) rfl rfl (by simp))).mono ?_; rintro e w3 ⟨rfl, rfl⟩))
  all_goals
    go_wp2_with fail
    go_ret
    exact ⟨ret_int hr.out.symm, (kp2.alloc _).2.2.1⟩

set_option maxHeartbeats 800000 in
set_option maxRecDepth 100000 in
theorem compareAsk (a b : Ask) (w : World) : Calls Tryz.prog 131 #[.agg #[I a.node, I a.handler, I a.count, I a.kind, I a.index, I a.arity, I a.n], .agg #[I b.node, I b.handler, I b.count, I b.kind, I b.index, I b.arity, I b.n]] w fun e w' => e = .returned (I (lexL a.key b.key)) ∧ Below w.heap.size w w' := by
  have hr := Lib.hid (show lexL a.key b.key = orL [lexL [a.node, a.handler, a.count, a.kind, a.index] [b.node, b.handler, b.count, b.kind, b.index], cmpI a.n b.n] by
    rw [show lexL a.key b.key = lexL ([a.node, a.handler, a.count, a.kind, a.index] ++ [a.n]) ([b.node, b.handler, b.count, b.kind, b.index] ++ [b.n]) from rfl, lexL_append [a.node, a.handler, a.count, a.kind, a.index] [b.node, b.handler, b.count, b.kind, b.index] [a.n] [b.n] rfl, lexL_cons a.n]
    simp only [orL]
    repeat' split
    all_goals simp_all [lexL])
  have hk0 := Kp2.start w #[I a.node, I a.handler, I a.count, I a.kind, I a.index, I a.arity, I a.n] #[I b.node, I b.handler, I b.count, I b.kind, I b.index, I b.arity, I b.n] 60
  have hac := hk0.1.cell
  have hac' := hk0.2.1.cell
  go_enter Tryz.func131, Tryz.ntmps131
  go_wp2_with fail
  go_region_held3 (fun w' => (∀ j, w'.cell? ⟨w.heap.size, j, none⟩ = (#[I a.node, I a.handler, I a.count, I a.kind, I a.index, I a.arity, I a.n] : Array Value)[j]?) ∧ (∀ j, w'.cell? ⟨w.heap.size + 1, j, none⟩ = (#[I b.node, I b.handler, I b.count, I b.kind, I b.index, I b.arity, I b.n] : Array Value)[j]?))
    ((first | exact Kp2.S hk0 | exact Kp2.S hk0.drew | exact Kp2.S (hk0.alloc _).drew | exact Kp2.S kp1 | exact Kp2.S (kp1.alloc _) | exact Kp2.S kp2 | exact Kp2.S (kp2.alloc _)))
    (first
      | (go_at_call 55; refine (compareQuestion a.node a.handler a.count a.kind a.index b.node b.handler b.count b.kind b.index _).mono ?_; rintro e w1 ⟨rfl, hB1⟩
         have kp1 : Kp2 w #[I a.node, I a.handler, I a.count, I a.kind, I a.index, I a.arity, I a.n] #[I b.node, I b.handler, I b.count, I b.kind, I b.index, I b.arity, I b.n] w1 := Kp2.call hk0.drew hB1)
      | (go_at_call 125; refine (cmpCompare a.n b.n _).mono ?_; rintro e w2 ⟨rfl, rfl⟩)
      | (go_at_call 93; refine (cmpOr [lexL [a.node, a.handler, a.count, a.kind, a.index] [b.node, b.handler, b.count, b.kind, b.index], cmpI a.n b.n] _ _ (IntSl.of_heap (heap_alloc_new w1 _) rfl rfl (by simp))).mono ?_; rintro e w3 ⟨rfl, rfl⟩))
  all_goals
    go_wp2_with fail
    go_ret
    exact ⟨ret_int hr.out.symm, (kp1.alloc _).2.2.1⟩

end Go.Proofs.YtljmonfobefiiaaGreatDoor

/- What the texts of the Tape seat took from those of the Trace seat. -/

/- Questions, answers, tapes: plain data, how they lie in memory, and questions as the keys of a map. -/
namespace Go.Proofs.YtljmonfobefiiaaGreatDoor
open Go.RowKit Go.Maps

def InI64 (n : Int) : Prop := -9223372036854775808 ≤ n ∧ n ≤ 9223372036854775807
structure Qn where
  node : Int
  handler : Int
  count : Int
  kind : Int
  index : Int
deriving DecidableEq
structure Ans where
  q : Qn
  n : Int
deriving DecidableEq
def Qn.ints (q : Qn) : List Int := [q.node, q.handler, q.count, q.kind, q.index]
def Ans.ints (a : Ans) : List Int := [a.q.node, a.q.handler, a.q.count, a.q.kind, a.q.index, a.n]
theorem Qn.ints_inj {a b : Qn} : a.ints = b.ints ↔ a = b := by
  constructor
  · intro h; cases a; cases b; simp [Qn.ints] at h; simp [h]
  · intro h; rw [h]
def Qn.val (q : Qn) : Value := .agg #[I q.node, I q.handler, I q.count, I q.kind, I q.index]
def Qn.ok (q : Qn) : Prop := ∀ n ∈ q.ints, InI64 n
def Ans.ok (a : Ans) : Prop := a.q.ok ∧ InI64 a.n

def AnsSl (w : World) (v : Value) (l : List Ans) : Prop := Flat w 6 v l.length (l.flatMap fun a => iv a.ints)
theorem AnsSl.kept {w w' : World} {v : Value} {l : List Ans} (h : AnsSl w v l) {B : Nat} (hb : Below B w w') (hB : w.heap.size ≤ B) : AnsSl w' v l := Flat.kept h hb hB
theorem AnsSl.open {w : World} {v : Value} {l : List Ans} (h : AnsSl w v l) : ∃ a c, v = .slice a l.length c ∧ l.length ≤ 9223372036854775807 := Flat.open h
theorem Ans.cells_length (x : Ans) : (iv x.ints).length = 6 := rfl
theorem AnsSl.at {w : World} {a : Option Addr} {n c : Nat} {l : List Ans} (h : AnsSl w (.slice a n c) l) {i : Nat} {x : Ans} (hi : l[i]? = some x) :
    ∃ b o, a = some ⟨b, o, none⟩ ∧ w.rangeAt b (o + i * 6) [I x.q.node, I x.q.handler, I x.q.count, I x.q.kind, I x.q.index, I x.n] := by
  obtain ⟨b, o, ha, hc⟩ := flat_at (f := fun a : Ans => iv a.ints) Ans.cells_length (by omega) h hi
  exact ⟨b, o, ha, fun j v hv => hc j v hv⟩
def EvSl (w : World) (v : Value) (l : List Ev) : Prop := Flat w 8 v l.length (l.flatMap fun a => iv a.ints)
theorem EvSl.kept {w w' : World} {v : Value} {l : List Ev} (h : EvSl w v l) {B : Nat} (hb : Below B w w') (hB : w.heap.size ≤ B) : EvSl w' v l := Flat.kept h hb hB
theorem EvSl.open {w : World} {v : Value} {l : List Ev} (h : EvSl w v l) : ∃ a c, v = .slice a l.length c ∧ l.length ≤ 9223372036854775807 := Flat.open h

/-! ### Questions as keys -/
theorem laidOut : laidOutB Tryz.prog = true := by kernel_rfl
theorem row_Question : (58 : TypeId) < Tryz.prog.types.size := of_decide_eq_true (by kernel_rfl)
theorem wide_Question : (match Tryz.prog.underlying 58 with | some (.array _ _) | some (.struct _) => true | _ => false) = true := by rw [Tryz.underlying58]
set_option maxRecDepth 100000 in
theorem law_Question : Keyed Tryz.prog 58 := Keyed.of_law (deep_law_laid laidOut (m := 3) (by omega) row_Question (by kernel_rfl) wide_Question)
theorem wf_of {n : Int} (h : InI64 n) : (Lit.int .i64 n).wf = true := WalkArith.wf_i64 h
theorem cells_Question : Tryz.prog.cellsOf 58 = 5 := by kernel_rfl
theorem cells_Cause : Tryz.prog.cellsOf 45 = 3 := by kernel_rfl
theorem cells_int : Tryz.prog.cellsOf 3 = 1 := by kernel_rfl
theorem keyType_Question : Tryz.prog.keyType 58 = true := by kernel_rfl
def qLit (q : Qn) : Lit := .string (keyBytes [.int .i64 q.node, .int .i64 q.handler, .int .i64 q.count, .int .i64 q.kind, .int .i64 q.index])
set_option maxRecDepth 100000 in
theorem keyQ (q : Qn) (h : q.ok) : keyOf Tryz.prog 58 q.val = some (qLit q) := by
  have h0 := wf_of (h q.node (by simp [Qn.ints]))
  have h1 := wf_of (h q.handler (by simp [Qn.ints]))
  have h2 := wf_of (h q.count (by simp [Qn.ints]))
  have h3 := wf_of (h q.kind (by simp [Qn.ints]))
  have h4 := wf_of (h q.index (by simp [Qn.ints]))
  obtain ⟨m, hm⟩ : ∃ m, Tryz.prog.types.size = m + 3 := ⟨Tryz.prog.types.size - 3, by kernel_rfl⟩
  unfold qLit keyOf
  simp only [Tryz.underlying58]
  rw [if_pos (by simp [keyType_Question, Qn.val, Value.formed, Tryz.underlying58, cells_Question]), hm]
  unfold Program.keyLits
  simp only [Tryz.underlying58, Qn.val, Value.cells]
  rw [if_pos ⟨by rw [cells_Question]; rfl, by kernel_rfl⟩]
  have e3 : ∀ (n : Int), (Lit.int .i64 n).wf = true → Tryz.prog.keyLits (m + 3) 3 [I n] = some [.int .i64 n] := fun n hn => by simp [Program.keyLits, Tryz.underlying3, hn]
  have e52 : Tryz.prog.keyLits (m + 3) 45 [I q.node, I q.handler, I q.count] = some [.int .i64 q.node, .int .i64 q.handler, .int .i64 q.count] := by
    unfold Program.keyLits
    simp only [Tryz.underlying45]
    rw [if_pos ⟨by rw [cells_Cause]; rfl, by kernel_rfl⟩]
    simp [cells_int, Program.keyLits, Tryz.underlying3, h0, h1, h2]
  simp [cells_Cause, cells_int, e3 _ h3, e3 _ h4, e52]
theorem qLit_inj {a b : Qn} (ha : a.ok) (hb : b.ok) (h : qLit a = qLit b) : a = b := by
  have := law_Question.inj (keyQ a ha) (h ▸ keyQ b hb)
  cases a; cases b
  simp [Qn.val] at this
  simp [this]
theorem qLit_key (q : Qn) (h : q.ok) : WideAt.IsKeyLit (qLit q) := law_Question.key (keyQ q h)

/-- The answer that a list gives to a question: of several the last one counts. -/
def getA (l : List Ans) (q : Qn) : Int := l.foldl (fun n a => if a.q = q then max 0 a.n else n) 0
theorem getA_snoc (l : List Ans) (a : Ans) (q : Qn) : getA (l ++ [a]) q = if a.q = q then max 0 a.n else getA l q := by simp [getA, List.foldl_append]
/-- The map's datum holds the positive answers of f. -/
structure MapA (D : DataW Unit) (f : Qn → Int) : Prop where
  tidy : Tidy D
  at_ : ∀ q : Qn, q.ok → D.atKey (qLit q) (.lit (.int .i64 0)) = .lit (.int .i64 (f q))
  has_ : ∀ q : Qn, q.ok → Maps.has D (qLit q) = decide (0 < f q)
  sz : ∃ ys : List Qn, ys.Nodup ∧ (∀ q, q ∈ ys ↔ (q.ok ∧ 0 < f q)) ∧ Maps.size D = ys.length
theorem MapA.empty : MapA (.map []) (fun _ => 0) := ⟨tidy_empty, fun q _ => rfl, fun q _ => by simp [Maps.has], [], List.nodup_nil, fun q => by simp, rfl⟩
theorem MapA.del {D : DataW Unit} {f : Qn → Int} (h : MapA D f) (q : Qn) (hq : q.ok) : MapA (D.del (qLit q)) (fun p => if q = p then 0 else f p) := by
  refine ⟨h.tidy.del _, fun p hp => ?_, fun p hp => ?_, ?_⟩
  · by_cases e : q = p
    · subst e
      simp [atKey_del_same]
    · rw [atKey_del_other (fun e2 => e (qLit_inj hp hq e2).symm), h.at_ p hp, if_neg e]
  · by_cases e : q = p
    · subst e
      simp [has_del_same]
    · rw [has_del_other (fun e2 => e (qLit_inj hp hq e2).symm), h.has_ p hp, if_neg e]
  · obtain ⟨ys, h1, h2, h3⟩ := h.sz
    have hs := size_del (k := qLit q) h.tidy
    rw [h.has_ q hq] at hs
    by_cases h0 : 0 < f q
    · have hm : q ∈ ys := (h2 q).2 ⟨hq, h0⟩
      refine ⟨ys.erase q, h1.erase q, fun p => ?_, ?_⟩
      · rw [h1.mem_erase_iff, h2 p]
        by_cases e : q = p
        · subst e; simp
        · simp only [if_neg e]
          exact ⟨fun x => x.2, fun x => ⟨fun e2 => e e2.symm, x⟩⟩
      · rw [List.length_erase_of_mem hm]
        simp [h0] at hs
        have := List.length_pos_of_mem hm
        omega
    · refine ⟨ys, h1, fun p => ?_, ?_⟩
      · rw [h2 p]
        by_cases e : q = p
        · subst e; simp [h0]
        · simp only [if_neg e]
      · simp [h0] at hs
        omega
theorem MapA.put {D : DataW Unit} {f : Qn → Int} (h : MapA D f) (q : Qn) (hq : q.ok) (n : Int) (hn : 0 < n) : MapA (D.put (qLit q) (.lit (.int .i64 n))) (fun p => if q = p then n else f p) := by
  refine ⟨h.tidy.put (qLit_key q hq) _, fun p hp => ?_, fun p hp => ?_, ?_⟩
  · by_cases e : q = p
    · subst e
      rw [atKey_put_same h.tidy.isMap (qLit_key q hq), if_pos rfl]
    · rw [atKey_put_other (fun e2 => e (qLit_inj hp hq e2).symm), h.at_ p hp, if_neg e]
  · by_cases e : q = p
    · subst e
      rw [has_put_same h.tidy.isMap (qLit_key q hq), if_pos rfl]
      simp [hn]
    · rw [has_put_other (fun e2 => e (qLit_inj hp hq e2).symm), h.has_ p hp, if_neg e]
  · obtain ⟨ys, h1, h2, h3⟩ := h.sz
    have hs := size_put (k := qLit q) h.tidy (DataW.lit (.int .i64 n))
    rw [h.has_ q hq] at hs
    by_cases h0 : 0 < f q
    · refine ⟨ys, h1, fun p => ?_, ?_⟩
      · rw [h2 p]
        by_cases e : q = p
        · subst e; simp [h0, hn]
        · simp only [if_neg e]
      · rw [hs]
        simp [h0, h3]
    · have hm : q ∉ ys := fun hm => h0 ((h2 q).1 hm).2
      refine ⟨q :: ys, List.nodup_cons.2 ⟨hm, h1⟩, fun p => ?_, ?_⟩
      · rw [List.mem_cons, h2 p]
        by_cases e : q = p
        · subst e; simp [hn, hq]
        · simp only [if_neg e]
          constructor
          · rintro (e2 | x)
            · exact absurd e2.symm e
            · exact x
          · exact .inr
      · rw [hs]
        simp [h0, h3]
theorem MapA.congr {D : DataW Unit} {f g : Qn → Int} (h : MapA D f) (e : ∀ q, f q = g q) : MapA D g := by
  have : f = g := funext e
  exact this ▸ h

end Go.Proofs.YtljmonfobefiiaaGreatDoor

/- The text of a story as plain functions on lists of bytes: numbers, names of events and questions, lines, the whole. No program in it. -/
namespace Go.Proofs.YtljmonfobefiiaaGreatDoor
open Go.RowKit

abbrev Str := List UInt8

/-! ### Numbers -/
/-- What a row of decimal digits spells behind the number acc. -/
def decVal (acc : Nat) : Str → Option Nat
  | [] => some acc
  | c :: r => if 48 ≤ c.toNat ∧ c.toNat ≤ 57 then decVal (acc * 10 + (c.toNat - 48)) r else none
/-- The number whose decimal form is s, at most 2^31 - 1. -/
def num (s : Str) : Option Nat :=
  match decVal 0 s with
  | some n => if n ≤ 2147483647 ∧ Lib.decDigits n = s then some n else none
  | none => none

theorem decVal_append (s t : Str) : ∀ acc, decVal acc (s ++ t) = (decVal acc s).bind (fun n => decVal n t) := by
  induction s with
  | nil => intro acc; rfl
  | cons c s ih =>
    intro acc
    simp only [List.cons_append, decVal]
    split
    · exact ih _
    · rfl
theorem decDigits_unfold (n : Nat) (h : ¬ n < 10) : Lib.decDigits n = Lib.decDigits (n / 10) ++ [UInt8.ofNat (48 + n % 10)] := by
  rw [Lib.decDigits, dif_neg h]
theorem u8_ofNat {n : Nat} (h : n < 256) : (UInt8.ofNat n).toNat = n := UInt8.toNat_ofNat_of_lt' h
theorem decVal_digits (n : Nat) : decVal 0 (Lib.decDigits n) = some n := by
  induction n using Nat.strongRecOn with
  | _ n ih =>
    by_cases h : n < 10
    · rw [Lib.decDigits_one h]
      simp only [decVal]
      rw [u8_ofNat (by omega), if_pos (by omega)]
      congr 1
      omega
    · rw [decDigits_unfold n h, decVal_append, ih (n / 10) (by omega)]
      simp only [Option.bind_some, decVal]
      rw [u8_ofNat (by omega), if_pos (by omega)]
      congr 1
      omega
theorem num_iff (s : Str) (n : Nat) : num s = some n ↔ n ≤ 2147483647 ∧ s = Lib.decDigits n := by
  unfold num
  constructor
  · intro h
    split at h
    · split at h
      · rename_i hh
        injection h with h
        subst h
        exact ⟨hh.1, hh.2.symm⟩
      · cases h
    · cases h
  · rintro ⟨h1, rfl⟩
    rw [decVal_digits]
    simp [h1]
theorem digits_ne (n : Nat) : Lib.decDigits n ≠ [] := by
  by_cases h : n < 10
  · rw [Lib.decDigits_one h]; simp
  · rw [decDigits_unfold n h]; simp
theorem digits_are (n : Nat) : ∀ c ∈ Lib.decDigits n, 48 ≤ c.toNat ∧ c.toNat ≤ 57 := by
  induction n using Nat.strongRecOn with
  | _ n ih =>
    intro c hc
    by_cases h : n < 10
    · rw [Lib.decDigits_one h] at hc
      have hc := List.mem_singleton.1 hc
      subst hc
      rw [u8_ofNat (by omega)]
      omega
    · rw [decDigits_unfold n h] at hc
      rcases List.mem_append.1 hc with hc | hc
      · exact ih (n / 10) (by omega) c hc
      · have hc := List.mem_singleton.1 hc
        subst hc
        rw [u8_ofNat (by omega)]
        omega
theorem num_nil : num [] = none := by
  cases h : num [] with
  | none => rfl
  | some n => exact absurd ((num_iff _ _).1 h).2.symm (digits_ne n)
/-- ParseUint with a bound, by the value of the digits. -/
theorem parseM_ok {M : Nat} (hM : M < 18446744073709551616) : ∀ (s : Str) (acc v : Nat), acc ≤ M → Lib.parseUintM M acc s = .ok v → decVal acc s = some v ∧ v ≤ M
  | [], acc, v, ha, h => by
    simp only [Lib.parseUintM] at h
    injection h with h
    subst h
    exact ⟨rfl, ha⟩
  | c :: s, acc, v, ha, h => by
    simp only [Lib.parseUintM] at h
    split at h
    · rename_i hd
      split at h
      · cases h
      · split at h
        · cases h
        · rename_i h1 h2
          simp only [decVal, if_pos hd]
          exact parseM_ok hM s _ v (by omega) h
    · cases h
theorem decVal_ge : ∀ (s : Str) (acc v : Nat), decVal acc s = some v → acc ≤ v
  | [], acc, v, h => by simp only [decVal] at h; injection h with h; omega
  | c :: s, acc, v, h => by
    simp only [decVal] at h
    split at h
    · have := decVal_ge s _ v h
      omega
    · cases h
theorem parseM_of {M : Nat} (hM : M < 18446744073709551610) : ∀ (s : Str) (acc v : Nat), decVal acc s = some v → v ≤ M → Lib.parseUintM M acc s = .ok v
  | [], acc, v, h, hv => by simp only [decVal] at h; injection h with h; subst h; rfl
  | c :: s, acc, v, h, hv => by
    simp only [decVal] at h
    split at h
    · rename_i hd
      have hg := decVal_ge s _ v h
      simp only [Lib.parseUintM, if_pos hd]
      rw [if_neg (by omega), if_neg (by omega)]
      exact parseM_of hM s _ v h hv
    · cases h
/-- What reader.number returns: whatever ParseUint gives, and whether the string is a number's own form. -/
def numberV (s : Str) : Nat := match Lib.parseUintB 31 s with
  | .ok u => u
  | .syntax => 0
  | .range => 2147483647
def isNum (s : Str) : Bool := (num s).isSome
theorem parseB_num {s : Str} {n : Nat} (h : num s = some n) : Lib.parseUintB 31 s = .ok n := by
  obtain ⟨h1, rfl⟩ := (num_iff _ _).1 h
  unfold Lib.parseUintB
  rw [if_neg (digits_ne n)]
  exact parseM_of (by decide) _ _ _ (decVal_digits n) h1
theorem numberV_num {s : Str} {n : Nat} (h : num s = some n) : numberV s = n := by
  unfold numberV
  rw [parseB_num h]
theorem parseB_ok {s : Str} {u : Nat} (h : Lib.parseUintB 31 s = .ok u) : u ≤ 2147483647 ∧ decide (Lib.decDigits u = s) = isNum s := by
  have h0 := h
  unfold Lib.parseUintB at h
  split at h
  · cases h
  · obtain ⟨h1, h2⟩ := parseM_ok (M := 2 ^ 31 - 1) (by decide) s 0 u (by omega) h
    refine ⟨h2, ?_⟩
    unfold isNum
    by_cases hs : Lib.decDigits u = s
    · rw [(num_iff s u).2 ⟨h2, hs.symm⟩]
      simp [hs]
    · cases hn : num s with
      | none => simp [hs]
      | some n =>
        have := parseB_num hn
        rw [h0] at this
        injection this with this
        subst this
        exact absurd ((num_iff _ _).1 hn).2.symm hs
theorem parseB_bad {s : Str} (h : ∀ u, Lib.parseUintB 31 s ≠ .ok u) : isNum s = false := by
  unfold isNum
  cases hn : num s with
  | none => rfl
  | some n => exact absurd (parseB_num hn) (h n)
theorem numberV_le (s : Str) : numberV s ≤ 2147483647 := by
  unfold numberV
  split
  · rename_i h
    exact (parseB_ok h).1
  · omega
  · omega

/-! ### Cutting -/
/-- Where the first of some separators begins, or the end. -/
def cutAt (seps : List Str) (s : Str) : Nat := seps.foldl (fun a p => if 0 ≤ Lib.index s p then min a (Lib.index s p).toNat else a) s.length
/-- All pieces between the bytes c. -/
def splitC (c : UInt8) : Str → List Str
  | [] => [[]]
  | x :: r => if x = c then [] :: splitC c r else match splitC c r with
    | h :: t => (x :: h) :: t
    | [] => [[x]]

/-! ### Names -/
/-- The numbers of a row of some length between dots. -/
def dotted? (s : Str) (many : Nat) : Option (List Nat) :=
  if (splitC 46 s).length = many then (splitC 46 s).mapM num else none
def kindOf (words : List Str) (w : Str) : Nat := (List.range words.length).foldl (fun k i => if 0 < i ∧ w = words.getD i [] then i else k) 0
def evWords : List Str := [[], [115, 116, 97, 114, 116], [105, 110, 118, 111, 107, 101], [100, 101, 108, 105, 118, 101, 114], [116, 105, 109, 101, 114], [100, 114, 111, 112], [100, 117, 112], [99, 114, 97, 115, 104]]
def quWords : List Str := [[], [100, 114, 97, 119], [116, 105, 99, 107], [107, 101, 101, 112]]
def evNil : Ev := ⟨0, 0, 0, ⟨0, 0, 0, 0, 0⟩⟩
def qnNil : Qn := ⟨0, 0, 0, 0, 0⟩
/-- The event whose text is s. -/
def parseEv (s : Str) : Option Ev :=
  let ws := splitC 32 s
  let k := kindOf evWords (ws.getD 0 [])
  if k = 0 ∨ ws.length ≠ (if k = 7 then 2 else 3) then none
  else match dotted? (ws.getD 1 []) 1 with
    | some [nd] =>
      if 12 ≤ nd then none
      else if k = 3 ∨ k = 5 ∨ k = 6 then
        match dotted? (ws.getD 2 []) 5 with
        | some [a, b, c, d, e] => if a < 12 ∧ b < 40 then some ⟨k, nd, 0, ⟨a, b, c, d, e⟩⟩ else none
        | _ => none
      else if k = 7 then some ⟨7, nd, 0, ⟨0, 0, 0, 0, 0⟩⟩
      else match dotted? (ws.getD 2 []) 1 with
        | some [r] => some ⟨k, nd, r, ⟨0, 0, 0, 0, 0⟩⟩
        | _ => none
    | _ => none
/-- The question whose text is s. -/
def parseQn (s : Str) : Option Qn :=
  let ws := splitC 32 s
  let k := kindOf quWords (ws.getD 0 [])
  if k = 0 ∨ ws.length ≠ 3 then none
  else match dotted? (ws.getD 1 []) 3, dotted? (ws.getD 2 []) 1 with
    | some [a, b, c], some [i] => if a < 12 ∧ b < 41 then some ⟨a, b, c, k, i⟩ else none
    | _, _ => none

/-! ### The reader -/
structure RS where
  rest : Str
  bad : Bool
def RS.skip (r : RS) (p : Str) : RS := ⟨Lib.trimPrefix r.rest p, r.bad⟩
def RS.has (r : RS) (p : Str) : Bool := Lib.hasPrefix r.rest p
def RS.must (r : RS) (c : Bool) : RS := ⟨r.rest, r.bad || !c⟩
def RS.text (r : RS) (seps : List Str) : Str := r.rest.take (cutAt seps r.rest)
def RS.until (r : RS) (seps : List Str) : RS := ⟨r.rest.drop (cutAt seps r.rest), r.bad⟩
def RS.number (r : RS) (s : Str) : RS := ⟨r.rest, r.bad || !isNum s⟩
/-- reader.ask: the question's parts are read one by one. -/
def RS.ask1 (r : RS) : RS := -- behind the question
  let r1 := r.until [[32, 61, 32], [93]]
  if (parseQn (r.text [[32, 61, 32], [93]])).isSome then (r1.skip [32, 61, 32]).must (r1.has [32, 61, 32]) else r1.must false
def RS.ask2 (r : RS) : RS := -- behind the answer's number
  let r2 := (r.until [[47], [93]]).number (r.text [[47], [93]])
  (r2.skip [47]).must (r2.has [47])
def RS.ask3 (r : RS) (n : Nat) : RS := -- behind the bracket
  let r3 := (r.until [[93]]).number (r.text [[93]])
  if n < numberV (r.text [[93]]) then (r3.skip [93]).must (r3.has [93]) else r3.must false
def RS.askN (r : RS) : Nat := numberV (r.ask1.text [[47], [93]])
def RS.askR (r : RS) : RS := r.ask1.ask2.ask3 r.askN
def RS.askA (r : RS) : Ans := ⟨(parseQn (r.text [[32, 61, 32], [93]])).getD qnNil, r.askN⟩
/-- The answers of a line, while they come. -/
def RS.asks : Nat → RS → List Ans × RS
  | 0, r => ([], r)
  | k + 1, r =>
    if r.bad then ([], r)
    else if r.has [32, 91] then
      let t := (r.skip [32, 91]).askR.asks k
      ((r.skip [32, 91]).askA :: t.1, t.2)
    else ([], r)
/-- The numbers behind ' after '. -/
def RS.afters (i : Nat) : Int → List Str → RS → RS
  | _, [], r => r
  | last, s :: l, r => RS.afters i (numberV s) l ((r.number s).must (decide (last < (numberV s : Int)) && decide (numberV s < i)))
def RS.tail (i : Nat) (r : RS) : RS :=
  let r1 := r.skip [32, 42]
  let r2 := r1.skip [32, 97, 102, 116, 101, 114, 32]
  let r3 := if r1.has [32, 97, 102, 116, 101, 114, 32] then ⟨[], (RS.afters i (-1) (splitC 44 r2.rest) r2).bad⟩ else r2
  r3.must (r3.rest == [])
def head (i : Nat) : Str := Lib.decDigits i ++ [58, 32]
def evSeps : List Str := [[32, 91], [32, 42], [32, 97, 102, 116, 101, 114, 32]]
def lineHead (i : Nat) (s : Str) : RS := let r : RS := ⟨s, false⟩; (r.skip (head i)).must (r.has (head i))
def lineEv (i : Nat) (s : Str) : Option Ev := parseEv ((lineHead i s).text evSeps)
def lineR (i : Nat) (s : Str) : RS := ((lineHead i s).until evSeps).must (lineEv i s).isSome
def lineA (i : Nat) (s : Str) : List Ans × RS := (lineR i s).asks (s.length + 1)
def lineEnd (i : Nat) (s : Str) : RS := RS.tail i (lineA i s).2
/-- reader.line: the event, the answers; none: the line is bad. -/
def line (i : Nat) (s : Str) : Option (Ev × List Ans) := if (lineEnd i s).bad then none else some ((lineEv i s).getD evNil, (lineA i s).1)
def lines : Nat → List Str → Option (List Ev × List Ans)
  | _, [] => some ([], [])
  | i, s :: l => match line i s with
    | none => none
    | some (e, a) => match lines (i + 1) l with
      | none => none
      | some (es, more) => some (e :: es, a ++ more)
/-- story.Parse: the events and answers of a story; ErrForm: .inr 1, ErrLimit: .inr 2 (of the numbers in api). -/
inductive PRes where
  | ok (e : List Ev) (a : List Ans)
  | form
  | limit
def story (s : Str) : PRes :=
  if 5000 < s.count 10 then .limit
  else if s = [] then .ok [] []
  else if s.getLast? = some 10 then
    match lines 0 (splitC 10 s.dropLast) with
    | some (e, a) => .ok e a
    | none => .form
  else .form

end Go.Proofs.YtljmonfobefiiaaGreatDoor
