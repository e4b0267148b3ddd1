/- Plain data of steps, and how they lie in memory: representation predicates for slices of integers and structs. -/
import Derived.WalkKit
import Derived.WalkSpells
import Derived.Lib.Hide
import Derived.Deep.QuietTactic
import Derived.Deep.AppendLies
namespace Go.Proofs.Ytjdhcdbjfbhogaa
open Go.RowKit

structure Msg where
  node : Int
  handler : Int
  count : Int
  index : Int
  copy : Int
deriving DecidableEq

structure Ev where
  kind : Int
  node : Int
  arg : Int
  msg : Msg
deriving DecidableEq

structure Ask where
  node : Int
  handler : Int
  count : Int
  kind : Int
  index : Int
  arity : Int
  n : Int
deriving DecidableEq

structure Stp where
  ev : Ev
  asks : List Ask
  obs : Bool
  sent : List Msg
deriving DecidableEq

abbrev I (n : Int) : Value := .int .i64 n

def Msg.ints (m : Msg) : List Int := [m.node, m.handler, m.count, m.index, m.copy]
def Ev.ints (e : Ev) : List Int := [e.kind, e.node, e.arg, e.msg.node, e.msg.handler, e.msg.count, e.msg.index, e.msg.copy]
def Ask.ints (a : Ask) : List Int := [a.node, a.handler, a.count, a.kind, a.index, a.arity, a.n]
theorem Ask.ints_inj {a b : Ask} : a.ints = b.ints ↔ a = b := by
  constructor
  · intro h; cases a; cases b; simp [Ask.ints] at h; simp [h]
  · intro h; rw [h]
theorem Msg.ints_inj {a b : Msg} : a.ints = b.ints ↔ a = b := by
  constructor
  · intro h; cases a; cases b; simp [Msg.ints] at h; simp [h]
  · intro h; rw [h]
theorem Ev.ints_inj {a b : Ev} : a.ints = b.ints ↔ a = b := by
  constructor
  · intro h; obtain ⟨_, _, _, ⟨_, _, _, _, _⟩⟩ := a; obtain ⟨_, _, _, ⟨_, _, _, _, _⟩⟩ := b; simp [Ev.ints] at h; simp [h]
  · intro h; rw [h]

def iv (l : List Int) : List Value := l.map I
def Msg.cells (m : Msg) : List Value := iv m.ints
def Ask.cells (m : Ask) : List Value := iv m.ints

theorem getElem?_flat {α β : Type} (f : α → List β) (k : Nat) (hk : ∀ x, (f x).length = k) : ∀ (l : List α) (i j : Nat) (x : α), l[i]? = some x → j < k → (l.flatMap f)[i * k + j]? = (f x)[j]?
  | [], i, j, x, h, _ => by simp at h
  | y :: l, 0, j, x, h, hj => by
    simp at h
    subst h
    simp only [List.flatMap_cons, Nat.zero_mul, Nat.zero_add]
    rw [List.getElem?_append_left (by rw [hk]; exact hj)]
  | y :: l, i + 1, j, x, h, hj => by
    have h' : l[i]? = some x := by simpa using h
    have ih := getElem?_flat f k hk l i j x h' hj
    simp only [List.flatMap_cons]
    have e : (i + 1) * k + j = k + (i * k + j) := by rw [Nat.add_mul]; omega
    rw [List.getElem?_append_right (by rw [hk, e]; omega), hk, e, Nat.add_sub_cancel_left]
    exact ih
theorem length_flat {α β : Type} (f : α → List β) (k : Nat) (hk : ∀ x, (f x).length = k) (l : List α) : (l.flatMap f).length = l.length * k := by
  induction l with
  | nil => simp
  | cons y l ih => simp [List.flatMap_cons, hk, Nat.add_mul, ih]; omega

/-- The slice value v of n elements, k cells each, reads in w as the cells xs. -/
def Flat (w : World) (k : Nat) (v : Value) (n : Nat) (xs : List Value) : Prop :=
  xs.length = n * k ∧ n ≤ 9223372036854775807 ∧ ∃ (a : Option Addr) (c : Nat), v = .slice a n c ∧ ∀ j u, xs[j]? = some u → ∃ b o, a = some ⟨b, o, none⟩ ∧ w.cell? ⟨b, o + j, none⟩ = some u

theorem Flat.kept {w w' : World} {k : Nat} {v : Value} {n : Nat} {xs : List Value} (h : Flat w k v n xs) {B : Nat} (hb : Below B w w') (hB : w.heap.size ≤ B) : Flat w' k v n xs := by
  obtain ⟨hl, hm, a, c, hv, hr⟩ := h
  refine ⟨hl, hm, a, c, hv, fun j u hu => ?_⟩
  obtain ⟨b, o, ha, hc⟩ := hr j u hu
  refine ⟨b, o, ha, ?_⟩
  have h2 := World.block_lt_of_cell? _ _ hc
  rw [hb.cell (p := ⟨b, o + j, none⟩) (by simp at h2 ⊢; omega)]
  exact hc
theorem Flat.open {w : World} {k : Nat} {v : Value} {n : Nat} {xs : List Value} (h : Flat w k v n xs) : ∃ a c, v = .slice a n c ∧ n ≤ 9223372036854775807 := by
  obtain ⟨_, hm, a, c, hv, _⟩ := h
  exact ⟨a, c, hv, hm⟩
theorem Flat.cells {w : World} {k : Nat} {a : Option Addr} {m c n : Nat} {xs : List Value} (h : Flat w k (.slice a m c) n xs) (hpos : 0 < xs.length) :
    ∃ b o, a = some ⟨b, o, none⟩ ∧ ∀ j u, xs[j]? = some u → w.cell? ⟨b, o + j, none⟩ = some u := by
  obtain ⟨_, _, a', c', hv, hr⟩ := h
  simp at hv
  obtain ⟨b, o, ha, _⟩ := hr 0 xs[0] (by simp [hpos])
  refine ⟨b, o, hv.1.trans ha, fun j u hu => ?_⟩
  obtain ⟨b', o', ha', hc⟩ := hr j u hu
  rw [ha] at ha'
  simp at ha'
  rw [ha'.1, ha'.2]
  exact hc
theorem Flat.nil (w : World) (k : Nat) (a : Option Addr) (c : Nat) : Flat w k (.slice a 0 c) 0 [] := ⟨by simp, by omega, a, c, rfl, fun j u h => by simp at h⟩
theorem Flat.of_cells {w : World} {k n c b o : Nat} {xs : List Value} (hl : xs.length = n * k) (hn : n ≤ 9223372036854775807) (h : ∀ j u, xs[j]? = some u → w.cell? ⟨b, o + j, none⟩ = some u) : Flat w k (.slice (some ⟨b, o, none⟩) n c) n xs :=
  ⟨hl, hn, _, _, rfl, fun j u hu => ⟨b, o, rfl, h j u hu⟩⟩
theorem Flat.of_owns {w : World} {B : Nat} {e : TypeId} {k : Nat} {v : Value} {n : Nat} {xs : List Value} (h : w.ownsRow B e k v n xs) : Flat w k v n xs := by
  refine ⟨h.1, ?_⟩
  rcases h.2 with ⟨rfl, rfl⟩ | ⟨g, cap, cur, rfl, _, hg, hn, hc, _, _⟩
  · exact ⟨by omega, none, 0, rfl, fun j u hu => by have := h.1; simp at this; subst this; simp at hu⟩
  · refine ⟨Nat.le_trans hn (by simpa [maxLen] using hc), _, _, rfl, fun j u hu => ⟨g, 0, rfl, ?_⟩⟩
    have := h.cells (g := g) rfl j u hu
    have hadd : (⟨g, 0, none⟩ : Addr).add j = ⟨g, 0 + j, none⟩ := by unfold Addr.add; split <;> simp_all
    rw [hadd] at this
    exact this

def IntSl (w : World) (v : Value) (l : List Int) : Prop := Flat w 1 v l.length (iv l)
def AskSl (w : World) (v : Value) (l : List Ask) : Prop := Flat w 7 v l.length (l.flatMap Ask.cells)
def MsgSl (w : World) (v : Value) (l : List Msg) : Prop := Flat w 5 v l.length (l.flatMap Msg.cells)

theorem IntSl.kept {w w' : World} {v : Value} {l : List Int} (h : IntSl w v l) {B : Nat} (hb : Below B w w') (hB : w.heap.size ≤ B) : IntSl w' v l := Flat.kept h hb hB
theorem AskSl.kept {w w' : World} {v : Value} {l : List Ask} (h : AskSl w v l) {B : Nat} (hb : Below B w w') (hB : w.heap.size ≤ B) : AskSl w' v l := Flat.kept h hb hB
theorem MsgSl.kept {w w' : World} {v : Value} {l : List Msg} (h : MsgSl w v l) {B : Nat} (hb : Below B w w') (hB : w.heap.size ≤ B) : MsgSl w' v l := Flat.kept h hb hB
theorem IntSl.open {w : World} {v : Value} {l : List Int} (h : IntSl w v l) : ∃ a c, v = .slice a l.length c ∧ l.length ≤ 9223372036854775807 := Flat.open h
theorem AskSl.open {w : World} {v : Value} {l : List Ask} (h : AskSl w v l) : ∃ a c, v = .slice a l.length c ∧ l.length ≤ 9223372036854775807 := Flat.open h
theorem MsgSl.open {w : World} {v : Value} {l : List Msg} (h : MsgSl w v l) : ∃ a c, v = .slice a l.length c ∧ l.length ≤ 9223372036854775807 := Flat.open h

theorem flat_at {w : World} {α : Type} {f : α → List Value} {k : Nat} (hk : ∀ x, (f x).length = k) (hk0 : 0 < k) {a : Option Addr} {m n c : Nat} {l : List α} (h : Flat w k (.slice a m c) n (l.flatMap f)) {i : Nat} {x : α} (hi : l[i]? = some x) :
    ∃ b o, a = some ⟨b, o, none⟩ ∧ ∀ j u, (f x)[j]? = some u → w.cell? ⟨b, o + i * k + j, none⟩ = some u := by
  have hlt := (List.getElem?_eq_some_iff.1 hi).1
  obtain ⟨b, o, ha, hc⟩ := h.cells (by rw [length_flat f k hk]; exact Nat.mul_pos (by omega) hk0)
  refine ⟨b, o, ha, fun j u hu => ?_⟩
  have hj : j < k := by have := (List.getElem?_eq_some_iff.1 hu).1; rw [hk] at this; exact this
  have := hc (i * k + j) u (by rw [getElem?_flat f k hk l i j x hi hj]; exact hu)
  rwa [← Nat.add_assoc] at this
theorem Ask.cells_length (x : Ask) : x.cells.length = 7 := rfl
theorem Msg.cells_length (x : Msg) : x.cells.length = 5 := rfl

theorem AskSl.at {w : World} {a : Option Addr} {n c : Nat} {l : List Ask} (h : AskSl w (.slice a n c) l) {i : Nat} {x : Ask} (hi : l[i]? = some x) :
    ∃ b o, a = some ⟨b, o, none⟩ ∧ w.cell? ⟨b, o + i * 7, none⟩ = some (I x.node) ∧ w.cell? ⟨b, o + i * 7 + 1, none⟩ = some (I x.handler) ∧ w.cell? ⟨b, o + i * 7 + 2, none⟩ = some (I x.count) ∧
      w.cell? ⟨b, o + i * 7 + 3, none⟩ = some (I x.kind) ∧ w.cell? ⟨b, o + i * 7 + 4, none⟩ = some (I x.index) ∧ w.cell? ⟨b, o + i * 7 + 5, none⟩ = some (I x.arity) ∧ w.cell? ⟨b, o + i * 7 + 6, none⟩ = some (I x.n) := by
  obtain ⟨b, o, ha, hc⟩ := flat_at Ask.cells_length (by omega) h hi
  exact ⟨b, o, ha, hc 0 _ rfl, hc 1 _ rfl, hc 2 _ rfl, hc 3 _ rfl, hc 4 _ rfl, hc 5 _ rfl, hc 6 _ rfl⟩
theorem MsgSl.at {w : World} {a : Option Addr} {n c : Nat} {l : List Msg} (h : MsgSl w (.slice a n c) l) {i : Nat} {x : Msg} (hi : l[i]? = some x) :
    ∃ b o, a = some ⟨b, o, none⟩ ∧ w.cell? ⟨b, o + i * 5, none⟩ = some (I x.node) ∧ w.cell? ⟨b, o + i * 5 + 1, none⟩ = some (I x.handler) ∧ w.cell? ⟨b, o + i * 5 + 2, none⟩ = some (I x.count) ∧
      w.cell? ⟨b, o + i * 5 + 3, none⟩ = some (I x.index) ∧ w.cell? ⟨b, o + i * 5 + 4, none⟩ = some (I x.copy) := by
  obtain ⟨b, o, ha, hc⟩ := flat_at Msg.cells_length (by omega) h hi
  exact ⟨b, o, ha, hc 0 _ rfl, hc 1 _ rfl, hc 2 _ rfl, hc 3 _ rfl, hc 4 _ rfl⟩
theorem IntSl.at {w : World} {a : Option Addr} {n c : Nat} {l : List Int} (h : IntSl w (.slice a n c) l) {i : Nat} {x : Int} (hi : l[i]? = some x) :
    ∃ b o, a = some ⟨b, o, none⟩ ∧ w.cell? ⟨b, o + i, none⟩ = some (I x) := by
  have hlt := (List.getElem?_eq_some_iff.1 hi).1
  obtain ⟨b, o, ha, hc⟩ := Flat.cells h (by simp [iv]; omega)
  exact ⟨b, o, ha, hc i _ (by simp [iv, hi])⟩

/-- The cells of a step. -/
def Stp.row (s : Stp) (va vs : Value) : List Value :=
  [I s.ev.kind, I s.ev.node, I s.ev.arg, I s.ev.msg.node, I s.ev.msg.handler, I s.ev.msg.count, I s.ev.msg.index, I s.ev.msg.copy, va, .bool s.obs, vs]
/-- The value of a step. -/
def Stp.val (s : Stp) (va vs : Value) : Value := .agg (s.row va vs).toArray

/-- In w the value v is the step s. -/
def Stp.In (w : World) (s : Stp) (v : Value) : Prop := ∃ va vs, v = s.val va vs ∧ AskSl w va s.asks ∧ MsgSl w vs s.sent
theorem Stp.In.kept {w w' : World} {s : Stp} {v : Value} (h : s.In w v) {B : Nat} (hb : Below B w w') (hB : w.heap.size ≤ B) : s.In w' v := by
  obtain ⟨va, vs, hv, h1, h2⟩ := h
  exact ⟨va, vs, hv, h1.kept hb hB, h2.kept hb hB⟩

/-- The cells xs are the steps l, one behind the other. -/
def StpCells (w : World) : List Stp → List Value → Prop
  | [], xs => xs = []
  | s :: l, xs => ∃ va vs ys, xs = s.row va vs ++ ys ∧ AskSl w va s.asks ∧ MsgSl w vs s.sent ∧ StpCells w l ys
theorem StpCells.kept {w w' : World} {B : Nat} (hb : Below B w w') (hB : w.heap.size ≤ B) : ∀ {l : List Stp} {xs : List Value}, StpCells w l xs → StpCells w' l xs
  | [], _, h => h
  | _ :: _, _, ⟨va, vs, ys, hx, h1, h2, h3⟩ => ⟨va, vs, ys, hx, h1.kept hb hB, h2.kept hb hB, h3.kept hb hB⟩
theorem StpCells.append {w : World} : ∀ {l m : List Stp} {xs ys : List Value}, StpCells w l xs → StpCells w m ys → StpCells w (l ++ m) (xs ++ ys)
  | [], _, xs, ys, h, h' => by
    have : xs = [] := h
    subst this
    exact h'
  | s :: l, m, xs, ys, ⟨va, vs, zs, hx, h1, h2, h3⟩, h' => ⟨va, vs, zs ++ ys, by rw [hx, List.append_assoc], h1, h2, h3.append h'⟩
theorem StpCells.one {w : World} {s : Stp} {va vs : Value} (h1 : AskSl w va s.asks) (h2 : MsgSl w vs s.sent) : StpCells w [s] (s.row va vs) := ⟨va, vs, [], by simp, h1, h2, rfl⟩
theorem StpCells.length {w : World} : ∀ {l : List Stp} {xs : List Value}, StpCells w l xs → xs.length = l.length * 11
  | [], xs, h => by
    have : xs = [] := h
    subst this
    rfl
  | s :: l, xs, ⟨va, vs, zs, hx, _, _, h3⟩ => by
    have := h3.length
    rw [hx, List.length_append, this]
    simp [Stp.row]
    omega
theorem StpCells.at {w : World} : ∀ {l : List Stp} {xs : List Value} {i : Nat} {s : Stp}, StpCells w l xs → l[i]? = some s →
    ∃ va vs, AskSl w va s.asks ∧ MsgSl w vs s.sent ∧ ∀ j u, (s.row va vs)[j]? = some u → xs[i * 11 + j]? = some u
  | [], _, _, _, _, h => by simp at h
  | t :: l, xs, 0, s, ⟨va, vs, zs, hx, h1, h2, h3⟩, h => by
    simp at h
    subst h
    refine ⟨va, vs, h1, h2, fun j u hu => ?_⟩
    have hj := (List.getElem?_eq_some_iff.1 hu).1
    rw [hx, Nat.zero_mul, Nat.zero_add, List.getElem?_append_left hj]
    exact hu
  | t :: l, xs, i + 1, s, ⟨va, vs, zs, hx, h1, h2, h3⟩, h => by
    have h' : l[i]? = some s := by simpa using h
    obtain ⟨va', vs', g1, g2, g3⟩ := h3.at h'
    refine ⟨va', vs', g1, g2, fun j u hu => ?_⟩
    have := g3 j u hu
    have e : (i + 1) * 11 + j = 11 + (i * 11 + j) := by omega
    have hl : (t.row va vs).length = 11 := rfl
    rw [hx, e, List.getElem?_append_right (by omega), hl, Nat.add_sub_cancel_left]
    exact this

/-- The slice value v reads, in w, as the steps l. -/
def StpSl (w : World) (v : Value) (l : List Stp) : Prop := ∃ xs, StpCells w l xs ∧ Flat w 11 v l.length xs
theorem StpSl.kept {w w' : World} {v : Value} {l : List Stp} (h : StpSl w v l) {B : Nat} (hb : Below B w w') (hB : w.heap.size ≤ B) : StpSl w' v l := by
  obtain ⟨xs, h1, h2⟩ := h
  exact ⟨xs, h1.kept hb hB, h2.kept hb hB⟩
theorem StpSl.open {w : World} {v : Value} {l : List Stp} (h : StpSl w v l) : ∃ a c, v = .slice a l.length c ∧ l.length ≤ 9223372036854775807 := by
  obtain ⟨xs, h1, h2⟩ := h
  exact h2.open
theorem StpSl.nil (w : World) (a : Option Addr) (c : Nat) : StpSl w (.slice a 0 c) [] := ⟨[], rfl, Flat.nil _ _ _ _⟩
/-- The step at i: where it lies. -/
theorem StpSl.at {w : World} {a : Option Addr} {n c : Nat} {l : List Stp} (h : StpSl w (.slice a n c) l) {i : Nat} {s : Stp} (hi : l[i]? = some s) :
    ∃ b o va vs, a = some ⟨b, o, none⟩ ∧ AskSl w va s.asks ∧ MsgSl w vs s.sent ∧
      w.cell? ⟨b, o + i * 11, none⟩ = some (I s.ev.kind) ∧ w.cell? ⟨b, o + i * 11 + 1, none⟩ = some (I s.ev.node) ∧ w.cell? ⟨b, o + i * 11 + 2, none⟩ = some (I s.ev.arg) ∧
      w.cell? ⟨b, o + i * 11 + 3, none⟩ = some (I s.ev.msg.node) ∧ w.cell? ⟨b, o + i * 11 + 4, none⟩ = some (I s.ev.msg.handler) ∧ w.cell? ⟨b, o + i * 11 + 5, none⟩ = some (I s.ev.msg.count) ∧
      w.cell? ⟨b, o + i * 11 + 6, none⟩ = some (I s.ev.msg.index) ∧ w.cell? ⟨b, o + i * 11 + 7, none⟩ = some (I s.ev.msg.copy) ∧ w.cell? ⟨b, o + i * 11 + 8, none⟩ = some va ∧
      w.cell? ⟨b, o + i * 11 + 9, none⟩ = some (.bool s.obs) ∧ w.cell? ⟨b, o + i * 11 + 10, none⟩ = some vs := by
  obtain ⟨xs, h1, h2⟩ := h
  obtain ⟨va, vs, g1, g2, g3⟩ := h1.at hi
  have hlt := (List.getElem?_eq_some_iff.1 hi).1
  obtain ⟨b, o, ha, hc⟩ := h2.cells (by rw [h1.length]; omega)
  have key : ∀ j u, (s.row va vs)[j]? = some u → w.cell? ⟨b, o + i * 11 + j, none⟩ = some u := fun j u hu => by
    have := hc _ u (g3 j u hu)
    rwa [← Nat.add_assoc] at this
  exact ⟨b, o, va, vs, ha, g1, g2, key 0 _ rfl, key 1 _ rfl, key 2 _ rfl, key 3 _ rfl, key 4 _ rfl, key 5 _ rfl, key 6 _ rfl, key 7 _ rfl, key 8 _ rfl, key 9 _ rfl, key 10 _ rfl⟩
theorem StpSl.of_owns {w W : World} {B0 B : Nat} {e : TypeId} {v : Value} {l : List Stp} {n : Nat} {xs : List Value} (h : w.ownsRow B e 11 v n xs) (hn : n = l.length) (hc : StpCells W l xs) (hb : Below B0 W w) (hB : W.heap.size ≤ B0) : StpSl w v l := by
  subst hn
  exact ⟨xs, hc.kept hb hB, Flat.of_owns h⟩

/-- A block that holds just these cells. -/
def Blk (w : World) (g : Nat) (cs : Array Value) : Prop := ∃ t, w.heap[g]? = some (.cells cs t (0, 0))
theorem Blk.cell {w : World} {g : Nat} {cs : Array Value} (h : Blk w g cs) (j : Nat) : w.cell? ⟨g, j, none⟩ = cs[j]? := by
  obtain ⟨t, h⟩ := h
  exact cell_of_row w g j cs t _ h
theorem Blk.frozen {w : World} {g : Nat} {cs : Array Value} (h : Blk w g cs) (j : Nat) : w.frozen? ⟨g, j, none⟩ = false := by
  obtain ⟨t, h⟩ := h
  exact frozen_of_row w g j cs t h
theorem Blk.kept {w w' : World} {g : Nat} {cs : Array Value} (h : Blk w g cs) {B : Nat} (hb : Below B w w') (hB : g < B) : Blk w' g cs := by
  obtain ⟨t, h⟩ := h
  exact ⟨t, (hb.block g hB).trans h⟩
theorem Blk.new (w : World) (cs : Array Value) (t : TypeId) : Blk (w.alloc (.cells cs t)) w.heap.size cs := ⟨t, heap_alloc_new w _⟩
theorem Blk.lt {w : World} {g : Nat} {cs : Array Value} (h : Blk w g cs) : g < w.heap.size := by
  obtain ⟨t, h⟩ := h
  exact (Array.getElem?_eq_some_iff.1 h).1
theorem Blk.alloc {w : World} {g : Nat} {cs : Array Value} (h : Blk w g cs) (o : Obj) : Blk (w.alloc o) g cs := by
  have hl := h.lt
  obtain ⟨t, h⟩ := h
  exact ⟨t, (Below.heap_alloc w o g hl).trans h⟩
theorem Blk.drewN {w : World} {g : Nat} {cs : Array Value} (h : Blk w g cs) (n : Nat) : Blk (w.drewN n) g cs := h
theorem Blk.drew {w : World} {g : Nat} {cs : Array Value} (h : Blk w g cs) : Blk w.drew g cs := h
theorem Blk.grown {w w' : World} {g : Nat} {cs : Array Value} (h : Blk w g cs) {row : Option Nat} (hg : w.grownBy w' row) (hne : row ≠ some g) : Blk w' g cs := by
  have hl := h.lt
  obtain ⟨t, h⟩ := h
  exact ⟨t, (hg.block g hl (fun e => hne e.symm)).trans h⟩
theorem Blk.setOther {w : World} {g : Nat} {cs : Array Value} (h : Blk w g cs) (a : Addr) (v : Value) (hne : a.block ≠ g) : Blk (w.setCell a v) g cs := by
  obtain ⟨t, h⟩ := h
  exact ⟨t, (heap_setCell_other w a g v (fun e => hne e.symm)).trans h⟩
theorem Blk.set {w : World} {g : Nat} {cs : Array Value} (h : Blk w g cs) (i : Nat) (v : Value) : Blk (w.setCell ⟨g, i, none⟩ v) g (cs.setIfInBounds i v) := by
  obtain ⟨t, h⟩ := h
  exact ⟨t, heap_setCell_same w g i cs t v h⟩
theorem below_drewN {B : Nat} {a w : World} (h : Below B a w) (n : Nat) : Below B a (w.drewN n) := ⟨h.os, h.tape, h.output, h.size, h.block⟩
theorem below_of_drewN {B : Nat} {a w : World} {n : Nat} (h : Below B (a.drewN n) w) : Below B a w := ⟨h.os, h.tape, h.output, h.size, h.block⟩

theorem ret_bool {a b : Bool} (h : a = b) : Ending.returned (.bool a) = .returned (.bool b) := by rw [h]
theorem ret_int {a b : Int} (h : a = b) : Ending.returned (I a) = .returned (I b) := by rw [h]

theorem ext_of {α : Type} {l m : List α} (hl : l.length = m.length) (h : ∀ j < l.length, l[j]? = m[j]?) : l = m := by
  apply List.ext_getElem?
  intro j
  by_cases hj : j < l.length
  · exact h j hj
  · rw [List.getElem?_eq_none (by omega), List.getElem?_eq_none (by omega)]

/-- append of m > 0 elements onto a row of the call's own. -/
theorem wpList_app {P : Program} {w : World} {ops : Array Oper} {rest : List Oper} {o : Oper} {a : Act} {Q : Exit → Act → World → Prop} (hgd : o.guard = none) (s x : Operand) (t : TypeId)
    (ho : o.op = .call { callee := .builtin .append, args := #[s, x], argTypes := #[t, t] })
    (e : TypeId) (z : Value) (k bytes : Nat) (ht : P.underlying t = some (.slice e)) (hinfo : (P.info? e).map (fun i => (i.zero, i.size, i.bytes)) = some (some z, k, bytes)) (hzs : z.cells.size = k) (hk : 0 < k) (hby : bytes ≤ 1000)
    (B : Nat) (v : Value) (n : Nat) (xs : List Value) (hs : a.eval s = v) (hown : w.ownsRow B e k v n xs)
    (b of m c : Nat) (news : List Value) (hx : a.eval x = .slice (some ⟨b, of, none⟩) m c) (hl : news.length = m * k) (hnews : ∀ j u, news[j]? = some u → w.cell? ⟨b, of + j, none⟩ = some u) (h1 : ∀ u ∈ news, u.oneCell' = true)
    (hm : 0 < m) (hbd : n + m ≤ 100000000) (hbase : B ≤ w.heap.size)
    (h : ∀ g cap w', B ≤ g → g < w'.heap.size → (v.ownBlock = some g ∨ g = w.heap.size) → w'.ownsRow B e k (.slice (some ⟨g, 0, none⟩) (n + m) cap) (n + m) (xs ++ news) → w.grownBy w' v.ownBlock → Below B w w' →
      wpList P ops Q rest (a.put o.dst (.slice (some ⟨g, 0, none⟩) (n + m) cap)) w') : wpList P ops Q (o :: rest) a w := by
  obtain ⟨i0, hi, hz0, hz1, hz2⟩ := info_parts hinfo
  refine wpList_append_lies w hgd s x t ho B e i0 z k bytes ht hi hz0 hz1 hz2 hzs hk v n xs hs hown ⟨b, of, none⟩ m c news hx hl (fun j u hu => ?_) h1 hm (by unfold maxLen; omega)
    (Nat.le_trans (Nat.mul_le_mul hbd hby) (by omega)) hbase w.heap.size rfl ?_
  · have hadd : (⟨b, of, none⟩ : Addr).add j = ⟨b, of + j, none⟩ := by unfold Addr.add; split <;> simp_all
    rw [hadd]
    exact hnews j u hu
  · intro g cap w' h2 h3 h4 h5
    have hB : Below B w w' := (Below.refl B w).grown h3 hbase (fun k' hk' => (hown.lt k' hk').1)
    refine h g cap w' ?_ h5 h4 h2 h3 hB
    rcases h4 with h4 | h4
    · exact (hown.lt g h4).1
    · omega

/-- append of what one block holds (what a composite literal has just laid). -/
theorem wpList_appB {P : Program} {w : World} {ops : Array Oper} {rest : List Oper} {o : Oper} {a : Act} {Q : Exit → Act → World → Prop} (hgd : o.guard = none) (s x : Operand) (t : TypeId)
    (ho : o.op = .call { callee := .builtin .append, args := #[s, x], argTypes := #[t, t] })
    (e : TypeId) (z : Value) (k bytes : Nat) (ht : P.underlying t = some (.slice e)) (hinfo : (P.info? e).map (fun i => (i.zero, i.size, i.bytes)) = some (some z, k, bytes)) (hzs : z.cells.size = k) (hk : 0 < k) (hby : bytes ≤ 1000)
    (B : Nat) (v : Value) (n : Nat) (xs : List Value) (hs : a.eval s = v) (hown : w.ownsRow B e k v n xs)
    (b m c : Nat) (cs : Array Value) (t' : TypeId) (hx : a.eval x = .slice (some ⟨b, 0, none⟩) m c) (hblk : w.heap[b]? = some (.cells cs t' (0, 0))) (hl : cs.size = m * k) (h1 : cs.toList.all Value.oneCell' = true)
    (hm : 0 < m) (hbd : n + m ≤ 100000000) (hbase : B ≤ w.heap.size)
    (h : ∀ g cap w', B ≤ g → g < w'.heap.size → (v.ownBlock = some g ∨ g = w.heap.size) → w'.ownsRow B e k (.slice (some ⟨g, 0, none⟩) (n + m) cap) (n + m) (xs ++ cs.toList) → w.grownBy w' v.ownBlock → Below B w w' →
      wpList P ops Q rest (a.put o.dst (.slice (some ⟨g, 0, none⟩) (n + m) cap)) w') : wpList P ops Q (o :: rest) a w :=
  wpList_app hgd s x t ho e z k bytes ht hinfo hzs hk hby B v n xs hs hown b 0 m c cs.toList hx (by simpa using hl)
    (fun j u hu => by rw [Nat.zero_add, cell_of_row w b j cs t' _ hblk]; simpa using hu) (List.all_eq_true.1 h1) hm hbd hbase h

/-- append of m > 0 elements onto a row of the call's own. -/
theorem step_app {P : Program} {w : World} {ops : Array Oper} {o : Oper} {a : Act} {K : Act → World → Prop} {Q : Exit → Act → World → Prop} {E : Prop} (hgd : o.guard = none) (s x : Operand) (t : TypeId)
    (ho : o.op = .call { callee := .builtin .append, args := #[s, x], argTypes := #[t, t] })
    (e : TypeId) (z : Value) (k bytes : Nat) (ht : P.underlying t = some (.slice e)) (hinfo : (P.info? e).map (fun i => (i.zero, i.size, i.bytes)) = some (some z, k, bytes)) (hzs : z.cells.size = k) (hk : 0 < k) (hby : bytes ≤ 1000)
    (B : Nat) (v : Value) (n : Nat) (xs : List Value) (hs : a.eval s = v) (hown : w.ownsRow B e k v n xs)
    (b of m c : Nat) (news : List Value) (hx : a.eval x = .slice (some ⟨b, of, none⟩) m c) (hl : news.length = m * k) (hnews : ∀ j u, news[j]? = some u → w.cell? ⟨b, of + j, none⟩ = some u) (h1 : ∀ u ∈ news, u.oneCell' = true)
    (hm : 0 < m) (hbd : n + m ≤ 100000000) (hbase : B ≤ w.heap.size)
    (h : ∀ g cap w', B ≤ g → g < w'.heap.size → (v.ownBlock = some g ∨ g = w.heap.size) → w'.ownsRow B e k (.slice (some ⟨g, 0, none⟩) (n + m) cap) (n + m) (xs ++ news) → w.grownBy w' v.ownBlock → Below B w w' →
      K (a.put o.dst (.slice (some ⟨g, 0, none⟩) (n + m) cap)) w') : if Region.wanted o (yielded ops a.tmps) = true then Oper.wp P o a w K Q else E := by
  obtain ⟨i0, hi, hz0, hz1, hz2⟩ := info_parts hinfo
  refine step_append_lies w hgd s x t ho B e i0 z k bytes ht hi hz0 hz1 hz2 hzs hk v n xs hs hown ⟨b, of, none⟩ m c news hx hl (fun j u hu => ?_) h1 hm (by unfold maxLen; omega)
    (Nat.le_trans (Nat.mul_le_mul hbd hby) (by omega)) hbase w.heap.size rfl ?_
  · have hadd : (⟨b, of, none⟩ : Addr).add j = ⟨b, of + j, none⟩ := by unfold Addr.add; split <;> simp_all
    rw [hadd]
    exact hnews j u hu
  · intro g cap w' h2 h3 h4 h5
    have hB : Below B w w' := (Below.refl B w).grown h3 hbase (fun k' hk' => (hown.lt k' hk').1)
    refine h g cap w' ?_ h5 h4 h2 h3 hB
    rcases h4 with h4 | h4
    · exact (hown.lt g h4).1
    · omega

/-- append of what one block holds (what a composite literal has just laid). -/
theorem step_appB {P : Program} {w : World} {ops : Array Oper} {o : Oper} {a : Act} {K : Act → World → Prop} {Q : Exit → Act → World → Prop} {E : Prop} (hgd : o.guard = none) (s x : Operand) (t : TypeId)
    (ho : o.op = .call { callee := .builtin .append, args := #[s, x], argTypes := #[t, t] })
    (e : TypeId) (z : Value) (k bytes : Nat) (ht : P.underlying t = some (.slice e)) (hinfo : (P.info? e).map (fun i => (i.zero, i.size, i.bytes)) = some (some z, k, bytes)) (hzs : z.cells.size = k) (hk : 0 < k) (hby : bytes ≤ 1000)
    (B : Nat) (v : Value) (n : Nat) (xs : List Value) (hs : a.eval s = v) (hown : w.ownsRow B e k v n xs)
    (b m c : Nat) (cs : Array Value) (t' : TypeId) (hx : a.eval x = .slice (some ⟨b, 0, none⟩) m c) (hblk : w.heap[b]? = some (.cells cs t' (0, 0))) (hl : cs.size = m * k) (h1 : cs.toList.all Value.oneCell' = true)
    (hm : 0 < m) (hbd : n + m ≤ 100000000) (hbase : B ≤ w.heap.size)
    (h : ∀ g cap w', B ≤ g → g < w'.heap.size → (v.ownBlock = some g ∨ g = w.heap.size) → w'.ownsRow B e k (.slice (some ⟨g, 0, none⟩) (n + m) cap) (n + m) (xs ++ cs.toList) → w.grownBy w' v.ownBlock → Below B w w' →
      K (a.put o.dst (.slice (some ⟨g, 0, none⟩) (n + m) cap)) w') : if Region.wanted o (yielded ops a.tmps) = true then Oper.wp P o a w K Q else E :=
  step_app hgd s x t ho e z k bytes ht hinfo hzs hk hby B v n xs hs hown b 0 m c cs.toList hx (by simpa using hl)
    (fun j u hu => by rw [Nat.zero_add, cell_of_row w b j cs t' _ hblk]; simpa using hu) (List.all_eq_true.1 h1) hm hbd hbase h

/-- A block that has just been laid is a row of the call's own. -/
theorem owns_of_block {w : World} {B g n k : Nat} {e : TypeId} {cs : Array Value} (h : w.heap[g]? = some (.cells cs e (0, 0))) (hB : B ≤ g) (hs : cs.size = n * k) (hn : n ≤ 1000000) : w.ownsRow B e k (.slice (some ⟨g, 0, none⟩) n n) n cs.toList :=
  ⟨by simpa using hs, .inr ⟨g, n, cs, rfl, hB, h, Nat.le_refl _, by unfold maxLen; omega, hs, by rw [List.take_of_length_le (by simp [hs])]⟩⟩

end Go.Proofs.Ytjdhcdbjfbhogaa
