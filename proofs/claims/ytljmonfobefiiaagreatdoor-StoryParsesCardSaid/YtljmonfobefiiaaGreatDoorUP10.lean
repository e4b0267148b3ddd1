import Derived.Test.YtljmonfobefiiaaGreatDoorUP5A
import Derived.Test.YtljmonfobefiiaaGreatDoorUN8
import Derived.Deep.CutRange
import Derived.Test.YtljmonfobefiiaaGreatDoorUR7
import Derived.Test.YtljmonfobefiiaaGreatDoorUS48
import Derived.Test.YtljmonfobefiiaaGreatDoorUTG18
/- slices.Equal of asks and of messages; trace.equal; slices.EqualFunc. -/
namespace Go.Proofs.YtljmonfobefiiaaGreatDoor
open Go.RowKit

end Go.Proofs.YtljmonfobefiiaaGreatDoor

/- trace.Equivalent. -/
namespace Go.Proofs.YtljmonfobefiiaaGreatDoor
open Go.RowKit

end Go.Proofs.YtljmonfobefiiaaGreatDoor

/- What the generator of runs holds in memory. -/
namespace Go.Proofs.YtljmonfobefiiaaGreatDoor
open Go.RowKit

/-- How often each node has run. -/
def CntAt (W : World) (g k : Nat) : Prop := ∃ (arr : Array Value) (c : Nat → Nat), Blk W g arr ∧ arr.size = 4 ∧ ∀ b < 4, arr[b]? = some (I (c b : Nat)) ∧ c b ≤ k
theorem CntAt.set {W : World} {g k : Nat} (h : CntAt W g k) (b x : Nat) (hx : x ≤ k + 1) : CntAt (W.setCell ⟨g, b, none⟩ (I (x : Nat))) g (k + 1) := by
  obtain ⟨arr, c, h1, h2, h3⟩ := h
  refine ⟨_, fun a => if a = b then x else c a, h1.set b _, by rw [Array.size_setIfInBounds]; exact h2, fun a ha => ?_⟩
  by_cases e : a = b
  · subst e
    rw [Array.getElem?_setIfInBounds_self_of_lt (by rw [h2]; exact ha)]
    simp [hx]
  · rw [Array.getElem?_setIfInBounds_ne (Ne.symm e), (h3 a ha).1]
    have := (h3 a ha).2
    simp [e]
    omega

/-- What a step's questions are: at most one, of two answers. -/
def AskOk (l : List Ask) : Prop := l.length ≤ 1 ∧ ∀ a ∈ l, a.arity = 2 ∧ 0 ≤ a.n ∧ a.n ≤ 1
theorem AskOk.nil : AskOk [] := ⟨by simp, fun a ha => by simp at ha⟩
/-- Between two rounds: g: the block of the counts; vo: the steps; vf: the messages in flight; P: the blocks of the steps' slices. -/
structure RSTr (g k : Nat) (w W : World) (vo vf : Value) (steps : List Stp) (xs : List Value) (fl : List Msg) (P : Nat → Prop) : Prop where
  cnt : CntAt W g k
  oo : W.ownsRow (g + 1) 53 11 vo steps.length xs
  of : W.ownsRow (g + 1) 47 5 vf fl.length (fl.flatMap Msg.cells)
  sc : StpCellsP P W steps xs
  dj : ∀ b, vo.ownBlock = some b → vf.ownBlock ≠ some b
  pl : ∀ b, P b → g < b ∧ b < W.heap.size ∧ vo.ownBlock ≠ some b ∧ vf.ownBlock ≠ some b
  gl : g < W.heap.size
  be : Below g w W
  ok : ∀ s ∈ steps, AskOk s.asks ∧ s.sent.length ≤ 2
  nf : fl.length ≤ 2 * k
theorem RSTr.start (w : World) (W : World) (hW : CntAt W w.heap.size 0) (hb : Below w.heap.size w W) (hg : w.heap.size < W.heap.size) : RSTr w.heap.size 0 w W (.slice none 0 0) (.slice none 0 0) [] [] [] (fun _ => False) where
  cnt := hW
  oo := World.ownsRow_nil _ _ _ _
  of := World.ownsRow_nil _ _ _ _
  sc := rfl
  dj := fun b h => by cases h
  pl := fun b h => h.elim
  gl := hg
  be := hb
  ok := fun s hs => by simp at hs
  nf := by simp
theorem own_lt {W : World} {B : Nat} {e : TypeId} {k : Nat} {v : Value} {n : Nat} {xs : List Value} (h : W.ownsRow B e k v n xs) {g : Nat} (hg : v.ownBlock = some g) : B ≤ g ∧ g < W.heap.size := h.lt g hg
theorem own_inP {W : World} {B : Nat} {e : TypeId} {k : Nat} {v : Value} {n : Nat} {xs : List Value} (_ : W.ownsRow B e k v n xs) {P : Nat → Prop} (hP : ∀ g, v.ownBlock = some g → P g) : InP P v := fun b o n c e => hP b (by rw [e]; rfl)

/-- The cells of a step that is being made. -/
def rowOf (e : Ev) (o : Bool) (va vs : Value) : Array Value := #[I e.kind, I e.node, I e.arg, I e.msg.node, I e.msg.handler, I e.msg.count, I e.msg.index, I e.msg.copy, va, .bool o, vs]

/-- Within a round that began at wr: the step's box lies at wr's size, the cause's box behind it; fb: the block that the messages in flight had. -/
structure RM (g k : Nat) (w wr : World) (fb : Option Nat) (cz : Array Value) (wc : World) (ev : Ev) (obs : Bool) (va : Value) (asks : List Ask) (vs : Value) (sent : List Msg) (vf : Value) (fl : List Msg) : Prop where
  sm : Same (fun b => b < wr.heap.size ∧ b ≠ g ∧ fb ≠ some b) wr wc
  cnt : CntAt wc g (k + 1)
  cs : Blk wc (wr.heap.size + 1) cz
  s : Blk wc wr.heap.size (rowOf ev obs va vs)
  be : Below g w wc
  gl : g < wr.heap.size
  sz : wr.heap.size + 2 ≤ wc.heap.size
  fo : wc.ownsRow (g + 1) 47 5 vf fl.length (fl.flatMap Msg.cells)
  so : wc.ownsRow (wr.heap.size + 2) 47 5 vs sent.length (sent.flatMap Msg.cells)
  ao : wc.ownsRow (wr.heap.size + 2) 60 7 va asks.length (asks.flatMap Ask.cells)
  fd : ∀ b, vf.ownBlock = some b → fb = some b ∨ wr.heap.size + 2 ≤ b
  sd : ∀ b, vs.ownBlock = some b → vf.ownBlock ≠ some b
  ad : ∀ b, va.ownBlock = some b → vf.ownBlock ≠ some b ∧ vs.ownBlock ≠ some b
theorem RM.kept {g k : Nat} {w wr wc wd : World} {fb : Option Nat} {cz : Array Value} {ev : Ev} {obs : Bool} {va vs vf : Value} {asks : List Ask} {sent fl : List Msg} (h : RM g k w wr fb cz wc ev obs va asks vs sent vf fl) (hb : Below wc.heap.size wc wd) :
    RM g k w wr fb cz wd ev obs va asks vs sent vf fl :=
  have hS : Same (fun b => b < wc.heap.size) wc wd := Same.below hb fun _ h => h
  have hz := h.sz
  have hg := h.gl
  { h with
    sm := h.sm.trans (hS.weak fun b hb => by omega)
    cnt := by obtain ⟨a, c, h1, h2⟩ := h.cnt; exact ⟨a, c, hS.blk h1 h1.lt, h2⟩
    cs := hS.blk h.cs h.cs.lt
    s := hS.blk h.s h.s.lt
    be := h.be.trans (hb.mono (by omega))
    sz := Nat.le_trans hz hb.size
    fo := hS.own h.fo fun g hg => (own_lt h.fo hg).2
    so := hS.own h.so fun g hg => (own_lt h.so hg).2
    ao := hS.own h.ao fun g hg => (own_lt h.ao hg).2 }
theorem RM.store {g k : Nat} {w wr wc : World} {fb : Option Nat} {cz : Array Value} {ev ev' : Ev} {obs obs' : Bool} {va vs vf : Value} {asks : List Ask} {sent fl : List Msg} (h : RM g k w wr fb cz wc ev obs va asks vs sent vf fl) (i : Nat) (x : Value)
    (he : (rowOf ev obs va vs).setIfInBounds i x = rowOf ev' obs' va vs) (hf : fb ≠ some wr.heap.size) : RM g k w wr fb cz (wc.setCell ⟨wr.heap.size, i, none⟩ x) ev' obs' va asks vs sent vf fl :=
  have hz := h.sz
  have hg := h.gl
  have hS : Same (fun b => b ≠ wr.heap.size) wc (wc.setCell ⟨wr.heap.size, i, none⟩ x) := (Same.refl _ wc).set _ _ (fun h => h rfl)
  { h with
    sm := h.sm.trans (hS.weak fun b hb => by omega)
    cnt := by obtain ⟨a, c, h1, h2⟩ := h.cnt; exact ⟨a, c, hS.blk h1 (by omega), h2⟩
    cs := hS.blk h.cs (by omega)
    s := by rw [← he]; exact h.s.set i x
    be := h.be.setCell (by simp; omega) _
    sz := by simpa using hz
    fo := hS.own h.fo fun b hb e => by
      subst e
      rcases h.fd _ hb with h1 | h1
      · exact hf h1
      · omega
    so := hS.own h.so fun b hb => by have := (own_lt h.so hb).1; omega
    ao := hS.own h.ao fun b hb => by have := (own_lt h.ao hb).1; omega }
/-- One more message in flight. -/
theorem RM.flight {g k : Nat} {w wr wc wd : World} {fb : Option Nat} {cz : Array Value} {ev : Ev} {obs : Bool} {va vs vf vf' : Value} {asks : List Ask} {sent fl fl' : List Msg} (h : RM g k w wr fb cz wc ev obs va asks vs sent vf fl)
    (ho : wd.ownsRow (g + 1) 47 5 vf' fl'.length (fl'.flatMap Msg.cells)) (hgr : wc.grownBy wd vf.ownBlock) (hn : ∀ b, vf'.ownBlock = some b → vf.ownBlock = some b ∨ b = wc.heap.size) (hb : Below g wc wd) (hf : ∀ b, fb = some b → b < wr.heap.size ∧ b ≠ g) :
    RM g k w wr fb cz wd ev obs va asks vs sent vf' fl' :=
  have hz := h.sz
  have hg := h.gl
  have hS : Same (fun b => b < wc.heap.size ∧ vf.ownBlock ≠ some b) wc wd := Same.grown hgr fun b hb => ⟨hb.1, fun e => hb.2 e.symm⟩
  have hk : ∀ b, (b < wr.heap.size + 2 ∧ fb ≠ some b) → b < wc.heap.size ∧ vf.ownBlock ≠ some b := fun b hb => ⟨by omega, fun e => by
    rcases h.fd b e with h1 | h1
    · exact hb.2 h1
    · omega⟩
  { h with
    sm := h.sm.trans (hS.weak fun b hb => hk b ⟨by omega, hb.2.2⟩)
    cnt := by obtain ⟨a, c, h1, h2⟩ := h.cnt; exact ⟨a, c, hS.blk h1 (hk g ⟨by omega, fun e => (hf g e).2 rfl⟩), h2⟩
    cs := hS.blk h.cs (hk _ ⟨by omega, fun e => by have := (hf _ e).1; omega⟩)
    s := hS.blk h.s (hk _ ⟨by omega, fun e => by have := (hf _ e).1; omega⟩)
    be := h.be.trans hb
    sz := Nat.le_trans hz hgr.size
    fo := ho
    so := hS.own h.so fun b hb => ⟨(own_lt h.so hb).2, h.sd b hb⟩
    ao := hS.own h.ao fun b hb => ⟨(own_lt h.ao hb).2, (h.ad b hb).1⟩
    fd := fun b hb => by
      rcases hn b hb with h1 | h1
      · exact h.fd b h1
      · exact .inr (by omega)
    sd := fun b hb e => by
      rcases hn b e with h1 | h1
      · exact h.sd b hb h1
      · have := (own_lt h.so hb).2; omega
    ad := fun b hb => ⟨fun e => by
      rcases hn b e with h1 | h1
      · exact (h.ad b hb).1 h1
      · have := (own_lt h.ao hb).2; omega, (h.ad b hb).2⟩ }
/-- One more message is sent; the slice has not been stored yet: then it is. -/
theorem RM.send {g k : Nat} {w wr wc wd : World} {fb : Option Nat} {cz : Array Value} {ev : Ev} {obs : Bool} {va vs vs' vf : Value} {asks : List Ask} {sent sent' fl : List Msg} (h : RM g k w wr fb cz wc ev obs va asks vs sent vf fl)
    (ho : wd.ownsRow (wr.heap.size + 2) 47 5 vs' sent'.length (sent'.flatMap Msg.cells)) (hgr : wc.grownBy wd vs.ownBlock) (hn : ∀ b, vs'.ownBlock = some b → vs.ownBlock = some b ∨ b = wc.heap.size) (hb : Below (wr.heap.size + 2) wc wd) (hf : ∀ b, fb = some b → b < wr.heap.size ∧ b ≠ g) :
    RM g k w wr fb cz (wd.setCell ⟨wr.heap.size, 10, none⟩ vs') ev obs va asks vs' sent' vf fl :=
  have hz := h.sz
  have hg := h.gl
  have hS0 : Same (fun b => b < wc.heap.size ∧ vs.ownBlock ≠ some b) wc wd := Same.grown hgr fun b hb => ⟨hb.1, fun e => hb.2 e.symm⟩
  have hS : Same (fun b => b < wc.heap.size ∧ vs.ownBlock ≠ some b ∧ b ≠ wr.heap.size) wc (wd.setCell ⟨wr.heap.size, 10, none⟩ vs') := (hS0.weak fun b hb => ⟨hb.1, hb.2.1⟩).set _ _ (fun h => h.2.2 rfl)
  have hlo : ∀ b, b < wr.heap.size + 2 → vs.ownBlock ≠ some b := fun b hb e => by have := (own_lt h.so e).1; omega
  { h with
    sm := h.sm.trans (hS.weak fun b hb => ⟨by omega, hlo b (by omega), by omega⟩)
    cnt := by obtain ⟨a, c, h1, h2⟩ := h.cnt; exact ⟨a, c, hS.blk h1 ⟨by omega, hlo _ (by omega), by omega⟩, h2⟩
    cs := hS.blk h.cs ⟨by omega, hlo _ (by omega), by omega⟩
    s := (hS0.blk h.s ⟨by omega, hlo _ (by omega)⟩).set 10 vs'
    be := (h.be.trans (hb.mono (by omega))).setCell (by simp; omega) _
    sz := by simp only [World.size_setCell]; exact Nat.le_trans hz hgr.size
    fo := hS.own h.fo fun b hb => ⟨(own_lt h.fo hb).2, fun e => h.sd b e hb, fun e => by
      subst e
      rcases h.fd _ hb with h1 | h1
      · have := (hf _ h1).1; omega
      · omega⟩
    so := own_set ho _ _ (by simp)
    ao := hS.own h.ao fun b hb => ⟨(own_lt h.ao hb).2, (h.ad b hb).2, by have := (own_lt h.ao hb).1; omega⟩
    sd := fun b hb e => by
      rcases hn b hb with h1 | h1
      · exact h.sd b h1 e
      · have := (own_lt h.fo e).2; omega
    ad := fun b hb => ⟨(h.ad b hb).1, fun e => by
      rcases hn b e with h1 | h1
      · exact (h.ad b hb).2 h1
      · have := (own_lt h.ao hb).2; omega⟩ }
/-- A question is answered. -/
theorem RM.ask {g k : Nat} {w wr wc wd : World} {fb : Option Nat} {cz : Array Value} {ev : Ev} {obs : Bool} {va va' vs vf : Value} {asks asks' : List Ask} {sent fl : List Msg} (h : RM g k w wr fb cz wc ev obs va asks vs sent vf fl)
    (ho : wd.ownsRow (wr.heap.size + 2) 60 7 va' asks'.length (asks'.flatMap Ask.cells)) (hgr : wc.grownBy wd va.ownBlock) (hn : ∀ b, va'.ownBlock = some b → va.ownBlock = some b ∨ b = wc.heap.size) (hb : Below (wr.heap.size + 2) wc wd) (hf : ∀ b, fb = some b → b < wr.heap.size ∧ b ≠ g) :
    RM g k w wr fb cz (wd.setCell ⟨wr.heap.size, 8, none⟩ va') ev obs va' asks' vs sent vf fl :=
  have hz := h.sz
  have hg := h.gl
  have hS0 : Same (fun b => b < wc.heap.size ∧ va.ownBlock ≠ some b) wc wd := Same.grown hgr fun b hb => ⟨hb.1, fun e => hb.2 e.symm⟩
  have hS : Same (fun b => b < wc.heap.size ∧ va.ownBlock ≠ some b ∧ b ≠ wr.heap.size) wc (wd.setCell ⟨wr.heap.size, 8, none⟩ va') := (hS0.weak fun b hb => ⟨hb.1, hb.2.1⟩).set _ _ (fun h => h.2.2 rfl)
  have hlo : ∀ b, b < wr.heap.size + 2 → va.ownBlock ≠ some b := fun b hb e => by have := (own_lt h.ao e).1; omega
  { h with
    sm := h.sm.trans (hS.weak fun b hb => ⟨by omega, hlo b (by omega), by omega⟩)
    cnt := by obtain ⟨a, c, h1, h2⟩ := h.cnt; exact ⟨a, c, hS.blk h1 ⟨by omega, hlo _ (by omega), by omega⟩, h2⟩
    cs := hS.blk h.cs ⟨by omega, hlo _ (by omega), by omega⟩
    s := (hS0.blk h.s ⟨by omega, hlo _ (by omega)⟩).set 8 va'
    be := (h.be.trans (hb.mono (by omega))).setCell (by simp; omega) _
    sz := by simp only [World.size_setCell]; exact Nat.le_trans hz hgr.size
    fo := hS.own h.fo fun b hb => ⟨(own_lt h.fo hb).2, fun e => (h.ad b e).1 hb, fun e => by
      subst e
      rcases h.fd _ hb with h1 | h1
      · have := (hf _ h1).1; omega
      · omega⟩
    so := hS.own h.so fun b hb => ⟨(own_lt h.so hb).2, fun e => (h.ad b e).2 hb, by have := (own_lt h.so hb).1; omega⟩
    ao := own_set ho _ _ (by simp)
    ad := fun b hb => by
      rcases hn b hb with h1 | h1
      · exact h.ad b h1
      · exact ⟨fun e => by have := (own_lt h.fo e).2; omega, fun e => by have := (own_lt h.so e).2; omega⟩ }

theorem RM.start {g k : Nat} {w wr : World} {vo vf : Value} {steps : List Stp} {xs : List Value} {fl : List Msg} {P : Nat → Prop} (hR : RSTr g k w wr vo vf steps xs fl P) (nd x : Nat) (hx : x ≤ k + 1) (cz : Array Value) :
    RM g k w wr vf.ownBlock cz (((wr.setCell ⟨g, nd, none⟩ (I (x : Nat))).alloc (.cells (rowOf ⟨0, nd, 0, ⟨0, 0, 0, 0, 0⟩⟩ false (.slice none 0 0) (.slice none 0 0)) 53)).alloc (.cells cz 45)) ⟨0, nd, 0, ⟨0, 0, 0, 0, 0⟩⟩ false (.slice none 0 0) [] (.slice none 0 0) [] vf fl :=
  have hg := hR.gl
  have hB : Below wr.heap.size (wr.setCell ⟨g, nd, none⟩ (I (x : Nat))) (((wr.setCell ⟨g, nd, none⟩ (I (x : Nat))).alloc (.cells (rowOf ⟨0, nd, 0, ⟨0, 0, 0, 0, 0⟩⟩ false (.slice none 0 0) (.slice none 0 0)) 53)).alloc (.cells cz 45)) :=
    ((Below.refl _ _).alloc (by simp) _).alloc (by simp) _
  have hS : Same (fun b => b < wr.heap.size) (wr.setCell ⟨g, nd, none⟩ (I (x : Nat))) (((wr.setCell ⟨g, nd, none⟩ (I (x : Nat))).alloc (.cells (rowOf ⟨0, nd, 0, ⟨0, 0, 0, 0, 0⟩⟩ false (.slice none 0 0) (.slice none 0 0)) 53)).alloc (.cells cz 45)) := Same.below hB fun _ h => h
  { sm := ((Same.refl _ wr).set _ _ (fun h => h.2.1 rfl)).trans (hS.weak fun b hb => hb.1)
    cnt := by
      obtain ⟨a, c, h1, h2⟩ := hR.cnt.set nd x hx
      exact ⟨a, c, hS.blk h1 hg, h2⟩
    cs := by
      have := Blk.new ((wr.setCell ⟨g, nd, none⟩ (I (x : Nat))).alloc (.cells (rowOf ⟨0, nd, 0, ⟨0, 0, 0, 0, 0⟩⟩ false (.slice none 0 0) (.slice none 0 0)) 53)) cz 45
      simpa using this
    s := by
      have := (Blk.new (wr.setCell ⟨g, nd, none⟩ (I (x : Nat))) (rowOf ⟨0, nd, 0, ⟨0, 0, 0, 0, 0⟩⟩ false (.slice none 0 0) (.slice none 0 0)) 53).alloc (.cells cz 45)
      simpa using this
    be := (hR.be.setCell (Nat.le_refl _) _).trans (hB.mono (by omega))
    gl := hg
    sz := by simp
    fo := hS.own (own_set hR.of _ _ (by simp)) fun b hb => (own_lt hR.of hb).2
    so := World.ownsRow_nil _ _ _ _
    ao := World.ownsRow_nil _ _ _ _
    fd := fun b hb => .inl hb
    sd := fun b hb => by cases hb
    ad := fun b hb => by cases hb }

/-- The event is there. -/
def RMA (g k : Nat) (w wr : World) (fb : Option Nat) (cz : Array Value) (vf : Value) (fl : List Msg) (wc : World) : Prop := ∃ ev obs, RM g k w wr fb cz wc ev obs (.slice none 0 0) [] (.slice none 0 0) [] vf fl
theorem RM.toA {g k : Nat} {w wr wc : World} {fb : Option Nat} {cz : Array Value} {ev : Ev} {obs : Bool} {vf : Value} {fl : List Msg} (h : RM g k w wr fb cz wc ev obs (.slice none 0 0) [] (.slice none 0 0) [] vf fl) : RMA g k w wr fb cz vf fl wc := ⟨ev, obs, h⟩
theorem own_new {g : Nat} {n cap : Nat} {v : Value} {m : Nat} (h : v.ownBlock = some g ∨ g = m) : ∀ b, (Value.slice (some ⟨g, 0, none⟩) n cap).ownBlock = some b → v.ownBlock = some b ∨ b = m := fun b hb => by
  have e : g = b := by simpa [Value.ownBlock] using hb
  subst e
  exact h
theorem msgs_snoc (l : List Msg) (m : Msg) : (l ++ [m]).flatMap Msg.cells = l.flatMap Msg.cells ++ m.cells := by simp
def RMC (g k : Nat) (w wr : World) (fb : Option Nat) (cz : Array Value) (ev : Ev) (obs : Bool) (vs : Value) (sent : List Msg) (vf : Value) (fl : List Msg) (wc : World) : Prop := ∃ va asks, RM g k w wr fb cz wc ev obs va asks vs sent vf fl ∧ AskOk asks
theorem RM.toC {g k : Nat} {w wr wc : World} {fb : Option Nat} {cz : Array Value} {ev : Ev} {obs : Bool} {va vs vf : Value} {asks : List Ask} {sent fl : List Msg} (h : RM g k w wr fb cz wc ev obs va asks vs sent vf fl) (ha : AskOk asks) : RMC g k w wr fb cz ev obs vs sent vf fl wc := ⟨va, asks, h, ha⟩
theorem RSTr.out {g k : Nat} {w wb wc : World} {vo vf vf' : Value} {steps : List Stp} {xs : List Value} {fl fl' : List Msg} {P : Nat → Prop} {cz : Array Value} {ev : Ev} {obs : Bool} {va vs : Value} {asks : List Ask} {sent : List Msg}
    (hR : RSTr g k w wb vo vf steps xs fl P) (h : RM g k w wb vf.ownBlock cz wc ev obs va asks vs sent vf' fl') : wc.ownsRow (g + 1) 53 11 vo steps.length xs :=
  h.sm.own hR.oo fun b hb => ⟨(own_lt hR.oo hb).2, by have := (own_lt hR.oo hb).1; omega, hR.dj b hb⟩
theorem RSTr.next {g k : Nat} {w wb wc w8 : World} {vo vo' vf vf' : Value} {steps : List Stp} {xs : List Value} {fl fl' : List Msg} {P : Nat → Prop} {cz : Array Value} {ev : Ev} {obs : Bool} {va vs : Value} {asks : List Ask} {sent : List Msg}
    (hR : RSTr g k w wb vo vf steps xs fl P) (h : RM g k w wb vf.ownBlock cz wc ev obs va asks vs sent vf' fl') (hfl : fl'.length ≤ 2 * (k + 1)) (hal : AskOk asks) (hsl : sent.length ≤ 2)
    (ho : w8.ownsRow (g + 1) 53 11 vo' (steps.length + 1) (xs ++ (rowOf ev obs va vs).toList)) (hgr : (wc.alloc (.cells (rowOf ev obs va vs) 53)).grownBy w8 vo.ownBlock) (hn : ∀ b, vo'.ownBlock = some b → vo.ownBlock = some b ∨ b = (wc.alloc (.cells (rowOf ev obs va vs) 53)).heap.size) (hb : Below (g + 1) (wc.alloc (.cells (rowOf ev obs va vs) 53)) w8) :
    ∃ P', RSTr g (k + 1) w w8 vo' vf' (steps ++ [⟨ev, asks, obs, sent⟩]) (xs ++ (rowOf ev obs va vs).toList) fl' P' := by
  have hz := h.sz
  have hg := h.gl
  have hA : Below wc.heap.size wc (wc.alloc (.cells (rowOf ev obs va vs) 53)) := (Below.refl _ _).alloc (Nat.le_refl _) _
  have hs8 : wc.heap.size < w8.heap.size := by have := hgr.size; simp at this; omega
  have hS : Same (fun b => b < wc.heap.size ∧ vo.ownBlock ≠ some b) wc w8 :=
    (Same.below hA fun b hb => hb.1).trans (Same.grown hgr fun b hb => ⟨by simp; omega, fun e => hb.2 e.symm⟩)
  have hvo : ∀ b, vo.ownBlock = some b → b < wb.heap.size ∧ g < b := fun b hb => by have := own_lt hR.oo hb; omega
  have hfo : ∀ b, vf'.ownBlock = some b → vo.ownBlock ≠ some b := fun b hb e => by
    rcases h.fd b hb with h1 | h1
    · exact hR.dj b e h1
    · have := (hvo b e).1; omega
  have hPf : ∀ b, P b → vf'.ownBlock ≠ some b := fun b hb e => by
    rcases h.fd b e with h1 | h1
    · exact (hR.pl b hb).2.2.2 h1
    · have := (hR.pl b hb).2.1; omega
  have hn' : ∀ b, vo'.ownBlock = some b → vo.ownBlock = some b ∨ wc.heap.size < b := fun b hb => by
    rcases hn b hb with h1 | h1
    · exact .inl h1
    · simp at h1; exact .inr (by omega)
  have hw1 : ∀ b, b < wb.heap.size → b < wc.heap.size := fun b hb => by omega
  refine ⟨fun b => P b ∨ va.ownBlock = some b ∨ vs.ownBlock = some b, ?_, ?_, ?_, ?_, ?_, ?_, ?_, ?_, ?_, ?_⟩
  · obtain ⟨a, c, h1, h2⟩ := h.cnt
    exact ⟨a, c, hS.blk h1 ⟨by omega, fun e => by have := (hvo _ e).2; omega⟩, h2⟩
  · rw [List.length_append]; exact ho
  · exact hS.own h.fo fun b hb => ⟨(own_lt h.fo hb).2, hfo b hb⟩
  · have h1 := (hR.sc.kept (h.sm.weak fun b hb => ⟨(hR.pl b hb).2.1, by have := (hR.pl b hb).1; omega, (hR.pl b hb).2.2.2⟩)).kept (hS.weak fun b hb => ⟨hw1 b (hR.pl b hb).2.1, (hR.pl b hb).2.2.1⟩)
    have ha := hS.own h.ao fun b hb => ⟨(own_lt h.ao hb).2, fun e => by have := (hvo _ e).1; have := (own_lt h.ao hb).1; omega⟩
    have hs := hS.own h.so fun b hb => ⟨(own_lt h.so hb).2, fun e => by have := (hvo _ e).1; have := (own_lt h.so hb).1; omega⟩
    exact (h1.weak fun b hb => .inl hb).snoc (s := ⟨ev, asks, obs, sent⟩) ⟨Flat.of_owns ha, own_inP ha fun b hb => .inr (.inl hb)⟩ ⟨Flat.of_owns hs, own_inP hs fun b hb => .inr (.inr hb)⟩
  · intro b hb e
    rcases hn' b hb with h1 | h1
    · exact hfo b e h1
    · have := (own_lt h.fo e).2; omega
  · intro b hb
    rcases hb with hb | hb | hb
    · have h1 := hR.pl b hb
      exact ⟨h1.1, by omega, fun e => by
        rcases hn' b e with h2 | h2
        · exact h1.2.2.1 h2
        · omega, hPf b hb⟩
    · have h1 := own_lt h.ao hb
      exact ⟨by omega, by omega, fun e => by
        rcases hn' b e with h2 | h2
        · have := (hvo _ h2).1; omega
        · omega, (h.ad b hb).1⟩
    · have h1 := own_lt h.so hb
      exact ⟨by omega, by omega, fun e => by
        rcases hn' b e with h2 | h2
        · have := (hvo _ h2).1; omega
        · omega, h.sd b hb⟩
  · omega
  · exact (h.be.trans (hA.mono (by omega))).trans (hb.mono (by omega))
  · intro s hs
    rcases List.mem_append.1 hs with h1 | h1
    · exact hR.ok s h1
    · simp at h1
      subst h1
      exact ⟨hal, hsl⟩
  · exact hfl

end Go.Proofs.YtljmonfobefiiaaGreatDoor

/- The generator of runs: the walk. -/
namespace Go.Proofs.YtljmonfobefiiaaGreatDoor
open Go.RowKit

def InI64Tr (n : Int) : Prop := -9223372036854775808 ≤ n ∧ n ≤ 9223372036854775807

set_option maxHeartbeats 8000000 in
set_option maxRecDepth 100000 in
theorem refRunA (l : List Int) (most : Nat) (v : Value) (w : World) (hl : IntSl w v l) (hr : ∀ x ∈ l, InI64Tr x) (hm : most ≤ 60) :
    Calls Tryz.prog 6 #[v, I most] w fun e w' => ∃ u run, e = .returned u ∧ StpSl w' u run ∧ run.length ≤ most ∧ (∀ s ∈ run, AskOk s.asks ∧ s.sent.length ≤ 2) ∧ Below w.heap.size w w' := by
  obtain ⟨ka, ca, rfl, hml⟩ := hl.open
  have hmk : ∀ W, (Instr.makeSlice 22 (.int .i64 4) (.int .i64 4)).run Tryz.prog W = .ok (.slice (some ⟨W.heap.size, 0, none⟩) 4 4) (W.alloc (.cells (mk1 4 (.int .i64 0)) 3)) := fun W => run_mk1 (P := Tryz.prog) 22 3 (.int .i64 0) 8 4 Tryz.underlying22 info_int rfl (by omega) (by omega) W
  have hcnt : CntAt (w.alloc (.cells (mk1 4 (.int .i64 0)) 3)) w.heap.size 0 := ⟨_, fun _ => 0, Blk.new _ _ _, mk1_size _ _, fun b hb => ⟨mk1_get _ _ _ hb, Nat.le_refl _⟩⟩
  have hst := RSTr.start w _ hcnt ((Below.refl _ _).alloc (Nat.le_refl _) _) (by simp)
  have Hr := Lib.hid hr
  have Hst := Lib.hid hst
  clear hr hst hcnt
  go_enter Tryz.func6, Tryz.ntmps6
  go_wp2_with fail
  clear hmk
  go_loopw [5, 6, 8] (fun vo vf i wr => ∃ (k : Nat) (steps : List Stp) (xs : List Value) (fl : List Msg) (P : Nat → Prop), k ≤ l.length ∧ k ≤ most ∧ i = .int .i64 k ∧ steps.length = k ∧ RSTr w.heap.size k w wr vo vf steps xs fl P) (fun _ _ i _ => l.length - (intOf i).toNat)
  case atStart => exact ⟨0, [], [], [], fun _ => False, by omega, by omega, rfl, rfl, Hst.out⟩
  case round =>
    clear Hst
    obtain ⟨k, steps, xs, fl, P, hk, hkm, rfl, hsl, hR⟩ := hrel
    have hsk : steps.length ≤ k := by omega
    have Hsl := Lib.hid hsl
    clear hsl
    obtain ⟨fa, fc, rfl, _⟩ := (Flat.of_owns hR.of).open
    obtain ⟨oa, oc, rfl, _⟩ := (Flat.of_owns hR.oo).open
    have hgl := hR.gl
    have hnf := hR.nf
    by_cases hlt : k < l.length ∧ k < most
    · obtain ⟨hlt1, hlt2⟩ := hlt
      obtain ⟨x, hx⟩ : ∃ x, l[k]? = some x := ⟨l[k], by simp [hlt1]⟩
      obtain ⟨hx1, hx2⟩ := Hr.out x (List.mem_of_getElem? hx)
      obtain ⟨b, o, rfl, hcx⟩ := (hl.kept hR.be (Nat.le_refl _)).at hx
      have har := around_range x 10000000 (by omega)
      obtain ⟨nn, hnn⟩ : ∃ nn : Nat, around x 10000000 = nn := ⟨_, (Int.toNat_of_nonneg har.1).symm⟩
      have hnb : nn < 10000000 := by omega
      obtain ⟨nd, hnd⟩ : ∃ nd : Nat, (nn : Int) % 4 = nd := ⟨nn % 4, by omega⟩
      have hnd4 : nd < 4 := by omega
      obtain ⟨kd, hkd⟩ : ∃ kd : Nat, (nn : Int) / 12 % 8 = kd := ⟨nn / 12 % 8, by omega⟩
      have hkd8 : kd < 8 := by omega
      obtain ⟨arr, c, hcb, hca, hcc⟩ := hR.cnt
      obtain ⟨hcd, hck⟩ := hcc nd hnd4
      have cC := (hcb.cell nd).trans hcd
      have fC := hcb.frozen nd
      have Haround := Lib.hid (around_any x 10000000)
      have Hnn := Lib.hid hnn
      have HR := Lib.hid hR
      have Hx := Lib.hid hx
      have Hcc := Lib.hid hcc
      have Hca := Lib.hid hca
      have Hcb := Lib.hid hcb
      have Hcd := Lib.hid hcd
      have Hnd := Lib.hid hnd
      have Hkd := Lib.hid hkd
      clear har hnn hR hx hcc hca hcb hcd hnd hkd
      go_wp2_with fail
      refine (Haround.out _ (by omega) hx1 hx2).mono ?_
      rintro e w1 ⟨rfl, rfl⟩
      rw [Hnn.out]
      go_upto_region 9 with fail
      rw [Hnd.out]
      go_upto_region 13 with fail
      rw [Hkd.out]
      have hrm := RM.start HR.out nd (c nd + 1) (by omega) #[I nd, I ((nn : Int) / 4 % 3), I (c nd)]
      rw [show ((c nd + 1 : Nat) : Int) = (c nd : Int) + 1 from by omega] at hrm
      obtain ⟨wq, hwq⟩ : ∃ wq : World, wq = ((wr.setCell ⟨w.heap.size, nd, none⟩ (I ((c nd : Int) + 1))).alloc (.cells #[I 0, I nd, I 0, I 0, I 0, I 0, I 0, I 0, .slice none 0 0, .bool false, .slice none 0 0] 53)).alloc (.cells #[I nd, I ((nn : Int) / 4 % 3), I (c nd)] 45) := ⟨_, rfl⟩
      have hrm2 : RM w.heap.size k w wr (Value.slice fa fl.length fc).ownBlock #[I nd, I ((nn : Int) / 4 % 3), I (c nd)] wq ⟨0, nd, 0, ⟨0, 0, 0, 0, 0⟩⟩ false (.slice none 0 0) [] (.slice none 0 0) [] (.slice fa fl.length fc) fl := by rw [hwq]; exact hrm
      rw [← hwq]
      have hfb : ∀ b, (Value.slice fa fl.length fc).ownBlock = some b → b < wr.heap.size ∧ b ≠ w.heap.size := fun b hb => by
        have := own_lt HR.out.of hb
        exact ⟨this.2, by omega⟩
      have Hfb := Lib.hid hfb
      have Hrm := Lib.hid hrm2
      clear hwq hrm hrm2 cC fC hcx hfb
      obtain ⟨bb, hbb⟩ : ∃ bb : Bool, bb = (decide (kd < 4) && decide (0 < fl.length)) := ⟨_, rfl⟩
      have Hbb := Lib.hid hbb
      clear hbb
      go_cut [62] from 17 to 148 (fun t wc => t = .bool bb ∧ wc = wq)
      case first =>
        by_cases hk4 : kd < 4
        · by_cases hf0 : 0 < fl.length
          · go_wp2_with fail
            go_meet
            exact ⟨by rw [Hbb.out]; simp [hk4, hf0], rfl⟩
          · go_wp2_with fail
            go_meet
            exact ⟨by rw [Hbb.out]; simp [hk4, hf0], rfl⟩
        · go_wp2_with fail
          go_meet
          exact ⟨by rw [Hbb.out]; simp [hk4], rfl⟩
      case rest =>
        obtain ⟨rfl, rfl⟩ := hcut
        go_upto_if 62 with fail
        go_cut [] from 17 to 148 (fun wd => RMA w.heap.size k w wr (Value.slice fa fl.length fc).ownBlock #[I nd, I ((nn : Int) / 4 % 3), I (c nd)] (.slice fa fl.length fc) fl wd)
        case first =>
          cases bb with
          | true =>
            have hkf : kd < 4 ∧ 0 < fl.length := by
              have := Hbb.out
              simp at this
              omega
            obtain ⟨hk4, hf0⟩ := hkf
            obtain ⟨ek, hek⟩ : ∃ ek : Int, (#[I 3, I 3, I 5, I 6] : Array Value)[kd]? = some (I ek) := by
              have : kd = 0 ∨ kd = 1 ∨ kd = 2 ∨ kd = 3 := by omega
              rcases this with rfl | rfl | rfl | rfl <;> exact ⟨_, rfl⟩
            have hrm1 := Hrm.out.kept ((Below.refl _ _).alloc (Nat.le_refl _) (.cells #[I 3, I 3, I 5, I 6] 3))
            have hek2 : (wc.alloc (.cells #[I 3, I 3, I 5, I 6] 3)).cell? ⟨wc.heap.size, kd, none⟩ = some (I ek) := ((Blk.new wc #[I 3, I 3, I 5, I 6] 3).cell kd).trans hek
            have cS0 : (wc.alloc (.cells #[I 3, I 3, I 5, I 6] 3)).cell? ⟨wr.heap.size, 0, none⟩ = some (I 0) := hrm1.s.cell 0
            have fS0 := hrm1.s.frozen 0
            have hnf2 : (Value.slice fa fl.length fc).ownBlock ≠ some wr.heap.size := fun e => by have := (Hfb.out _ e).1; omega
            have hrm2 := hrm1.store 0 (I ek) (ev' := ⟨ek, nd, 0, ⟨0, 0, 0, 0, 0⟩⟩) (obs' := false) rfl hnf2
            have Hrm2 := Lib.hid hrm2
            have hgsz := hrm1.sz
            clear hrm1 hrm2 hek
            go_upto_region 15 with fail
            obtain ⟨w2, hw2⟩ : ∃ w2 : World, w2 = (wc.alloc (.cells #[I 3, I 3, I 5, I 6] 3)).setCell ⟨wr.heap.size, 0, none⟩ (I ek) := ⟨_, rfl⟩
            rw [← hw2]
            have hrm2 := Hrm2.out
            rw [← hw2] at hrm2
            clear hw2 Hrm2 cS0 fS0 hek2
            have hmod : 0 ≤ (nn : Int) / 96 % (fl.length : Int) ∧ (nn : Int) / 96 % (fl.length : Int) < fl.length := ⟨Int.emod_nonneg _ (by omega), Int.emod_lt_of_pos _ (by omega)⟩
            obtain ⟨ix, hix⟩ : ∃ ix : Nat, (nn : Int) / 96 % (fl.length : Int) = ix := ⟨_, (Int.toNat_of_nonneg hmod.1).symm⟩
            have hixl : ix < fl.length := by omega
            obtain ⟨qb, qo, rfl, y0, y1, y2, y3, y4⟩ := (show MsgSl w2 (.slice fa fl.length fc) fl from Flat.of_owns hrm2.fo).at (i := ix) (x := fl[ix]) (by simp [hixl])
            have cS3 : w2.cell? ⟨wr.heap.size, 3, none⟩ = some (I 0) := hrm2.s.cell 3
            have cS4 : w2.cell? ⟨wr.heap.size, 4, none⟩ = some (I 0) := hrm2.s.cell 4
            have cS5 : w2.cell? ⟨wr.heap.size, 5, none⟩ = some (I 0) := hrm2.s.cell 5
            have cS6 : w2.cell? ⟨wr.heap.size, 6, none⟩ = some (I 0) := hrm2.s.cell 6
            have cS7 : w2.cell? ⟨wr.heap.size, 7, none⟩ = some (I 0) := hrm2.s.cell 7
            have fS3 := hrm2.s.frozen 3
            have fS4 := hrm2.s.frozen 4
            have fS5 := hrm2.s.frozen 5
            have fS6 := hrm2.s.frozen 6
            have fS7 := hrm2.s.frozen 7
            have hrm3 := ((((hrm2.store 3 (I fl[ix].node) (ev' := ⟨ek, nd, 0, ⟨fl[ix].node, 0, 0, 0, 0⟩⟩) (obs' := false) rfl hnf2).store 4 (I fl[ix].handler) (ev' := ⟨ek, nd, 0, ⟨fl[ix].node, fl[ix].handler, 0, 0, 0⟩⟩) (obs' := false) rfl hnf2).store 5 (I fl[ix].count) (ev' := ⟨ek, nd, 0, ⟨fl[ix].node, fl[ix].handler, fl[ix].count, 0, 0⟩⟩) (obs' := false) rfl hnf2).store 6 (I fl[ix].index) (ev' := ⟨ek, nd, 0, ⟨fl[ix].node, fl[ix].handler, fl[ix].count, fl[ix].index, 0⟩⟩) (obs' := false) rfl hnf2).store 7 (I fl[ix].copy) (ev' := ⟨ek, nd, 0, ⟨fl[ix].node, fl[ix].handler, fl[ix].count, fl[ix].index, fl[ix].copy⟩⟩) (obs' := false) rfl hnf2
            have Hrm3 := Lib.hid hrm3
            clear hrm2 hrm3
            go_upto_region 16 with fail
            obtain ⟨w3, hw3⟩ : ∃ w3 : World, w3 = ((((w2.setCell ⟨wr.heap.size, 3, none⟩ (I fl[ix].node)).setCell ⟨wr.heap.size, 4, none⟩ (I fl[ix].handler)).setCell ⟨wr.heap.size, 5, none⟩ (I fl[ix].count)).setCell ⟨wr.heap.size, 6, none⟩ (I fl[ix].index)).setCell ⟨wr.heap.size, 7, none⟩ (I fl[ix].copy) := ⟨_, rfl⟩
            rw [← hw3]
            have hrm3 := Hrm3.out
            rw [← hw3] at hrm3
            have cT7 : w3.cell? ⟨wr.heap.size, 7, none⟩ = some (I fl[ix].copy) := hrm3.s.cell 7
            have fT7 := hrm3.s.frozen 7
            have hrm4 := hrm3.store 7 (I 1) (ev' := ⟨ek, nd, 0, ⟨fl[ix].node, fl[ix].handler, fl[ix].count, fl[ix].index, 1⟩⟩) (obs' := false) rfl hnf2
            have Hrm4 := Lib.hid hrm4
            have Hrm5 := Lib.hid hrm3
            clear hw3 Hrm3 cS3 cS4 cS5 cS6 cS7 fS3 fS4 fS5 fS6 fS7 y0 y1 y2 y3 y4 hix hrm3 hrm4
            by_cases hk0 : 0 < kd
            · by_cases hc7 : (nn : Int) / 7 % 5 = 4
              · have hc8 : ((nn : Int) / 7 % 5 == 4) = true := by rw [hc7]; rfl
                clear hc7
                go_wp2_with fail
                go_meet
                exact Hrm4.out.toA
              · have hc8 : ((nn : Int) / 7 % 5 == 4) = false := by rw [beq_eq_false_iff_ne]; exact hc7
                clear hc7
                go_wp2_with fail
                go_meet
                exact Hrm5.out.toA
            · go_wp2_with fail
              go_meet
              exact Hrm5.out.toA
          | false =>
            have hnf2 : (Value.slice fa fl.length fc).ownBlock ≠ some wr.heap.size := fun e => by have := (Hfb.out _ e).1; omega
            have cS0 : wc.cell? ⟨wr.heap.size, 0, none⟩ = some (I 0) := Hrm.out.s.cell 0
            have cS2 : wc.cell? ⟨wr.heap.size, 2, none⟩ = some (I 0) := Hrm.out.s.cell 2
            have cS9 : wc.cell? ⟨wr.heap.size, 9, none⟩ = some (.bool false) := Hrm.out.s.cell 9
            have fS0 := Hrm.out.s.frozen 0
            have fS2 := Hrm.out.s.frozen 2
            have fS9 := Hrm.out.s.frozen 9
            have hrm3 := (Hrm.out.store 0 (I 4) (ev' := ⟨4, nd, 0, ⟨0, 0, 0, 0, 0⟩⟩) (obs' := false) rfl hnf2).store 2 (I ((nn : Int) / 96 % 3)) (ev' := ⟨4, nd, (nn : Int) / 96 % 3, ⟨0, 0, 0, 0, 0⟩⟩) (obs' := false) rfl hnf2
            have hrm4 := ((Hrm.out.store 0 (I 2) (ev' := ⟨2, nd, 0, ⟨0, 0, 0, 0, 0⟩⟩) (obs' := false) rfl hnf2).store 2 (I k) (ev' := ⟨2, nd, k, ⟨0, 0, 0, 0, 0⟩⟩) (obs' := false) rfl hnf2).store 9 (.bool true) (ev' := ⟨2, nd, k, ⟨0, 0, 0, 0, 0⟩⟩) (obs' := true) rfl hnf2
            have Hrm3 := Lib.hid hrm3
            have Hrm4 := Lib.hid hrm4
            clear hrm3 hrm4
            by_cases hk6 : kd < 6
            · go_wp2_with fail
              go_meet
              exact Hrm3.out.toA
            · go_wp2_with fail
              go_meet
              exact Hrm4.out.toA
        case rest =>
          clear Hrm Hbb
          obtain ⟨ev, obs, hrmA⟩ := hcut
          have HrmA := Lib.hid hrmA
          have hnf2 : (Value.slice fa fl.length fc).ownBlock ≠ some wr.heap.size := fun e => by have := (Hfb.out _ e).1; omega
          have cS9 : wc.cell? ⟨wr.heap.size, 9, none⟩ = some (.bool obs) := hrmA.s.cell 9
          have fS9 := hrmA.s.frozen 9
          clear hrmA
          go_upto_if 108 with fail
          go_cut [] from 17 to 148 (fun wd => RMA w.heap.size k w wr (Value.slice fa fl.length fc).ownBlock #[I nd, I ((nn : Int) / 4 % 3), I (c nd)] (.slice fa fl.length fc) fl wd)
          case first =>
            by_cases hc7 : (nn : Int) / 11 % 6 = 5
            · have hc8 : ((nn : Int) / 11 % 6 == 5) = true := by rw [hc7]; rfl
              clear hc7
              go_wp2_with fail
              go_meet
              exact (HrmA.out.store 9 (.bool true) (ev' := ev) (obs' := true) rfl hnf2).toA
            · have hc8 : ((nn : Int) / 11 % 6 == 5) = false := by rw [beq_eq_false_iff_ne]; exact hc7
              clear hc7
              go_wp2_with fail
              go_meet
              exact HrmA.out.toA
          case rest =>
            clear HrmA cS9 fS9
            obtain ⟨ev, obs, hrmB⟩ := hcut
            have HrmB := Lib.hid hrmB
            clear hrmB
            obtain ⟨t3, ht3⟩ : ∃ t3 : Nat, (nn : Int) / 13 % 3 = t3 := ⟨nn / 13 % 3, by omega⟩
            have ht33 : t3 < 3 := by omega
            go_wp2_with fail
            obtain ⟨wb, rfl⟩ : ∃ wb : World, wb = wr := ⟨_, rfl⟩
            go_loopw [14, 6] (fun q vf wr => ∃ (q' : Nat) (sent fl' : List Msg) (vs : Value), q' ≤ t3 ∧ q = .int .i64 q' ∧ RM w.heap.size k w wb (Value.slice fa fl.length fc).ownBlock #[I nd, I ((nn : Int) / 4 % 3), I (c nd)] wr ev obs (.slice none 0 0) [] vs sent vf fl' ∧ sent.length = q' ∧ fl'.length ≤ fl.length + q') (fun q _ _ => t3 - (intOf q).toNat)
            case atStart => exact ⟨0, [], fl, _, by omega, rfl, HrmB.out, rfl, by omega⟩
            case round =>
              clear HrmB
              obtain ⟨q, sent, fl', vs, hq, rfl, hrm, hsl, hfl⟩ := hrel
              obtain ⟨fa', fc', rfl, _⟩ := (Flat.of_owns hrm.fo).open
              obtain ⟨sa, sc, rfl, _⟩ := (Flat.of_owns hrm.so).open
              by_cases hlt : q < t3
              · have hsl3 : sent.length ≤ 3 := by omega
                have hfl3 : fl'.length ≤ 1000 := by omega
                have hz := hrm.sz
                have hgl' := hrm.gl
                have cC0 : wr.cell? ⟨wb.heap.size + 1, 0, none⟩ = some (I nd) := hrm.cs.cell 0
                have cC1 : wr.cell? ⟨wb.heap.size + 1, 1, none⟩ = some (I ((nn : Int) / 4 % 3)) := hrm.cs.cell 1
                have cC2 : wr.cell? ⟨wb.heap.size + 1, 2, none⟩ = some (I (c nd)) := hrm.cs.cell 2
                have hlt29 : wb.heap.size < wr.heap.size := by omega
                have hlt29' : wb.heap.size + 1 < wr.heap.size := by omega
                have cS10 : wr.cell? ⟨wb.heap.size, 10, none⟩ = some (.slice sa sent.length sc) := hrm.s.cell 10
                have hrm2 := hrm.kept (((Below.refl _ _).alloc (Nat.le_refl _) (.cells #[I nd, I ((nn : Int) / 4 % 3), I (c nd), I q, I 0] 47)).alloc (by simp) (.cells #[I nd, I ((nn : Int) / 4 % 3), I (c nd), I q, I 0] 47))
                have hsrc : ((wr.alloc (.cells #[I nd, I ((nn : Int) / 4 % 3), I (c nd), I q, I 0] 47)).alloc (.cells #[I nd, I ((nn : Int) / 4 % 3), I (c nd), I q, I 0] 47)).heap[wr.heap.size + 1]? = some (.cells #[I nd, I ((nn : Int) / 4 % 3), I (c nd), I q, I 0] 47 (0, 0)) := by
                  have := heap_alloc_new (wr.alloc (.cells #[I nd, I ((nn : Int) / 4 % 3), I (c nd), I q, I 0] 47)) (.cells #[I nd, I ((nn : Int) / 4 % 3), I (c nd), I q, I 0] 47)
                  simpa using this
                have hvb : ∀ b, (Value.slice sa sent.length sc).ownBlock = some b → wb.heap.size + 2 ≤ b ∧ b < wr.heap.size := fun b hb => own_lt hrm.so hb
                have hmb : Blk ((wr.alloc (.cells #[I nd, I ((nn : Int) / 4 % 3), I (c nd), I q, I 0] 47)).alloc (.cells #[I nd, I ((nn : Int) / 4 % 3), I (c nd), I q, I 0] 47)) wr.heap.size #[I nd, I ((nn : Int) / 4 % 3), I (c nd), I q, I 0] := (Blk.new wr _ 47).alloc _
                have Hmb := Lib.hid hmb
                have Hvb := Lib.hid hvb
                have Hrm2 := Lib.hid hrm2
                have Hsrc := Lib.hid hsrc
                have Hsl2 := Lib.hid hsl
                clear hsl hrm hrm2 hsrc hvb hmb
                go_upto_region 31 with (at_builtin; go_must (refine wpList_appB rfl _ _ 51 rfl 47 _ 5 40 Tryz.underlying51 info_Msg rfl (by omega) (by omega) (wb.heap.size + 2) _ _ _ rfl Hrm2.out.so (wr.heap.size + 1) 1 1 #[I nd, I ((nn : Int) / 4 % 3), I (c nd), I q, I 0] 47 rfl Hsrc.out rfl rfl (by omega) (by omega) (by simp; omega) ?_); intro g cap w5 hg1 hg2 hg3 ho5 hgr5 hB5; have cS5 : w5.cell? ⟨wb.heap.size, 10, none⟩ = some (.slice sa sent.length sc) := (Hrm2.out.s.grown hgr5 (fun e => by have := (Hvb.out _ e).1; omega)).cell 10; have fS5 := (Hrm2.out.s.grown hgr5 (fun e => by have := (Hvb.out _ e).1; omega)).frozen 10)
                have hmg : Msg.cells ⟨nd, (nn : Int) / 4 % 3, c nd, q, 0⟩ = #[I nd, I ((nn : Int) / 4 % 3), I (c nd), I q, I 0].toList := rfl
                have hrm6 := Hrm2.out.send (vs' := .slice (some ⟨g, 0, none⟩) (sent.length + 1) cap) (sent' := sent ++ [⟨nd, (nn : Int) / 4 % 3, c nd, q, 0⟩]) (by rw [msgs_snoc, List.length_append, hmg]; exact ho5) hgr5 (own_new hg3) hB5 Hfb.out
                obtain ⟨w6, hw6⟩ : ∃ w6 : World, w6 = w5.setCell ⟨wb.heap.size, 10, none⟩ (.slice (some ⟨g, 0, none⟩) (sent.length + 1) cap) := ⟨_, rfl⟩
                rw [← hw6]
                rw [← hw6] at hrm6
                have hm6 : Blk w6 wr.heap.size #[I nd, I ((nn : Int) / 4 % 3), I (c nd), I q, I 0] := by
                  rw [hw6]
                  exact (Hmb.out.grown hgr5 (fun e => by have := (Hvb.out _ e).2; omega)).setOther _ _ (by simp; omega)
                have cM0 : w6.cell? ⟨wr.heap.size, 0, none⟩ = some (I nd) := hm6.cell 0
                have cM1 : w6.cell? ⟨wr.heap.size, 1, none⟩ = some (I ((nn : Int) / 4 % 3)) := hm6.cell 1
                have cM2 : w6.cell? ⟨wr.heap.size, 2, none⟩ = some (I (c nd)) := hm6.cell 2
                have cM3 : w6.cell? ⟨wr.heap.size, 3, none⟩ = some (I q) := hm6.cell 3
                have cM4 : w6.cell? ⟨wr.heap.size, 4, none⟩ = some (I 0) := hm6.cell 4
                have hz6 : wr.heap.size < w6.heap.size := hm6.lt
                have hrm7 := hrm6.kept ((Below.refl _ _).alloc (Nat.le_refl _) (.cells #[I nd, I ((nn : Int) / 4 % 3), I (c nd), I q, I 0] 47))
                have Hrm7 := Lib.hid hrm7
                clear hw6 hm6 cC0 cC1 cC2 cS10 cS5 fS5 ho5 hgr5 hB5 hrm6 hrm7 hmg
                go_wp2_with (at_builtin; go_must (refine wpList_appB rfl _ _ 51 rfl 47 _ 5 40 Tryz.underlying51 info_Msg rfl (by omega) (by omega) (w.heap.size + 1) _ _ _ rfl Hrm7.out.fo w6.heap.size 1 1 #[I nd, I ((nn : Int) / 4 % 3), I (c nd), I q, I 0] 47 rfl (heap_alloc_new _ _) rfl rfl (by omega) (by omega) (by simp; omega) ?_); intro g7 cap7 w7 hg7 hg8 hg9 ho7 hgr7 hB7)
                go_roundw
                case rel =>
                  have hmg : Msg.cells ⟨nd, (nn : Int) / 4 % 3, c nd, q, 0⟩ = #[I nd, I ((nn : Int) / 4 % 3), I (c nd), I q, I 0].toList := rfl
                  refine ⟨q + 1, sent ++ [⟨nd, (nn : Int) / 4 % 3, c nd, q, 0⟩], fl' ++ [⟨nd, (nn : Int) / 4 % 3, c nd, q, 0⟩], _, by omega, by go_num, Hrm7.out.flight (by rw [msgs_snoc, List.length_append, hmg]; exact ho7) hgr7 (own_new hg9) (hB7.mono (by omega)) Hfb.out, by rw [List.length_append, Hsl2.out]; rfl, by rw [List.length_append]; simp; omega⟩
                case measure => simp [intOf]; omega
              · have hsl3 : sent.length ≤ 2 := by omega
                have hfl3 : fl'.length ≤ 2 * (k + 1) := by omega
                have hz := hrm.sz
                have hgl' := hrm.gl
                have Hrm := Lib.hid hrm
                have cC0 : wr.cell? ⟨wb.heap.size + 1, 0, none⟩ = some (I nd) := hrm.cs.cell 0
                have cC1 : wr.cell? ⟨wb.heap.size + 1, 1, none⟩ = some (I ((nn : Int) / 4 % 3)) := hrm.cs.cell 1
                have cC2 : wr.cell? ⟨wb.heap.size + 1, 2, none⟩ = some (I (c nd)) := hrm.cs.cell 2
                have cS8 : wr.cell? ⟨wb.heap.size, 8, none⟩ = some (.slice none 0 0) := hrm.s.cell 8
                have fS8 := hrm.s.frozen 8
                clear hrm hsl hfl
                go_upto_if 133 with fail
                go_cut [] from 17 to 148 (fun wd => RMC w.heap.size k w wb (Value.slice fa fl.length fc).ownBlock #[I nd, I ((nn : Int) / 4 % 3), I (c nd)] ev obs (.slice sa sent.length sc) sent (.slice fa' fl'.length fc') fl' wd)
                case first =>
                  by_cases hc7 : (nn : Int) / 17 % 3 = 2
                  · have hc8 : ((nn : Int) / 17 % 3 == 2) = true := by rw [hc7]; rfl
                    have hrm2 := Hrm.out.kept ((Below.refl _ _).alloc (Nat.le_refl _) (.cells #[I nd, I ((nn : Int) / 4 % 3), I (c nd), I 1, I 0, I 2, I ((nn : Int) / 51 % 2)] 60))
                    have Hrm2 := Lib.hid hrm2
                    have hlt29 : wb.heap.size < wr.heap.size := by omega
                    clear hc7 hrm2
                    go_wp2_with (at_builtin; go_must (refine wpList_appB rfl _ _ 50 rfl 60 _ 7 56 Tryz.underlying50 info_Ask rfl (by omega) (by omega) (wb.heap.size + 2) _ 0 [] rfl (World.ownsRow_nil _ _ _ _) wr.heap.size 1 1 #[I nd, I ((nn : Int) / 4 % 3), I (c nd), I 1, I 0, I 2, I ((nn : Int) / 51 % 2)] 60 rfl (heap_alloc_new _ _) rfl rfl (by omega) (by omega) (by simp; omega) ?_); intro g cap w5 hg1 hg2 hg3 ho5 hgr5 hB5; have cS5 : w5.cell? ⟨wb.heap.size, 8, none⟩ = some (.slice none 0 0) := (Hrm2.out.s.grown hgr5 (fun e => by cases e)).cell 8; have fS5 := (Hrm2.out.s.grown hgr5 (fun e => by cases e)).frozen 8)
                    go_meet
                    exact (Hrm2.out.ask (va' := .slice (some ⟨g, 0, none⟩) (0 + 1) cap) (asks' := [⟨nd, (nn : Int) / 4 % 3, c nd, 1, 0, 2, (nn : Int) / 51 % 2⟩]) ho5 hgr5 (own_new hg3) hB5 Hfb.out).toC ⟨by simp, fun a ha => by simp only [List.mem_singleton] at ha; subst ha; exact ⟨rfl, by dsimp only; omega, by dsimp only; omega⟩⟩
                  · have hc8 : ((nn : Int) / 17 % 3 == 2) = false := by rw [beq_eq_false_iff_ne]; exact hc7
                    clear hc7
                    go_wp2_with fail
                    go_meet
                    exact Hrm.out.toC AskOk.nil
                case rest =>
                  clear Hrm cC0 cC1 cC2 cS8 fS8 hz
                  obtain ⟨va, asks, hrm, halA⟩ := hcut
                  have hal := halA.1
                  have HalA := Lib.hid halA
                  clear halA
                  obtain ⟨aa, ac, rfl, _⟩ := (Flat.of_owns hrm.ao).open
                  have hz := hrm.sz
                  have cS0 : wc.cell? ⟨wb.heap.size, 0, none⟩ = some (I ev.kind) := hrm.s.cell 0
                  have cS1 : wc.cell? ⟨wb.heap.size, 1, none⟩ = some (I ev.node) := hrm.s.cell 1
                  have cS2 : wc.cell? ⟨wb.heap.size, 2, none⟩ = some (I ev.arg) := hrm.s.cell 2
                  have cS3 : wc.cell? ⟨wb.heap.size, 3, none⟩ = some (I ev.msg.node) := hrm.s.cell 3
                  have cS4 : wc.cell? ⟨wb.heap.size, 4, none⟩ = some (I ev.msg.handler) := hrm.s.cell 4
                  have cS5 : wc.cell? ⟨wb.heap.size, 5, none⟩ = some (I ev.msg.count) := hrm.s.cell 5
                  have cS6 : wc.cell? ⟨wb.heap.size, 6, none⟩ = some (I ev.msg.index) := hrm.s.cell 6
                  have cS7 : wc.cell? ⟨wb.heap.size, 7, none⟩ = some (I ev.msg.copy) := hrm.s.cell 7
                  have cS8 : wc.cell? ⟨wb.heap.size, 8, none⟩ = some (.slice aa asks.length ac) := hrm.s.cell 8
                  have cS9 : wc.cell? ⟨wb.heap.size, 9, none⟩ = some (.bool obs) := hrm.s.cell 9
                  have cS10 : wc.cell? ⟨wb.heap.size, 10, none⟩ = some (.slice sa sent.length sc) := hrm.s.cell 10
                  have hoo := HR.out.out hrm
                  have Hoo := Lib.hid hoo
                  have Hrm := Lib.hid hrm
                  have hlt29 : wb.heap.size < wc.heap.size := by omega
                  clear hrm hoo
                  go_wp2_with (at_builtin; go_must (refine wpList_appB rfl _ _ 24 rfl 53 _ 11 120 Tryz.underlying24 info_Step rfl (by omega) (by omega) (w.heap.size + 1) _ _ xs rfl (Hoo.out.alloc _) wc.heap.size 1 1 #[I ev.kind, I ev.node, I ev.arg, I ev.msg.node, I ev.msg.handler, I ev.msg.count, I ev.msg.index, I ev.msg.copy, .slice aa asks.length ac, .bool obs, .slice sa sent.length sc] 53 rfl (heap_alloc_new _ _) rfl rfl (by omega) (by omega) (by simp; omega) ?_); intro g cap w8 hg1 hg2 hg3 ho8 hgr8 hB8)
                  have hnext := HR.out.next Hrm.out hfl3 HalA.out hsl3 ho8 hgr8 (own_new hg3) hB8
                  go_roundw
                  case rel =>
                    obtain ⟨P', hP'⟩ := hnext
                    exact ⟨k + 1, _, _, _, P', by omega, by omega, by go_num, by rw [List.length_append, Hsl.out]; rfl, hP'⟩
                  case measure => simp [intOf]; omega
    · have hge : l.length ≤ k ∨ most ≤ k := by omega
      have hres : StpSl wr (.slice oa steps.length oc) steps := ⟨xs, hR.sc.cells, Flat.of_owns hR.oo⟩
      have Hres := Lib.hid hres
      have Hok := Lib.hid hR.ok
      have Hbe := Lib.hid hR.be
      clear hres hR
      by_cases hlt1 : k < l.length
      · have hlt2 : ¬ k < most := fun h => hlt ⟨hlt1, h⟩
        clear hlt
        go_wp2_with fail
        go_ret
        exact ⟨_, _, rfl, Hres.out, by omega, Hok.out, Hbe.out⟩
      · clear hlt
        go_wp2_with fail
        go_ret
        exact ⟨_, _, rfl, Hres.out, by omega, Hok.out, Hbe.out⟩

end Go.Proofs.YtljmonfobefiiaaGreatDoor

/- The law StoryParses, walked. -/
namespace Go.Proofs.YtljmonfobefiiaaGreatDoor
open Go.RowKit

theorem storyT_len (l : List Stp) (hl : l.length ≤ 8) (h : ∀ s ∈ l, s.asks.length ≤ 1 ∧ ∀ a ∈ s.asks, AskN a) : (storyT l).length ≤ 6400 := by
  have h1 := linesT_len0 l (fun i => nxL (bfOf l) i) 800 (fun i hi => by
    have hs := h l[i] (List.getElem_mem hi)
    have hb : (nxL (bfOf l) i).length ≤ 8 := by
      rw [bf_cov l i hi]
      exact Nat.le_trans (covL_len _ _ _ _) hl
    have h2 := lineT_len0 i l[i] (nxL (bfOf l) i) (by omega) hs.2 (nxL_bf l (by omega) i).2
    have h3 := hs.1
    omega) l.length (Nat.le_refl _)
  unfold storyT
  omega

set_option maxHeartbeats 8000000 in
set_option maxRecDepth 100000 in
theorem parsesC (raw : Str) (l : List Int) (at_ how c : Int) (v : Value) (w : World) (hraw : raw.length ≤ 9223372036854775807) (hv : IntSl w v l) (hr : ∀ x ∈ l, InI64 x) (ha : InI64 at_) (hh : InI64 how) (hc : 0 ≤ c ∧ c ≤ 255) (hg : Gl w) :
    Calls Tryz.prog 3 #[sv raw, v, I at_, I how, .int .u8 c] w fun e w' => e = .returned (.bool true) ∧ Below w.heap.size w w' := by
  have HRun := Lib.hid (refRunA l 8 v w hv (fun x hx => hr x hx) (by omega))
  have Hg := Lib.hid hg
  have Ha := Lib.hid ha
  have Hh := Lib.hid hh
  have Hc := Lib.hid hc
  have Hraw := Lib.hid hraw
  obtain ⟨ka, kc, rfl, hm⟩ := hv.open
  clear hv hr ha hh hc hraw hg
  unfold sv
  go_enter Tryz.func3, Tryz.ntmps3
  go_wp2_with fail
  refine HRun.out.mono ?_
  rintro e w1 ⟨u, run, rfl, hr1, hrl, hrA, hB1⟩
  have hrN : ∀ s ∈ run, s.asks.length ≤ 1 ∧ ∀ a ∈ s.asks, AskN a := fun s hs => ⟨(hrA s hs).1.1, fun a ha => by
    obtain ⟨e1, e2, e3⟩ := (hrA s hs).1.2 a ha
    unfold AskN
    omega⟩
  have HPr := Lib.hid (refPrintC run u w1 hr1 (by omega) (fun s hs => ⟨by have := (hrN s hs).1; omega, (hrN s hs).2⟩))
  have hsl : (storyT (normS run)).length ≤ 6400 := storyT_len _ (by rw [nf_len (normS_nf run)]; omega) (fun s hs => hrN s (nf_mem (normS_nf run) s hs))
  have HB1 := Lib.hid hB1
  obtain ⟨ua, uc, rfl, _⟩ := hr1.open
  clear hr1 hrA hrN hB1 HRun
  generalize storyT (normS run) = s at hsl HPr
  unfold sv at HPr
  go_wp2_with fail
  refine HPr.out.mono ?_
  rintro e w2 ⟨rfl, hB2⟩
  have HB2 := Lib.hid (HB1.out.trans (hB2.mono HB1.out.size))
  clear hB2 HPr
  have Hsh := Lib.hid (shortC raw w2 Hraw.out)
  have Hbr := Lib.hid (brokenC s at_ how c w2 (by omega) Ha.out Hh.out Hc.out)
  unfold sv at Hsh Hbr
  go_wp2_with fail
  refine Hsh.out.mono ?_
  rintro e w3 ⟨⟨t0, rfl, ht0⟩, rfl⟩
  go_wp2_with fail
  refine Hbr.out.mono ?_
  rintro e w3 ⟨⟨t2, rfl, ht2⟩, hB3⟩
  have HB3 := Lib.hid (HB2.out.trans (hB3.mono HB2.out.size))
  clear hB3 Hsh Hbr
  go_upto_region 3 with fail
  generalize hQ : w3.alloc _ = Q
  have hQs : strOk Q w3.heap.size 3 6401 := by
    intro j hj
    rw [← hQ]
    rcases (show j = 0 ∨ j = 1 ∨ j = 2 by omega) with rfl | rfl | rfl
    · exact ⟨t0, by omega, (Blk.new w3 _ _).cell _⟩
    · exact ⟨s, by omega, (Blk.new w3 _ _).cell _⟩
    · exact ⟨t2, by omega, (Blk.new w3 _ _).cell _⟩
  have HQs := Lib.hid hQs
  have HQb := Lib.hid (show Below w.heap.size w Q by rw [← hQ]; exact HB3.out.alloc HB3.out.size _)
  have HQg := Lib.hid (Hg.out.below HQb.out)
  clear hQ hQs HB1 HB2 HB3 Ha Hh Hc Hraw Hg
  generalize w3.heap.size = A at HQs ⊢
  go_wp2_with fail
  go_loopw [13] (fun v7 wr => ∃ k : Nat, v7 = .int .i64 k ∧ k ≤ 3 ∧ Hid (strOk wr A 3 6401) ∧ Hid (Gl wr) ∧ Hid (Below w.heap.size w wr)) (fun v7 _ => 3 - (intOf v7).toNat)
  case atStart => exact ⟨0, rfl, by omega, HQs, HQg, HQb⟩
  case round =>
    obtain ⟨k, rfl, hk, Hs, HG, HW⟩ := hrel
    by_cases hlt : k < 3
    · obtain ⟨t, ht, hct⟩ := Hs.out k hlt
      have Hp1 := Lib.hid (parseC t wr HG.out (by omega))
      have Hp2 := Lib.hid (fun X => refParseC t X (by omega))
      have heq := refParse_story t
      rw [heq] at Hp2
      clear heq
      have Hcell := Lib.hid (show ∀ X, Below wr.heap.size wr X → X.cell? ⟨A, k, none⟩ = some (.string ⟨t.toArray⟩) from fun X hX => (hX.cell (p := ⟨A, k, none⟩) (by simpa using World.block_lt_of_cell? _ _ hct)).trans hct)
      generalize story t = r at Hp1 Hp2
      unfold ParseP at Hp1 Hp2
      unfold sv at Hp1 Hp2
      go_upto_region 7 with (go_at_call 9; refine Hp1.out.mono ?_; rintro e w1 ⟨⟨k1, c1, k2, c2, rfl, hT1⟩, D1⟩)
      have hB1 := Blk.new w1 #[.slice k1 r.evs.length c1, .slice k2 r.ans.length c2] 32
      have hD1 : Below wr.heap.size wr (w1.alloc (.cells #[.slice k1 r.evs.length c1, .slice k2 r.ans.length c2] 32)) := D1.alloc D1.size _
      have hT1' := hT1.kept ((Below.refl w1.heap.size w1).alloc (Nat.le_refl _) (.cells #[.slice k1 r.evs.length c1, .slice k2 r.ans.length c2] 32))
      generalize w1.alloc (.cells #[.slice k1 r.evs.length c1, .slice k2 r.ans.length c2] 32) = V1 at hB1 hD1 hT1' ⊢
      clear hT1 D1
      generalize w1.heap.size = T1 at hB1 ⊢
      have hct2 := Hcell.out V1 hD1
      have HB1 := Lib.hid hB1
      have HD1 := Lib.hid hD1
      have HT1 := Lib.hid hT1'
      clear hB1 hD1 hT1' hct
      go_upto_region 8 with (go_at_call 10; refine (Hp2.out V1).mono ?_; rintro e w2 ⟨⟨k3, c3, k4, c4, rfl, hT2⟩, D2⟩)
      have hB2 := Blk.new w2 #[.slice k3 r.evs.length c3, .slice k4 r.ans.length c4] 32
      have hD2 : Below V1.heap.size V1 (w2.alloc (.cells #[.slice k3 r.evs.length c3, .slice k4 r.ans.length c4] 32)) := D2.alloc D2.size _
      have hT2' := hT2.kept ((Below.refl w2.heap.size w2).alloc (Nat.le_refl _) (.cells #[.slice k3 r.evs.length c3, .slice k4 r.ans.length c4] 32))
      generalize w2.alloc (.cells #[.slice k3 r.evs.length c3, .slice k4 r.ans.length c4] 32) = V2 at hB2 hD2 hT2' ⊢
      clear hT2 D2 hct2
      generalize w2.heap.size = T2 at hB2 ⊢
      have hB12 := HB1.out.kept hD2 HB1.out.lt
      have hT12 := HT1.out.kept hD2
      have x0 := hB12.cell 0; have x1 := hB12.cell 1
      have y0 := hB2.cell 0; have y1 := hB2.cell 1
      have Hsame := Lib.hid (sameB r.evs r.evs r.ans r.ans k1 c1 k2 c2 k3 c3 k4 c4 V2 hT12 hT2' true (by simp))
      have hDD : Below wr.heap.size wr V2 := HD1.out.trans (hD2.mono HD1.out.size)
      have HDD := Lib.hid hDD
      have hbb : (r.code != r.code) = false := by simp
      generalize r.code = cd at hbb ⊢
      clear hB12 hT12 hB2 hT2' HB1 HT1 HD1 hD2 hDD Hp1 Hp2 Hcell
      go_wp2_with (go_at_call 11; refine Hsame.out.mono ?_; rintro e w3 ⟨rfl, D3⟩)
      have hD3 : Below wr.heap.size wr w3 := HDD.out.trans (D3.mono HDD.out.size)
      go_roundw
      case rel => exact ⟨k + 1, by go_num, by omega, Lib.hid (Hs.out.kept (by omega) hD3), Lib.hid (HG.out.below hD3), Lib.hid (HW.out.trans (hD3.mono HW.out.size))⟩
      case measure => simp [intOf]; omega
    · obtain rfl : k = 3 := by omega
      have Hl := Lib.hid (livesC wr HG.out)
      unfold LivesOk at Hl
      go_wp2_with (go_at_call 12; refine Hl.out.mono ?_; rintro e w1 ⟨rfl, D1⟩)
      go_ret
      exact ⟨rfl, HW.out.trans (D1.mono HW.out.size)⟩

end Go.Proofs.YtljmonfobefiiaaGreatDoor
