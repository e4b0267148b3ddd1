/- What the generator of runs holds in memory. -/
import Derived.Test.YtaedfidfcoigoaaN9
import Derived.Deep.CutRange
namespace Go.Proofs.Ytaedfidfcoigoaa
open Go.RowKit

/-- How often each node has run. -/
def CntAt (W : World) (g k : Nat) : Prop := ∃ (arr : Array Value) (c : Nat → Nat), Blk W g arr ∧ arr.size = 4 ∧ ∀ b < 4, arr[b]? = some (I (c b : Nat)) ∧ c b ≤ k
theorem CntAt.set {W : World} {g k : Nat} (h : CntAt W g k) (b x : Nat) (hx : x ≤ k + 1) : CntAt (W.setCell ⟨g, b, none⟩ (I (x : Nat))) g (k + 1) := by
  obtain ⟨arr, c, h1, h2, h3⟩ := h
  refine ⟨_, fun a => if a = b then x else c a, h1.set b _, by rw [Array.size_setIfInBounds]; exact h2, fun a ha => ?_⟩
  by_cases e : a = b
  · subst e
    rw [Array.getElem?_setIfInBounds_self_of_lt (by rw [h2]; exact ha)]
    simp [hx]
  · rw [Array.getElem?_setIfInBounds_ne (Ne.symm e), (h3 a ha).1]
    have := (h3 a ha).2
    simp [e]
    omega

/-- Between two rounds: g: the block of the counts; vo: the steps; vf: the messages in flight; P: the blocks of the steps' slices. -/
structure RS (g k : Nat) (w W : World) (vo vf : Value) (steps : List Stp) (xs : List Value) (fl : List Msg) (P : Nat → Prop) : Prop where
  cnt : CntAt W g k
  oo : W.ownsRow (g + 1) 55 11 vo steps.length xs
  of : W.ownsRow (g + 1) 50 5 vf fl.length (fl.flatMap Msg.cells)
  sc : StpCellsP P W steps xs
  dj : ∀ b, vo.ownBlock = some b → vf.ownBlock ≠ some b
  pl : ∀ b, P b → g < b ∧ b < W.heap.size ∧ vo.ownBlock ≠ some b ∧ vf.ownBlock ≠ some b
  gl : g < W.heap.size
  be : Below g w W
  ok : ∀ s ∈ steps, s.asks.length ≤ 1 ∧ s.sent.length ≤ 2
  nf : fl.length ≤ 2 * k
theorem RS.start (w : World) (W : World) (hW : CntAt W w.heap.size 0) (hb : Below w.heap.size w W) (hg : w.heap.size < W.heap.size) : RS w.heap.size 0 w W (.slice none 0 0) (.slice none 0 0) [] [] [] (fun _ => False) where
  cnt := hW
  oo := World.ownsRow_nil _ _ _ _
  of := World.ownsRow_nil _ _ _ _
  sc := rfl
  dj := fun b h => by cases h
  pl := fun b h => h.elim
  gl := hg
  be := hb
  ok := fun s hs => by simp at hs
  nf := by simp
theorem own_lt {W : World} {B : Nat} {e : TypeId} {k : Nat} {v : Value} {n : Nat} {xs : List Value} (h : W.ownsRow B e k v n xs) {g : Nat} (hg : v.ownBlock = some g) : B ≤ g ∧ g < W.heap.size := h.lt g hg
theorem own_inP {W : World} {B : Nat} {e : TypeId} {k : Nat} {v : Value} {n : Nat} {xs : List Value} (_ : W.ownsRow B e k v n xs) {P : Nat → Prop} (hP : ∀ g, v.ownBlock = some g → P g) : InP P v := fun b o n c e => hP b (by rw [e]; rfl)

/-- The cells of a step that is being made. -/
def rowOf (e : Ev) (o : Bool) (va vs : Value) : Array Value := #[I e.kind, I e.node, I e.arg, I e.msg.node, I e.msg.handler, I e.msg.count, I e.msg.index, I e.msg.copy, va, .bool o, vs]

/-- Within a round that began at wr: the step's box lies at wr's size, the cause's box behind it; fb: the block that the messages in flight had. -/
structure RM (g k : Nat) (w wr : World) (fb : Option Nat) (cz : Array Value) (wc : World) (ev : Ev) (obs : Bool) (va : Value) (asks : List Ask) (vs : Value) (sent : List Msg) (vf : Value) (fl : List Msg) : Prop where
  sm : Same (fun b => b < wr.heap.size ∧ b ≠ g ∧ fb ≠ some b) wr wc
  cnt : CntAt wc g (k + 1)
  cs : Blk wc (wr.heap.size + 1) cz
  s : Blk wc wr.heap.size (rowOf ev obs va vs)
  be : Below g w wc
  gl : g < wr.heap.size
  sz : wr.heap.size + 2 ≤ wc.heap.size
  fo : wc.ownsRow (g + 1) 50 5 vf fl.length (fl.flatMap Msg.cells)
  so : wc.ownsRow (wr.heap.size + 2) 50 5 vs sent.length (sent.flatMap Msg.cells)
  ao : wc.ownsRow (wr.heap.size + 2) 59 7 va asks.length (asks.flatMap Ask.cells)
  fd : ∀ b, vf.ownBlock = some b → fb = some b ∨ wr.heap.size + 2 ≤ b
  sd : ∀ b, vs.ownBlock = some b → vf.ownBlock ≠ some b
  ad : ∀ b, va.ownBlock = some b → vf.ownBlock ≠ some b ∧ vs.ownBlock ≠ some b
theorem RM.kept {g k : Nat} {w wr wc wd : World} {fb : Option Nat} {cz : Array Value} {ev : Ev} {obs : Bool} {va vs vf : Value} {asks : List Ask} {sent fl : List Msg} (h : RM g k w wr fb cz wc ev obs va asks vs sent vf fl) (hb : Below wc.heap.size wc wd) :
    RM g k w wr fb cz wd ev obs va asks vs sent vf fl :=
  have hS : Same (fun b => b < wc.heap.size) wc wd := Same.below hb fun _ h => h
  have hz := h.sz
  have hg := h.gl
  { h with
    sm := h.sm.trans (hS.weak fun b hb => by omega)
    cnt := by obtain ⟨a, c, h1, h2⟩ := h.cnt; exact ⟨a, c, hS.blk h1 h1.lt, h2⟩
    cs := hS.blk h.cs h.cs.lt
    s := hS.blk h.s h.s.lt
    be := h.be.trans (hb.mono (by omega))
    sz := Nat.le_trans hz hb.size
    fo := hS.own h.fo fun g hg => (own_lt h.fo hg).2
    so := hS.own h.so fun g hg => (own_lt h.so hg).2
    ao := hS.own h.ao fun g hg => (own_lt h.ao hg).2 }
theorem RM.store {g k : Nat} {w wr wc : World} {fb : Option Nat} {cz : Array Value} {ev ev' : Ev} {obs obs' : Bool} {va vs vf : Value} {asks : List Ask} {sent fl : List Msg} (h : RM g k w wr fb cz wc ev obs va asks vs sent vf fl) (i : Nat) (x : Value)
    (he : (rowOf ev obs va vs).setIfInBounds i x = rowOf ev' obs' va vs) (hf : fb ≠ some wr.heap.size) : RM g k w wr fb cz (wc.setCell ⟨wr.heap.size, i, none⟩ x) ev' obs' va asks vs sent vf fl :=
  have hz := h.sz
  have hg := h.gl
  have hS : Same (fun b => b ≠ wr.heap.size) wc (wc.setCell ⟨wr.heap.size, i, none⟩ x) := (Same.refl _ wc).set _ _ (fun h => h rfl)
  { h with
    sm := h.sm.trans (hS.weak fun b hb => by omega)
    cnt := by obtain ⟨a, c, h1, h2⟩ := h.cnt; exact ⟨a, c, hS.blk h1 (by omega), h2⟩
    cs := hS.blk h.cs (by omega)
    s := by rw [← he]; exact h.s.set i x
    be := h.be.setCell (by simp; omega) _
    sz := by simpa using hz
    fo := hS.own h.fo fun b hb e => by
      subst e
      rcases h.fd _ hb with h1 | h1
      · exact hf h1
      · omega
    so := hS.own h.so fun b hb => by have := (own_lt h.so hb).1; omega
    ao := hS.own h.ao fun b hb => by have := (own_lt h.ao hb).1; omega }
/-- One more message in flight. -/
theorem RM.flight {g k : Nat} {w wr wc wd : World} {fb : Option Nat} {cz : Array Value} {ev : Ev} {obs : Bool} {va vs vf vf' : Value} {asks : List Ask} {sent fl fl' : List Msg} (h : RM g k w wr fb cz wc ev obs va asks vs sent vf fl)
    (ho : wd.ownsRow (g + 1) 50 5 vf' fl'.length (fl'.flatMap Msg.cells)) (hgr : wc.grownBy wd vf.ownBlock) (hn : ∀ b, vf'.ownBlock = some b → vf.ownBlock = some b ∨ b = wc.heap.size) (hb : Below g wc wd) (hf : ∀ b, fb = some b → b < wr.heap.size ∧ b ≠ g) :
    RM g k w wr fb cz wd ev obs va asks vs sent vf' fl' :=
  have hz := h.sz
  have hg := h.gl
  have hS : Same (fun b => b < wc.heap.size ∧ vf.ownBlock ≠ some b) wc wd := Same.grown hgr fun b hb => ⟨hb.1, fun e => hb.2 e.symm⟩
  have hk : ∀ b, (b < wr.heap.size + 2 ∧ fb ≠ some b) → b < wc.heap.size ∧ vf.ownBlock ≠ some b := fun b hb => ⟨by omega, fun e => by
    rcases h.fd b e with h1 | h1
    · exact hb.2 h1
    · omega⟩
  { h with
    sm := h.sm.trans (hS.weak fun b hb => hk b ⟨by omega, hb.2.2⟩)
    cnt := by obtain ⟨a, c, h1, h2⟩ := h.cnt; exact ⟨a, c, hS.blk h1 (hk g ⟨by omega, fun e => (hf g e).2 rfl⟩), h2⟩
    cs := hS.blk h.cs (hk _ ⟨by omega, fun e => by have := (hf _ e).1; omega⟩)
    s := hS.blk h.s (hk _ ⟨by omega, fun e => by have := (hf _ e).1; omega⟩)
    be := h.be.trans hb
    sz := Nat.le_trans hz hgr.size
    fo := ho
    so := hS.own h.so fun b hb => ⟨(own_lt h.so hb).2, h.sd b hb⟩
    ao := hS.own h.ao fun b hb => ⟨(own_lt h.ao hb).2, (h.ad b hb).1⟩
    fd := fun b hb => by
      rcases hn b hb with h1 | h1
      · exact h.fd b h1
      · exact .inr (by omega)
    sd := fun b hb e => by
      rcases hn b e with h1 | h1
      · exact h.sd b hb h1
      · have := (own_lt h.so hb).2; omega
    ad := fun b hb => ⟨fun e => by
      rcases hn b e with h1 | h1
      · exact (h.ad b hb).1 h1
      · have := (own_lt h.ao hb).2; omega, (h.ad b hb).2⟩ }
/-- One more message is sent; the slice has not been stored yet: then it is. -/
theorem RM.send {g k : Nat} {w wr wc wd : World} {fb : Option Nat} {cz : Array Value} {ev : Ev} {obs : Bool} {va vs vs' vf : Value} {asks : List Ask} {sent sent' fl : List Msg} (h : RM g k w wr fb cz wc ev obs va asks vs sent vf fl)
    (ho : wd.ownsRow (wr.heap.size + 2) 50 5 vs' sent'.length (sent'.flatMap Msg.cells)) (hgr : wc.grownBy wd vs.ownBlock) (hn : ∀ b, vs'.ownBlock = some b → vs.ownBlock = some b ∨ b = wc.heap.size) (hb : Below (wr.heap.size + 2) wc wd) (hf : ∀ b, fb = some b → b < wr.heap.size ∧ b ≠ g) :
    RM g k w wr fb cz (wd.setCell ⟨wr.heap.size, 10, none⟩ vs') ev obs va asks vs' sent' vf fl :=
  have hz := h.sz
  have hg := h.gl
  have hS0 : Same (fun b => b < wc.heap.size ∧ vs.ownBlock ≠ some b) wc wd := Same.grown hgr fun b hb => ⟨hb.1, fun e => hb.2 e.symm⟩
  have hS : Same (fun b => b < wc.heap.size ∧ vs.ownBlock ≠ some b ∧ b ≠ wr.heap.size) wc (wd.setCell ⟨wr.heap.size, 10, none⟩ vs') := (hS0.weak fun b hb => ⟨hb.1, hb.2.1⟩).set _ _ (fun h => h.2.2 rfl)
  have hlo : ∀ b, b < wr.heap.size + 2 → vs.ownBlock ≠ some b := fun b hb e => by have := (own_lt h.so e).1; omega
  { h with
    sm := h.sm.trans (hS.weak fun b hb => ⟨by omega, hlo b (by omega), by omega⟩)
    cnt := by obtain ⟨a, c, h1, h2⟩ := h.cnt; exact ⟨a, c, hS.blk h1 ⟨by omega, hlo _ (by omega), by omega⟩, h2⟩
    cs := hS.blk h.cs ⟨by omega, hlo _ (by omega), by omega⟩
    s := (hS0.blk h.s ⟨by omega, hlo _ (by omega)⟩).set 10 vs'
    be := (h.be.trans (hb.mono (by omega))).setCell (by simp; omega) _
    sz := by simp only [World.size_setCell]; exact Nat.le_trans hz hgr.size
    fo := hS.own h.fo fun b hb => ⟨(own_lt h.fo hb).2, fun e => h.sd b e hb, fun e => by
      subst e
      rcases h.fd _ hb with h1 | h1
      · have := (hf _ h1).1; omega
      · omega⟩
    so := own_set ho _ _ (by simp)
    ao := hS.own h.ao fun b hb => ⟨(own_lt h.ao hb).2, (h.ad b hb).2, by have := (own_lt h.ao hb).1; omega⟩
    sd := fun b hb e => by
      rcases hn b hb with h1 | h1
      · exact h.sd b h1 e
      · have := (own_lt h.fo e).2; omega
    ad := fun b hb => ⟨(h.ad b hb).1, fun e => by
      rcases hn b e with h1 | h1
      · exact (h.ad b hb).2 h1
      · have := (own_lt h.ao hb).2; omega⟩ }
/-- A question is answered. -/
theorem RM.ask {g k : Nat} {w wr wc wd : World} {fb : Option Nat} {cz : Array Value} {ev : Ev} {obs : Bool} {va va' vs vf : Value} {asks asks' : List Ask} {sent fl : List Msg} (h : RM g k w wr fb cz wc ev obs va asks vs sent vf fl)
    (ho : wd.ownsRow (wr.heap.size + 2) 59 7 va' asks'.length (asks'.flatMap Ask.cells)) (hgr : wc.grownBy wd va.ownBlock) (hn : ∀ b, va'.ownBlock = some b → va.ownBlock = some b ∨ b = wc.heap.size) (hb : Below (wr.heap.size + 2) wc wd) (hf : ∀ b, fb = some b → b < wr.heap.size ∧ b ≠ g) :
    RM g k w wr fb cz (wd.setCell ⟨wr.heap.size, 8, none⟩ va') ev obs va' asks' vs sent vf fl :=
  have hz := h.sz
  have hg := h.gl
  have hS0 : Same (fun b => b < wc.heap.size ∧ va.ownBlock ≠ some b) wc wd := Same.grown hgr fun b hb => ⟨hb.1, fun e => hb.2 e.symm⟩
  have hS : Same (fun b => b < wc.heap.size ∧ va.ownBlock ≠ some b ∧ b ≠ wr.heap.size) wc (wd.setCell ⟨wr.heap.size, 8, none⟩ va') := (hS0.weak fun b hb => ⟨hb.1, hb.2.1⟩).set _ _ (fun h => h.2.2 rfl)
  have hlo : ∀ b, b < wr.heap.size + 2 → va.ownBlock ≠ some b := fun b hb e => by have := (own_lt h.ao e).1; omega
  { h with
    sm := h.sm.trans (hS.weak fun b hb => ⟨by omega, hlo b (by omega), by omega⟩)
    cnt := by obtain ⟨a, c, h1, h2⟩ := h.cnt; exact ⟨a, c, hS.blk h1 ⟨by omega, hlo _ (by omega), by omega⟩, h2⟩
    cs := hS.blk h.cs ⟨by omega, hlo _ (by omega), by omega⟩
    s := (hS0.blk h.s ⟨by omega, hlo _ (by omega)⟩).set 8 va'
    be := (h.be.trans (hb.mono (by omega))).setCell (by simp; omega) _
    sz := by simp only [World.size_setCell]; exact Nat.le_trans hz hgr.size
    fo := hS.own h.fo fun b hb => ⟨(own_lt h.fo hb).2, fun e => (h.ad b e).1 hb, fun e => by
      subst e
      rcases h.fd _ hb with h1 | h1
      · have := (hf _ h1).1; omega
      · omega⟩
    so := hS.own h.so fun b hb => ⟨(own_lt h.so hb).2, fun e => (h.ad b e).2 hb, by have := (own_lt h.so hb).1; omega⟩
    ao := own_set ho _ _ (by simp)
    ad := fun b hb => by
      rcases hn b hb with h1 | h1
      · exact h.ad b h1
      · exact ⟨fun e => by have := (own_lt h.fo e).2; omega, fun e => by have := (own_lt h.so e).2; omega⟩ }

theorem RM.start {g k : Nat} {w wr : World} {vo vf : Value} {steps : List Stp} {xs : List Value} {fl : List Msg} {P : Nat → Prop} (hR : RS g k w wr vo vf steps xs fl P) (nd x : Nat) (hx : x ≤ k + 1) (cz : Array Value) :
    RM g k w wr vf.ownBlock cz (((wr.setCell ⟨g, nd, none⟩ (I (x : Nat))).alloc (.cells (rowOf ⟨0, nd, 0, ⟨0, 0, 0, 0, 0⟩⟩ false (.slice none 0 0) (.slice none 0 0)) 55)).alloc (.cells cz 48)) ⟨0, nd, 0, ⟨0, 0, 0, 0, 0⟩⟩ false (.slice none 0 0) [] (.slice none 0 0) [] vf fl :=
  have hg := hR.gl
  have hB : Below wr.heap.size (wr.setCell ⟨g, nd, none⟩ (I (x : Nat))) (((wr.setCell ⟨g, nd, none⟩ (I (x : Nat))).alloc (.cells (rowOf ⟨0, nd, 0, ⟨0, 0, 0, 0, 0⟩⟩ false (.slice none 0 0) (.slice none 0 0)) 55)).alloc (.cells cz 48)) :=
    ((Below.refl _ _).alloc (by simp) _).alloc (by simp) _
  have hS : Same (fun b => b < wr.heap.size) (wr.setCell ⟨g, nd, none⟩ (I (x : Nat))) (((wr.setCell ⟨g, nd, none⟩ (I (x : Nat))).alloc (.cells (rowOf ⟨0, nd, 0, ⟨0, 0, 0, 0, 0⟩⟩ false (.slice none 0 0) (.slice none 0 0)) 55)).alloc (.cells cz 48)) := Same.below hB fun _ h => h
  { sm := ((Same.refl _ wr).set _ _ (fun h => h.2.1 rfl)).trans (hS.weak fun b hb => hb.1)
    cnt := by
      obtain ⟨a, c, h1, h2⟩ := hR.cnt.set nd x hx
      exact ⟨a, c, hS.blk h1 hg, h2⟩
    cs := by
      have := Blk.new ((wr.setCell ⟨g, nd, none⟩ (I (x : Nat))).alloc (.cells (rowOf ⟨0, nd, 0, ⟨0, 0, 0, 0, 0⟩⟩ false (.slice none 0 0) (.slice none 0 0)) 55)) cz 48
      simpa using this
    s := by
      have := (Blk.new (wr.setCell ⟨g, nd, none⟩ (I (x : Nat))) (rowOf ⟨0, nd, 0, ⟨0, 0, 0, 0, 0⟩⟩ false (.slice none 0 0) (.slice none 0 0)) 55).alloc (.cells cz 48)
      simpa using this
    be := (hR.be.setCell (Nat.le_refl _) _).trans (hB.mono (by omega))
    gl := hg
    sz := by simp
    fo := hS.own (own_set hR.of _ _ (by simp)) fun b hb => (own_lt hR.of hb).2
    so := World.ownsRow_nil _ _ _ _
    ao := World.ownsRow_nil _ _ _ _
    fd := fun b hb => .inl hb
    sd := fun b hb => by cases hb
    ad := fun b hb => by cases hb }

/-- The event is there. -/
def RMA (g k : Nat) (w wr : World) (fb : Option Nat) (cz : Array Value) (vf : Value) (fl : List Msg) (wc : World) : Prop := ∃ ev obs, RM g k w wr fb cz wc ev obs (.slice none 0 0) [] (.slice none 0 0) [] vf fl
theorem RM.toA {g k : Nat} {w wr wc : World} {fb : Option Nat} {cz : Array Value} {ev : Ev} {obs : Bool} {vf : Value} {fl : List Msg} (h : RM g k w wr fb cz wc ev obs (.slice none 0 0) [] (.slice none 0 0) [] vf fl) : RMA g k w wr fb cz vf fl wc := ⟨ev, obs, h⟩
theorem own_new {g : Nat} {n cap : Nat} {v : Value} {m : Nat} (h : v.ownBlock = some g ∨ g = m) : ∀ b, (Value.slice (some ⟨g, 0, none⟩) n cap).ownBlock = some b → v.ownBlock = some b ∨ b = m := fun b hb => by
  have e : g = b := by simpa [Value.ownBlock] using hb
  subst e
  exact h
theorem msgs_snoc (l : List Msg) (m : Msg) : (l ++ [m]).flatMap Msg.cells = l.flatMap Msg.cells ++ m.cells := by simp
theorem asks_snoc (l : List Ask) (m : Ask) : (l ++ [m]).flatMap Ask.cells = l.flatMap Ask.cells ++ m.cells := by simp

def RMC (g k : Nat) (w wr : World) (fb : Option Nat) (cz : Array Value) (ev : Ev) (obs : Bool) (vs : Value) (sent : List Msg) (vf : Value) (fl : List Msg) (wc : World) : Prop := ∃ va asks, RM g k w wr fb cz wc ev obs va asks vs sent vf fl ∧ asks.length ≤ 1
theorem RM.toC {g k : Nat} {w wr wc : World} {fb : Option Nat} {cz : Array Value} {ev : Ev} {obs : Bool} {va vs vf : Value} {asks : List Ask} {sent fl : List Msg} (h : RM g k w wr fb cz wc ev obs va asks vs sent vf fl) (ha : asks.length ≤ 1) : RMC g k w wr fb cz ev obs vs sent vf fl wc := ⟨va, asks, h, ha⟩
theorem RS.out {g k : Nat} {w wb wc : World} {vo vf vf' : Value} {steps : List Stp} {xs : List Value} {fl fl' : List Msg} {P : Nat → Prop} {cz : Array Value} {ev : Ev} {obs : Bool} {va vs : Value} {asks : List Ask} {sent : List Msg}
    (hR : RS g k w wb vo vf steps xs fl P) (h : RM g k w wb vf.ownBlock cz wc ev obs va asks vs sent vf' fl') : wc.ownsRow (g + 1) 55 11 vo steps.length xs :=
  h.sm.own hR.oo fun b hb => ⟨(own_lt hR.oo hb).2, by have := (own_lt hR.oo hb).1; omega, hR.dj b hb⟩
theorem RS.next {g k : Nat} {w wb wc w8 : World} {vo vo' vf vf' : Value} {steps : List Stp} {xs : List Value} {fl fl' : List Msg} {P : Nat → Prop} {cz : Array Value} {ev : Ev} {obs : Bool} {va vs : Value} {asks : List Ask} {sent : List Msg}
    (hR : RS g k w wb vo vf steps xs fl P) (h : RM g k w wb vf.ownBlock cz wc ev obs va asks vs sent vf' fl') (hfl : fl'.length ≤ 2 * (k + 1)) (hal : asks.length ≤ 1) (hsl : sent.length ≤ 2)
    (ho : w8.ownsRow (g + 1) 55 11 vo' (steps.length + 1) (xs ++ (rowOf ev obs va vs).toList)) (hgr : (wc.alloc (.cells (rowOf ev obs va vs) 55)).grownBy w8 vo.ownBlock) (hn : ∀ b, vo'.ownBlock = some b → vo.ownBlock = some b ∨ b = (wc.alloc (.cells (rowOf ev obs va vs) 55)).heap.size) (hb : Below (g + 1) (wc.alloc (.cells (rowOf ev obs va vs) 55)) w8) :
    ∃ P', RS g (k + 1) w w8 vo' vf' (steps ++ [⟨ev, asks, obs, sent⟩]) (xs ++ (rowOf ev obs va vs).toList) fl' P' := by
  have hz := h.sz
  have hg := h.gl
  have hA : Below wc.heap.size wc (wc.alloc (.cells (rowOf ev obs va vs) 55)) := (Below.refl _ _).alloc (Nat.le_refl _) _
  have hs8 : wc.heap.size < w8.heap.size := by have := hgr.size; simp at this; omega
  have hS : Same (fun b => b < wc.heap.size ∧ vo.ownBlock ≠ some b) wc w8 :=
    (Same.below hA fun b hb => hb.1).trans (Same.grown hgr fun b hb => ⟨by simp; omega, fun e => hb.2 e.symm⟩)
  have hvo : ∀ b, vo.ownBlock = some b → b < wb.heap.size ∧ g < b := fun b hb => by have := own_lt hR.oo hb; omega
  have hfo : ∀ b, vf'.ownBlock = some b → vo.ownBlock ≠ some b := fun b hb e => by
    rcases h.fd b hb with h1 | h1
    · exact hR.dj b e h1
    · have := (hvo b e).1; omega
  have hPf : ∀ b, P b → vf'.ownBlock ≠ some b := fun b hb e => by
    rcases h.fd b e with h1 | h1
    · exact (hR.pl b hb).2.2.2 h1
    · have := (hR.pl b hb).2.1; omega
  have hn' : ∀ b, vo'.ownBlock = some b → vo.ownBlock = some b ∨ wc.heap.size < b := fun b hb => by
    rcases hn b hb with h1 | h1
    · exact .inl h1
    · simp at h1; exact .inr (by omega)
  have hw1 : ∀ b, b < wb.heap.size → b < wc.heap.size := fun b hb => by omega
  refine ⟨fun b => P b ∨ va.ownBlock = some b ∨ vs.ownBlock = some b, ?_, ?_, ?_, ?_, ?_, ?_, ?_, ?_, ?_, ?_⟩
  · obtain ⟨a, c, h1, h2⟩ := h.cnt
    exact ⟨a, c, hS.blk h1 ⟨by omega, fun e => by have := (hvo _ e).2; omega⟩, h2⟩
  · rw [List.length_append]; exact ho
  · exact hS.own h.fo fun b hb => ⟨(own_lt h.fo hb).2, hfo b hb⟩
  · have h1 := (hR.sc.kept (h.sm.weak fun b hb => ⟨(hR.pl b hb).2.1, by have := (hR.pl b hb).1; omega, (hR.pl b hb).2.2.2⟩)).kept (hS.weak fun b hb => ⟨hw1 b (hR.pl b hb).2.1, (hR.pl b hb).2.2.1⟩)
    have ha := hS.own h.ao fun b hb => ⟨(own_lt h.ao hb).2, fun e => by have := (hvo _ e).1; have := (own_lt h.ao hb).1; omega⟩
    have hs := hS.own h.so fun b hb => ⟨(own_lt h.so hb).2, fun e => by have := (hvo _ e).1; have := (own_lt h.so hb).1; omega⟩
    exact (h1.weak fun b hb => .inl hb).snoc (s := ⟨ev, asks, obs, sent⟩) ⟨Flat.of_owns ha, own_inP ha fun b hb => .inr (.inl hb)⟩ ⟨Flat.of_owns hs, own_inP hs fun b hb => .inr (.inr hb)⟩
  · intro b hb e
    rcases hn' b hb with h1 | h1
    · exact hfo b e h1
    · have := (own_lt h.fo e).2; omega
  · intro b hb
    rcases hb with hb | hb | hb
    · have h1 := hR.pl b hb
      exact ⟨h1.1, by omega, fun e => by
        rcases hn' b e with h2 | h2
        · exact h1.2.2.1 h2
        · omega, hPf b hb⟩
    · have h1 := own_lt h.ao hb
      exact ⟨by omega, by omega, fun e => by
        rcases hn' b e with h2 | h2
        · have := (hvo _ h2).1; omega
        · omega, (h.ad b hb).1⟩
    · have h1 := own_lt h.so hb
      exact ⟨by omega, by omega, fun e => by
        rcases hn' b e with h2 | h2
        · have := (hvo _ h2).1; omega
        · omega, h.sd b hb⟩
  · omega
  · exact (h.be.trans (hA.mono (by omega))).trans (hb.mono (by omega))
  · intro s hs
    rcases List.mem_append.1 hs with h1 | h1
    · exact hR.ok s h1
    · simp at h1
      subst h1
      exact ⟨hal, hsl⟩
  · exact hfl

end Go.Proofs.Ytaedfidfcoigoaa
