import Derived.OrdersHeld
import Derived.StillTail
import Derived.Deep.RegionHeld3
import Derived.OrdersIn
import Derived.TacticsIn
import Derived.Test.YtljmonfobefiiaaGreatDoorUP5A
import Derived.Deep.RegionLaw
import Derived.BigRegion
import Derived.Deep.CutRange
/- A region that draws its order, taken in one order of one's own choice: what yields its value in every world that meets S is taken first, what moves the world stands in a row, and the tail, which waits for all of it, is asked nothing of S. -/
namespace Go.Proofs.YtljmonfobefiiaaGreatDoor
open Go

section
variable {P : Program} {ops : Array Oper} {Q : Exit → Act → World → Prop} {md : Region.Mode} {S : World → Prop}

/-- The head of a region, in whatever order; behind each operation S holds; behind the last one L. -/
def wpHd (P : Program) (md : Region.Mode) (ops : Array Oper) (Q : Exit → Act → World → Prop) (S : World → Prop) (n : Nat) (L : Array Bool → Act → World → Prop) : Nat → Array Bool → Act → World → Prop
  | 0, listed, a, w => L listed a w
  | f + 1, listed, a, w =>
    Region.ready md ops listed ≠ [] ∧ ∀ i ∈ Region.ready md ops listed, i < n ∧ wpOp P ops Q i (fun a' w' => S w' ∧ wpHd P md ops Q S n L f (listed.setIfInBounds i true) a' w') a w

theorem wpAny_of_hd {n g : Nat} {L : Array Bool → Act → World → Prop} (hL : ∀ listed a w, L listed a w → wpAny P md ops Q g listed a w) :
    ∀ (f : Nat) (listed : Array Bool) (a : Act) (w : World), wpHd P md ops Q S n L f listed a w → wpAny P md ops Q (f + g) listed a w
  | 0, listed, a, w, h => by rw [Nat.zero_add]; exact hL _ _ _ h
  | f + 1, listed, a, w, h => by
    rw [show f + 1 + g = (f + g) + 1 by omega]
    exact ⟨fun h0 => absurd h0 h.1, fun i hi => wpOp_mono (fun a' w' h' => wpAny_of_hd hL f _ a' w' h'.2) (h.2 i hi).2⟩

/-- No tail: or a tail that waits for all of the head. -/
def tailOk (md : Region.Mode) (ops : Array Oper) (n : Nat) : Bool := decide (n = ops.size) || (decide (n < ops.size) && Region.sinkB md ops n && Region.chainB md ops n)

theorem tailOk_lt {n i : Nat} {listed : Array Bool} (ht : tailOk md ops n = true) (inv : HeadInv md ops n listed) (hin : i < n) (hun : listed.getD i true = false) : ∀ j ∈ Region.ready md ops listed, j < n := by
  intro j hj
  simp only [tailOk, Bool.or_eq_true, Bool.and_eq_true, decide_eq_true_eq] at ht
  rcases ht with rfl | ⟨⟨h1, h2⟩, h3⟩
  · obtain ⟨_, o, ho, _⟩ := mem_ready.1 hj
    exact (Array.getElem?_eq_some_iff.1 ho).1
  · rcases Nat.lt_or_ge j n with h | h
    · exact h
    · exact absurd hj (tail_waits h2 h3 h1 inv _ i rfl hin hun j h)

theorem wpHd_first {n i : Nat} {oi : Oper} {v : Value} {L : Array Bool → Act → World → Prop} (hi : ops[i]? = some oi) (hsel : ∀ (j : Nat) (o : Oper) cs b, ops[j]? = some o → o.op ≠ .select cs b)
    (hQ : ∀ c a w, Q (.panic c) (a.put oi.dst v) w → Q (.panic c) a w) (ht : tailOk md ops n = true) (hin : i < n)
    (hdone : ∀ listed a w, L listed a w → ∀ j ∈ Region.ready md ops listed, n ≤ j) :
    ∀ (f : Nat) (listed : Array Bool) (a : Act) (w : World), HeadInv md ops n listed →
      (∀ j oj, ops[j]? = some oj → j ≠ i → listed.getD j true = false → (∀ e ∈ oj.after, Region.binds md e = true → e.on ≠ i) → oi.apart ops oj = true) →
      i ∈ Region.ready md ops listed → YieldsIf P ops S oi v a → S w →
      wpHd P md ops Q S n L f (listed.setIfInBounds i true) (a.put oi.dst v) w → wpHd P md ops Q S n L (f + 1) listed a w := by
  intro f
  induction f with
  | zero =>
    intro listed a w inv _ hr hy hS H
    have hun := (mem_ready.1 hr).1
    refine ⟨fun h => (by rw [h] at hr; cases hr), fun j hj => ?_⟩
    have hjn := tailOk_lt ht inv hin hun j hj
    refine ⟨hjn, ?_⟩
    by_cases hji : j = i
    · subst hji; exact hy.wpOp hi hS ⟨hS, H⟩
    · have := hdone _ _ _ H j (ready_mono hj hji)
      omega
  | succ f ih =>
    intro listed a w inv hfree hr hy hS H
    have hun := (mem_ready.1 hr).1
    refine ⟨fun h => (by rw [h] at hr; cases hr), fun j hj => ?_⟩
    have hjn := tailOk_lt ht inv hin hun j hj
    refine ⟨hjn, ?_⟩
    by_cases hji : j = i
    · subst hji; exact hy.wpOp hi hS ⟨hS, H⟩
    · have h1 := (H.2 j (ready_mono hj hji)).2
      obtain ⟨hjun, oj, hoj, hall⟩ := mem_ready.1 hj
      have hnot : ∀ e ∈ oj.after, Region.binds md e = true → e.on ≠ i := fun e he hb heq => by
        have h1 := hall e he hb
        rw [heq, getD_both hun] at h1
        cases h1
      have h2 := wpOp_putIf hoj (hfree j oj hoj hji hjun hnot) (fun cs b => hsel i oi cs b hi) (fun cs b => hsel j oj cs b hoj) hQ hy h1
      have hfree' : ∀ k ok, ops[k]? = some ok → k ≠ i → (listed.setIfInBounds j true).getD k true = false →
          (∀ e ∈ ok.after, Region.binds md e = true → e.on ≠ i) → oi.apart ops ok = true := fun k ok hk hki hun hno => by
        refine hfree k ok hk hki ?_ hno
        by_cases hjk : j = k
        · subst hjk; exact hjun
        · rw [getD_set_ne true hjk] at hun; exact hun
      refine wpOp_mono (fun a' w' h3 => ⟨h3.2.1, ih (listed.setIfInBounds j true) a' w' (inv.set hj hjn) hfree' (ready_mono hr (Ne.symm hji)) h3.1 h3.2.1 ?_⟩) h2
      rw [Array.setIfInBounds_comm _ _ hji]
      exact h3.2.2

/-- The order: an operation that is taken first (true), or the only one that may come up (false); then the tail, one behind the other. -/
def ordB (md : Region.Mode) (ops : Array Oper) (n : Nat) : List (Nat × Bool) → Array Bool → Bool
  | [], listed => Region.seqB md ops (ops.size - n) n listed
  | (i, true) :: r, listed => decide (i < n) && (Region.ready md ops listed).contains i && Region.free md ops listed i && ordB md ops n r (listed.setIfInBounds i true)
  | (i, false) :: r, listed => decide (i < n) && decide (Region.ready md ops listed = [i]) && ordB md ops n r (listed.setIfInBounds i true)

/-- What is to be shown, one operation behind the other. -/
def wpOrd (P : Program) (ops : Array Oper) (Q : Exit → Act → World → Prop) (S : World → Prop) (F : Act → World → Prop) : List (Oper × Bool) → Act → World → Prop
  | [], a, w => F a w
  | (o, true) :: r, a, w => ∃ v, YieldsIf P ops S o v a ∧ wpOrd P ops Q S F r (a.put o.dst v) w
  | (o, false) :: r, a, w => if Region.wanted o (yielded ops a.tmps) = true then Oper.wp P o a w (fun a' w' => S w' ∧ wpOrd P ops Q S F r a' w') Q else S w ∧ wpOrd P ops Q S F r (a.put o.dst undef) w

/-- The operations, in that order. -/
def pick (l : List Oper) : List (Nat × Bool) → Option (List (Oper × Bool))
  | [] => some []
  | (i, b) :: r => match l[i]?, pick l r with
    | some o, some rs => some ((o, b) :: rs)
    | _, _ => none

theorem wpHd_ord {l : List Oper} {n : Nat} {F : Act → World → Prop} (hsel : Region.noSelect l.toArray = true) (hQ : ∀ c a d v w, Q (.panic c) (a.put d v) w → Q (.panic c) a w) (ht : tailOk md l.toArray n = true) :
    ∀ (ord : List (Nat × Bool)) (rs : List (Oper × Bool)) (listed : Array Bool) (a : Act) (w : World), pick l ord = some rs → HeadInv md l.toArray n listed → ordB md l.toArray n ord listed = true → S w → wpOrd P l.toArray Q S F rs a w →
      wpHd P md l.toArray Q S n (fun listed' a' w' => Region.seqB md l.toArray (l.toArray.size - n) n listed' = true ∧ F a' w') ord.length listed a w
  | [], rs, listed, a, w, hp, inv, hB, hS, h => by
    simp only [pick, Option.some.injEq] at hp
    subst hp
    exact ⟨hB, h⟩
  | (i, b) :: r, rs, listed, a, w, hp, inv, hB, hS, h => by
    simp only [pick] at hp
    split at hp
    · rename_i o rs' ho hr
      simp only [Option.some.injEq] at hp
      subst hp
      have ho' : l.toArray[i]? = some o := by simpa using ho
      cases b with
      | true =>
        simp only [ordB, Bool.and_eq_true, decide_eq_true_eq] at hB
        obtain ⟨⟨⟨h1, h2⟩, h3⟩, h4⟩ := hB
        obtain ⟨v, hy, hK⟩ := h
        have hri : i ∈ Region.ready md l.toArray listed := by simpa using h2
        exact wpHd_first ho' (Region.noSelect_spec hsel) (fun c a w => hQ c a _ _ w) ht h1 (fun listed' a' w' hL => seqB_ready hL.1) r.length listed a w inv (Region.free_spec ho' h3) hri hy hS
          (wpHd_ord hsel hQ ht r rs' _ _ _ hr (inv.set hri h1) h4 hS hK)
      | false =>
        simp only [ordB, Bool.and_eq_true, decide_eq_true_eq] at hB
        obtain ⟨⟨h1, h2⟩, h4⟩ := hB
        refine ⟨fun h0 => by (rw [h2] at h0; cases h0), fun j hj => ?_⟩
        have hri := hj
        rw [h2] at hj
        have hji : j = i := by simpa using hj
        subst hji
        refine ⟨h1, ?_⟩
        unfold wpOp
        simp only [ho']
        have h' : if Region.wanted o (yielded l.toArray a.tmps) = true then Oper.wp P o a w (fun a' w' => S w' ∧ wpOrd P l.toArray Q S F rs' a' w') Q else S w ∧ wpOrd P l.toArray Q S F rs' (a.put o.dst undef) w := h
        split
        · rename_i hw
          rw [if_pos hw] at h'
          exact .inl (Oper.wp_mono (fun a' w' hh => ⟨hh.1, wpHd_ord hsel hQ ht r rs' _ _ _ hr (inv.set hri h1) h4 hh.1 hh.2⟩) h')
        · rename_i hw
          rw [if_neg hw] at h'
          exact ⟨h'.1, wpHd_ord hsel hQ ht r rs' _ _ _ hr (inv.set hri h1) h4 h'.1 h'.2⟩
    · cases hp

def ordOk (md : Region.Mode) (ops : Array Oper) (n : Nat) (ord : List (Nat × Bool)) : Bool :=
  Region.noSelect ops && tailOk md ops n && decide (ord.length = n) && ordB md ops n ord (Array.replicate ops.size false)

theorem put_of_tmps {Q : Exit → Act → World → Prop} (hQ : ∀ c a t w, Q (.panic c) { a with tmps := t } w → Q (.panic c) a w) : ∀ c (a : Act) d v w, Q (.panic c) (a.put d v) w → Q (.panic c) a w := by
  intro c a d v w h
  cases d with
  | none => exact h
  | some d => exact hQ c a _ w h
/-- **A region, in an order of one's own.** -/
theorem wp_region_ord {id : Nat} {a : Act} {w : World} {l : List Oper} (n : Nat) (ord : List (Nat × Bool)) (S : World → Prop) {rs : List (Oper × Bool)} {tl : List Oper} (hm : P.follows .mixedOrders = true) (hp : pick l ord = some rs) (htl : l.drop n = tl) (hB : ordOk .any l.toArray n ord = true)
    (hQ : ∀ c a t w, Q (.panic c) { a with tmps := t } w → Q (.panic c) a w) (hS : S w.drew)
    (h : wpOrd P l.toArray Q S (wpList P l.toArray Q tl) rs a w.drew) : (Code.region id l.toArray true).wp P Q a w := by
  subst htl
  simp only [ordOk, Bool.and_eq_true, decide_eq_true_eq] at hB
  obtain ⟨⟨⟨hsel, ht⟩, hlen⟩, hord⟩ := hB
  have hn : n ≤ l.length := by
    simp only [tailOk, Bool.or_eq_true, Bool.and_eq_true, decide_eq_true_eq, List.size_toArray] at ht
    omega
  have inv0 : HeadInv .any l.toArray n (Array.replicate l.toArray.size false) :=
    ⟨by simp, fun j oj _ hl => (by rw [getD_replicate_false] at hl; cases hl), fun t _ ht => getD_in (by simpa using ht) (getD_replicate_false _ _)⟩
  have H := wpHd_ord (md := .any) hsel (put_of_tmps hQ) ht ord rs _ a w.drew hp inv0 hord hS h
  refine wp_region_any hm ?_
  have := wpAny_of_hd (Q := Q) (g := l.toArray.size - n) (fun listed a' w' hL => by
    have := wpAny_of_seq (md := .any) (Q' := Q) (l.drop n) n listed a' w' (fun j => by simp [List.getElem?_drop]) (by rw [List.length_drop]; simpa using hL.1) hL.2
    rwa [List.length_drop, show l.length - n = l.toArray.size - n by simp] at this) _ _ _ _ H
  rw [hlen, show n + (l.toArray.size - n) = l.toArray.size by simp; omega] at this
  exact this

/-- Where the post of a panic hangs on the frame. -/
theorem wp_region_ordN {id : Nat} {a : Act} {w : World} {l : List Oper} (n : Nat) (ord : List (Nat × Bool)) (S : World → Prop) {rs : List (Oper × Bool)} {tl : List Oper} (hm : P.follows .mixedOrders = true) (hp : pick l ord = some rs) (htl : l.drop n = tl) (hB : ordOk .any l.toArray n ord = true) (hS : S w.drew)
    (h : wpOrd P l.toArray (NoPanic Q) S (wpList P l.toArray (NoPanic Q) tl) rs a w.drew) : (Code.region id l.toArray true).wp P Q a w :=
  Code.wp_mono NoPanic.imp (wp_region_ord n ord S hm hp htl hB (fun _ _ _ _ h => h) hS h)

theorem wpOrd_nil {F : Act → World → Prop} {a : Act} {w : World} (h : F a w) : wpOrd P ops Q S F [] a w := h
theorem wpOrd_take {F : Act → World → Prop} {a : Act} {w : World} {o : Oper} {r : List (Oper × Bool)} (v : Value) (hw : Region.wanted o (yielded ops a.tmps) = true) (hy : ∀ w, S w → (execOp a.eval o).run P w = .ok (.value v) w)
    (h : wpOrd P ops Q S F r (a.put o.dst v) w) : wpOrd P ops Q S F ((o, true) :: r) a w := ⟨v, .inl ⟨hw, hy⟩, h⟩
theorem wpOrd_leave {F : Act → World → Prop} {a : Act} {w : World} {o : Oper} {r : List (Oper × Bool)} (hw : Region.wanted o (yielded ops a.tmps) = false)
    (h : wpOrd P ops Q S F r (a.put o.dst undef) w) : wpOrd P ops Q S F ((o, true) :: r) a w := ⟨undef, .inr ⟨hw, rfl⟩, h⟩
theorem wpOrd_move {F : Act → World → Prop} {a : Act} {w : World} {o : Oper} {r : List (Oper × Bool)}
    (h : ∀ K' : Act → World → Prop, Shut (∀ a w, S w → wpOrd P ops Q S F r a w → K' a w) → if Region.wanted o (yielded ops a.tmps) = true then Oper.wp P o a w K' Q else K' (a.put o.dst undef) w) : wpOrd P ops Q S F ((o, false) :: r) a w :=
  h _ (fun _ _ hS h => ⟨hS, h⟩)
end

end Go.Proofs.YtljmonfobefiiaaGreatDoor

/- A region that draws its order, inside a fence (a round of a range over a function too), taken in one order of one's own choice. -/
namespace Go.Proofs.YtljmonfobefiiaaGreatDoor
open Go

section
variable {F : Fence} {nn : Nat} {P : Program} {ops : Array Oper} {Q : Exit → Act → World → Prop} {md : Region.Mode} {S : World → Prop}

def noDefer (ops : Array Oper) : Bool := ops.all fun o => match o.op with
  | .defer _ => false
  | _ => true
theorem noDefer_spec (h : noDefer ops = true) {j : Nat} {o : Oper} (ho : ops[j]? = some o) : ∀ c, o.op ≠ .defer c := by
  intro c hc
  have h1 := Array.all_eq_true.1 h j (Array.getElem?_eq_some_iff.1 ho).1
  have : ops[j]'(Array.getElem?_eq_some_iff.1 ho).1 = o := (Array.getElem?_eq_some_iff.1 ho).2
  rw [this, hc] at h1
  cases h1

/-- 'YieldsIf', and it is about to make no call, in whatever world. -/
def YieldsFn (P : Program) (ops : Array Oper) (S : World → Prop) (o : Oper) (v : Value) (a : Act) : Prop := YieldsIf P ops S o v a ∧ ∀ w, o.about P w a.eval = none

theorem YieldsFn.wpOpIn {i : Nat} {o : Oper} {v : Value} {a : Act} (hi : ops[i]? = some o) (hd : ∀ c, o.op ≠ .defer c) (hy : YieldsFn P ops S o v a)
    {K : Act → World → Prop} {w : World} (hS : S w) (h : K (a.put o.dst v) w) : wpOpIn F nn P ops Q i K a w := by
  unfold Go.wpOpIn
  simp only [hi]
  have hab : ∀ f, o.about P w a.eval = some f → F.fn f := fun f hf => by rw [hy.2 w] at hf; cases hf
  rcases hy.1 with ⟨hw, hv⟩ | ⟨hw, rfl⟩
  · simp only [hw, if_true, Oper.wpIn, Oper.semAt_eq _ _ _ hd, hv w hS, Oper.uponIn]; exact ⟨hab, h⟩
  · simp only [hw, Bool.false_eq_true, if_false]; exact ⟨hab, h⟩

theorem YieldsFn.of_same {o : Oper} {v : Value} {a a' : Act} (hy : YieldsFn P ops S o v a) (he : execOp a'.eval o = execOp a.eval o)
    (hw : Region.wanted o (yielded ops a'.tmps) = Region.wanted o (yielded ops a.tmps)) (hb : ∀ w, o.about P w a'.eval = o.about P w a.eval) : YieldsFn P ops S o v a' :=
  ⟨hy.1.of_same he hw, fun w => by rw [hb w]; exact hy.2 w⟩

theorem wpOpIn_putF {j : Nat} {oi oj : Oper} {v : Value} (hj : ops[j]? = some oj) (hdj : ∀ c, oj.op ≠ .defer c) (hap : oi.apart ops oj = true)
    (hsi : ∀ cs b, oi.op ≠ .select cs b) (hsj : ∀ cs b, oj.op ≠ .select cs b)
    (hQ : ∀ c a w, Q (.panic c) (a.put oi.dst v) w → Q (.panic c) a w) {K : Act → World → Prop} {a : Act} {w : World}
    (hy : YieldsFn P ops S oi v a) (h : wpOpIn F nn P ops Q j K (a.put oi.dst v) w) :
    wpOpIn F nn P ops Q j (fun a' w' => YieldsFn P ops S oi v a' ∧ K (a'.put oi.dst v) w') a w := by
  obtain ⟨h1, h2, h3⟩ := Oper.apart_spec hap
  have keep : ∀ (a : Act), YieldsFn P ops S oi v a → ∀ u, YieldsFn P ops S oi v (a.put oj.dst u) := fun a hy u =>
    hy.of_same (execOp_put oi hsi a oj.dst u h3) (wanted_put oi a oj.dst u h3) (fun w => about_put oi w a oj.dst u h3)
  have keepD : ∀ d, YieldsFn P ops S oi v { a with defers := d :: a.defers } := fun d => hy.of_same rfl rfl (fun _ => rfl)
  unfold wpOpIn at *
  simp only [hj] at *
  rw [wanted_put oj a oi.dst v h1, about_put oj w a oi.dst v h1] at h
  split
  · rename_i hw
    simp only [hw, if_true] at h
    unfold Oper.wpIn at *
    rw [about_put oj w a oi.dst v h1] at h
    refine ⟨h.1, ?_⟩
    have h := h.2
    rw [Oper.semAt_eq _ _ _ hdj, execOp_put oj hsj a oi.dst v h1] at h
    rw [Oper.semAt_eq _ _ _ hdj]
    generalize (execOp a.eval oj).run P w = r at *
    cases r with
    | ok x w' =>
      cases x <;> simp only [Oper.uponIn] at h ⊢
      case value u => exact ⟨keep a hy u, by rw [← Act.put_comm a v u h2]; exact h⟩
      case skip => exact ⟨keep a hy _, by rw [← Act.put_comm a v undef h2]; exact h⟩
      case defer d =>
        refine ⟨keep _ (keepD d) _, ?_⟩
        rw [← Act.put_comm _ v undef h2, ← Act.put_defers]
        exact h
      case enter f args =>
        refine ⟨h.1, CallsIn.mono h.2 fun e w'' he => ?_⟩
        cases e with
        | returned u => exact ⟨keep a hy u, by rw [← Act.put_comm a v u h2]; exact he⟩
        | panicked c => exact hQ _ _ _ he
        | outgrown => exact he
      case row row args => exact ⟨h.1, RowsIn.mono h.2 fun u w'' he => ⟨keep a hy u, by rw [← Act.put_comm a v u h2]; exact he⟩⟩
      case round l f tmps assign body =>
        refine ⟨h.1, RoundIn.mono h.2 fun e w'' he => ?_⟩
        cases e with
        | returned u => exact ⟨keep a hy u, by rw [← Act.put_comm a v u h2]; exact he⟩
        | panicked c => exact hQ _ _ _ he
        | outgrown => exact he
    | halt x w' =>
      cases x <;> simp only [Oper.uponIn] at h ⊢
      case panic u => exact hQ _ _ _ h
  · rename_i hw
    simp only [hw] at h
    exact ⟨h.1, keep a hy _, by rw [← Act.put_comm a v undef h2]; exact h.2⟩

def wpHdIn (F : Fence) (nn : Nat) (P : Program) (md : Region.Mode) (ops : Array Oper) (Q : Exit → Act → World → Prop) (S : World → Prop) (n : Nat) (L : Array Bool → Act → World → Prop) : Nat → Array Bool → Act → World → Prop
  | 0, listed, a, w => L listed a w
  | f + 1, listed, a, w =>
    Region.ready md ops listed ≠ [] ∧ ∀ i ∈ Region.ready md ops listed, i < n ∧ wpOpIn F nn P ops Q i (fun a' w' => S w' ∧ wpHdIn F nn P md ops Q S n L f (listed.setIfInBounds i true) a' w') a w

theorem wpAnyIn_of_hd {n g : Nat} {L : Array Bool → Act → World → Prop} (hL : ∀ listed a w, L listed a w → wpAnyIn F nn P md ops Q g listed a w) :
    ∀ (f : Nat) (listed : Array Bool) (a : Act) (w : World), wpHdIn F nn P md ops Q S n L f listed a w → wpAnyIn F nn P md ops Q (f + g) listed a w
  | 0, listed, a, w, h => by rw [Nat.zero_add]; exact hL _ _ _ h
  | f + 1, listed, a, w, h => by
    rw [show f + 1 + g = (f + g) + 1 by omega]
    exact ⟨fun h0 => absurd h0 h.1, fun i hi => wpOpIn_mono (fun a' w' h' => wpAnyIn_of_hd hL f _ a' w' h'.2) (h.2 i hi).2⟩

theorem wpHdIn_first {n i : Nat} {oi : Oper} {v : Value} {L : Array Bool → Act → World → Prop} (hi : ops[i]? = some oi) (hsel : ∀ (j : Nat) (o : Oper) cs b, ops[j]? = some o → o.op ≠ .select cs b) (hdf : noDefer ops = true)
    (hQ : ∀ c a w, Q (.panic c) (a.put oi.dst v) w → Q (.panic c) a w) (ht : tailOk md ops n = true) (hin : i < n)
    (hdone : ∀ listed a w, L listed a w → ∀ j ∈ Region.ready md ops listed, n ≤ j) :
    ∀ (f : Nat) (listed : Array Bool) (a : Act) (w : World), HeadInv md ops n listed →
      (∀ j oj, ops[j]? = some oj → j ≠ i → listed.getD j true = false → (∀ e ∈ oj.after, Region.binds md e = true → e.on ≠ i) → oi.apart ops oj = true) →
      i ∈ Region.ready md ops listed → YieldsFn P ops S oi v a → S w →
      wpHdIn F nn P md ops Q S n L f (listed.setIfInBounds i true) (a.put oi.dst v) w → wpHdIn F nn P md ops Q S n L (f + 1) listed a w := by
  intro f
  induction f with
  | zero =>
    intro listed a w inv _ hr hy hS H
    have hun := (mem_ready.1 hr).1
    refine ⟨fun h => (by rw [h] at hr; cases hr), fun j hj => ?_⟩
    have hjn := tailOk_lt ht inv hin hun j hj
    refine ⟨hjn, ?_⟩
    by_cases hji : j = i
    · subst hji; exact hy.wpOpIn hi (noDefer_spec hdf hi) hS ⟨hS, H⟩
    · have := hdone _ _ _ H j (ready_mono hj hji)
      omega
  | succ f ih =>
    intro listed a w inv hfree hr hy hS H
    have hun := (mem_ready.1 hr).1
    refine ⟨fun h => (by rw [h] at hr; cases hr), fun j hj => ?_⟩
    have hjn := tailOk_lt ht inv hin hun j hj
    refine ⟨hjn, ?_⟩
    by_cases hji : j = i
    · subst hji; exact hy.wpOpIn hi (noDefer_spec hdf hi) hS ⟨hS, H⟩
    · have h1 := (H.2 j (ready_mono hj hji)).2
      obtain ⟨hjun, oj, hoj, hall⟩ := mem_ready.1 hj
      have hnot : ∀ e ∈ oj.after, Region.binds md e = true → e.on ≠ i := fun e he hb heq => by
        have h1 := hall e he hb
        rw [heq, getD_both hun] at h1
        cases h1
      have h2 := wpOpIn_putF hoj (noDefer_spec hdf hoj) (hfree j oj hoj hji hjun hnot) (fun cs b => hsel i oi cs b hi) (fun cs b => hsel j oj cs b hoj) hQ hy h1
      have hfree' : ∀ k ok, ops[k]? = some ok → k ≠ i → (listed.setIfInBounds j true).getD k true = false →
          (∀ e ∈ ok.after, Region.binds md e = true → e.on ≠ i) → oi.apart ops ok = true := fun k ok hk hki hun hno => by
        refine hfree k ok hk hki ?_ hno
        by_cases hjk : j = k
        · subst hjk; exact hjun
        · rw [getD_set_ne true hjk] at hun; exact hun
      refine wpOpIn_mono (fun a' w' h3 => ⟨h3.2.1, ih (listed.setIfInBounds j true) a' w' (inv.set hj hjn) hfree' (ready_mono hr (Ne.symm hji)) h3.1 h3.2.1 ?_⟩) h2
      rw [Array.setIfInBounds_comm _ _ hji]
      exact h3.2.2

def wpOrdIn (F : Fence) (nn : Nat) (P : Program) (ops : Array Oper) (Q : Exit → Act → World → Prop) (S : World → Prop) (G : Act → World → Prop) : List (Oper × Bool) → Act → World → Prop
  | [], a, w => G a w
  | (o, true) :: r, a, w => ∃ v, YieldsFn P ops S o v a ∧ wpOrdIn F nn P ops Q S G r (a.put o.dst v) w
  | (o, false) :: r, a, w => if Region.wanted o (yielded ops a.tmps) = true then Oper.wpIn F nn P o a w (fun a' w' => S w' ∧ wpOrdIn F nn P ops Q S G r a' w') Q else (∀ f, o.about P w a.eval = some f → F.fn f) ∧ (S w ∧ wpOrdIn F nn P ops Q S G r (a.put o.dst undef) w)

theorem wpHdIn_ord {l : List Oper} {n : Nat} {G : Act → World → Prop} (hsel : Region.noSelect l.toArray = true) (hdf : noDefer l.toArray = true) (hQ : ∀ c a d v w, Q (.panic c) (a.put d v) w → Q (.panic c) a w) (ht : tailOk md l.toArray n = true) :
    ∀ (ord : List (Nat × Bool)) (rs : List (Oper × Bool)) (listed : Array Bool) (a : Act) (w : World), pick l ord = some rs → HeadInv md l.toArray n listed → ordB md l.toArray n ord listed = true → S w → wpOrdIn F nn P l.toArray Q S G rs a w →
      wpHdIn F nn P md l.toArray Q S n (fun listed' a' w' => Region.seqB md l.toArray (l.toArray.size - n) n listed' = true ∧ G a' w') ord.length listed a w
  | [], rs, listed, a, w, hp, inv, hB, hS, h => by
    simp only [pick, Option.some.injEq] at hp
    subst hp
    exact ⟨hB, h⟩
  | (i, b) :: r, rs, listed, a, w, hp, inv, hB, hS, h => by
    simp only [pick] at hp
    split at hp
    · rename_i o rs' ho hr
      simp only [Option.some.injEq] at hp
      subst hp
      have ho' : l.toArray[i]? = some o := by simpa using ho
      cases b with
      | true =>
        simp only [ordB, Bool.and_eq_true, decide_eq_true_eq] at hB
        obtain ⟨⟨⟨h1, h2⟩, h3⟩, h4⟩ := hB
        obtain ⟨v, hy, hK⟩ := h
        have hri : i ∈ Region.ready md l.toArray listed := by simpa using h2
        exact wpHdIn_first ho' (Region.noSelect_spec hsel) hdf (fun c a w => hQ c a _ _ w) ht h1 (fun listed' a' w' hL => seqB_ready hL.1) r.length listed a w inv (Region.free_spec ho' h3) hri hy hS
          (wpHdIn_ord hsel hdf hQ ht r rs' _ _ _ hr (inv.set hri h1) h4 hS hK)
      | false =>
        simp only [ordB, Bool.and_eq_true, decide_eq_true_eq] at hB
        obtain ⟨⟨h1, h2⟩, h4⟩ := hB
        refine ⟨fun h0 => by (rw [h2] at h0; cases h0), fun j hj => ?_⟩
        have hri := hj
        rw [h2] at hj
        have hji : j = i := by simpa using hj
        subst hji
        refine ⟨h1, ?_⟩
        unfold wpOpIn
        simp only [ho']
        have h' : if Region.wanted o (yielded l.toArray a.tmps) = true then Oper.wpIn F nn P o a w (fun a' w' => S w' ∧ wpOrdIn F nn P l.toArray Q S G rs' a' w') Q else (∀ f, o.about P w a.eval = some f → F.fn f) ∧ (S w ∧ wpOrdIn F nn P l.toArray Q S G rs' (a.put o.dst undef) w) := h
        split
        · rename_i hw
          rw [if_pos hw] at h'
          exact Oper.wpIn_mono (fun a' w' hh => ⟨hh.1, wpHdIn_ord hsel hdf hQ ht r rs' _ _ _ hr (inv.set hri h1) h4 hh.1 hh.2⟩) h'
        · rename_i hw
          rw [if_neg hw] at h'
          exact ⟨h'.1, h'.2.1, wpHdIn_ord hsel hdf hQ ht r rs' _ _ _ hr (inv.set hri h1) h4 h'.2.1 h'.2.2⟩
    · cases hp

theorem wpAnyIn_of_seq {Q' : Exit → Act → World → Prop} : ∀ (l : List Oper) (k : Nat) (listed : Array Bool) (a : Act) (w : World), (∀ j, l[j]? = ops[k + j]?) →
    Region.seqB md ops l.length k listed = true → wpListIn F nn P ops Q' l a w → wpAnyIn F nn P md ops Q' l.length listed a w
  | [], _, _, _, _, _, hB, h => ⟨by simpa [Region.seqB] using hB, h⟩
  | o :: l, k, listed, a, w, hl, hB, h => by
    have h0 : ops[k]? = some o := by simpa using (hl 0).symm
    simp only [List.length_cons, Region.seqB, Bool.and_eq_true, decide_eq_true_eq] at hB
    refine ⟨fun h1 => (by rw [hB.1] at h1; cases h1), fun i hi => ?_⟩
    rw [hB.1] at hi
    have hik : i = k := by simpa using hi
    subst hik
    have hw : wpOpIn F nn P ops Q' i (wpListIn F nn P ops Q' l) a w := by unfold wpOpIn; simp only [h0]; exact h
    exact wpOpIn_mono (fun a' w' h' => wpAnyIn_of_seq l (i + 1) _ a' w' (fun j => by have := hl (j + 1); simpa [Nat.add_assoc, Nat.add_comm 1 j] using this) hB.2 h') hw

/-- **A region, in an order of one's own, inside a fence.** -/
theorem wpIn_region_ord {id : Nat} {a : Act} {w : World} {l : List Oper} (n : Nat) (ord : List (Nat × Bool)) (S : World → Prop) {rs : List (Oper × Bool)} {tl : List Oper} (hm : P.follows .mixedOrders = true) (hp : pick l ord = some rs) (htl : l.drop n = tl) (hB : ordOk .any l.toArray n ord = true) (hdf : noDefer l.toArray = true)
    (hQ : ∀ c a t w, Q (.panic c) { a with tmps := t } w → Q (.panic c) a w) (hS : S w.drew)
    (h : wpOrdIn F nn P l.toArray Q S (wpListIn F nn P l.toArray Q tl) rs a w.drew) : (Code.region id l.toArray true).wpIn F nn P Q a w := by
  subst htl
  simp only [ordOk, Bool.and_eq_true, decide_eq_true_eq] at hB
  obtain ⟨⟨⟨hsel, ht⟩, hlen⟩, hord⟩ := hB
  have hn : n ≤ l.length := by
    simp only [tailOk, Bool.or_eq_true, Bool.and_eq_true, decide_eq_true_eq, List.size_toArray] at ht
    omega
  have inv0 : HeadInv .any l.toArray n (Array.replicate l.toArray.size false) :=
    ⟨by simp, fun j oj _ hl => (by rw [getD_replicate_false] at hl; cases hl), fun t _ ht => getD_in (by simpa using ht) (getD_replicate_false _ _)⟩
  have H := wpHdIn_ord (md := .any) hsel hdf (put_of_tmps hQ) ht ord rs _ a w.drew hp inv0 hord hS h
  refine wpIn_region_any hm ?_
  have := wpAnyIn_of_hd (Q := Q) (g := l.toArray.size - n) (fun listed a' w' hL => by
    have := wpAnyIn_of_seq (md := .any) (Q' := Q) (l.drop n) n listed a' w' (fun j => by simp [List.getElem?_drop]) (by rw [List.length_drop]; simpa using hL.1) hL.2
    rwa [List.length_drop, show l.length - n = l.toArray.size - n by simp] at this) _ _ _ _ H
  rw [hlen, show n + (l.toArray.size - n) = l.toArray.size by simp; omega] at this
  exact this

/-- Where the post of a panic hangs on the frame. -/
theorem wpIn_region_ordN {id : Nat} {a : Act} {w : World} {l : List Oper} (n : Nat) (ord : List (Nat × Bool)) (S : World → Prop) {rs : List (Oper × Bool)} {tl : List Oper} (hm : P.follows .mixedOrders = true) (hp : pick l ord = some rs) (htl : l.drop n = tl) (hB : ordOk .any l.toArray n ord = true) (hdf : noDefer l.toArray = true) (hS : S w.drew)
    (h : wpOrdIn F nn P l.toArray (NoPanic Q) S (wpListIn F nn P l.toArray (NoPanic Q) tl) rs a w.drew) : (Code.region id l.toArray true).wpIn F nn P Q a w :=
  wpIn_mono (wpIn_region_ord n ord S hm hp htl hB hdf (fun _ _ _ _ h => h) hS h) NoPanic.imp

theorem wpOrdIn_nil {G : Act → World → Prop} {a : Act} {w : World} (h : G a w) : wpOrdIn F nn P ops Q S G [] a w := h
theorem wpOrdIn_take {G : Act → World → Prop} {a : Act} {w : World} {o : Oper} {r : List (Oper × Bool)} (v : Value) (hw : Region.wanted o (yielded ops a.tmps) = true) (hab : ∀ w, o.about P w a.eval = none) (hy : ∀ w, S w → (execOp a.eval o).run P w = .ok (.value v) w)
    (h : wpOrdIn F nn P ops Q S G r (a.put o.dst v) w) : wpOrdIn F nn P ops Q S G ((o, true) :: r) a w := ⟨v, ⟨.inl ⟨hw, hy⟩, hab⟩, h⟩
theorem wpOrdIn_leave {G : Act → World → Prop} {a : Act} {w : World} {o : Oper} {r : List (Oper × Bool)} (hw : Region.wanted o (yielded ops a.tmps) = false) (hab : ∀ w, o.about P w a.eval = none)
    (h : wpOrdIn F nn P ops Q S G r (a.put o.dst undef) w) : wpOrdIn F nn P ops Q S G ((o, true) :: r) a w := ⟨undef, ⟨.inr ⟨hw, rfl⟩, hab⟩, h⟩
theorem wpOrdIn_move {G : Act → World → Prop} {a : Act} {w : World} {o : Oper} {r : List (Oper × Bool)}
    (h : ∀ K' : Act → World → Prop, Shut (∀ a w, S w → wpOrdIn F nn P ops Q S G r a w → K' a w) → if Region.wanted o (yielded ops a.tmps) = true then Oper.wpIn F nn P o a w K' Q else (∀ f, o.about P w a.eval = some f → F.fn f) ∧ K' (a.put o.dst undef) w) : wpOrdIn F nn P ops Q S G ((o, false) :: r) a w :=
  h _ (fun _ _ hS h => ⟨hS, h⟩)
end

end Go.Proofs.YtljmonfobefiiaaGreatDoor

/- poset.New at pairs that go upward: the walk. -/
namespace Go.Proofs.YtljmonfobefiiaaGreatDoor
open Go.RowKit Go.Shelf
attribute [local go_sem] Oper.semAt_some

theorem info_posetset : (Tryz.prog.info? 160).map (fun i => (i.zero, i.size, i.bytes)) = some (some (.slice none 0 0), 1, 24) := by kernel_rfl
theorem info_uint64 : (Tryz.prog.info? 143).map (fun i => (i.zero, i.size, i.bytes)) = some (some (.int .u64 0), 1, 8) := by kernel_rfl

set_option maxHeartbeats 8000000 in
set_option maxRecDepth 100000 in
theorem posetNew (n : Nat) (L : List (Nat × Nat)) (v : Value) (w : World) (hL : Flat w 2 v L.length (L.flatMap pc)) (hn : n ≤ 64) (hLb : ∀ p ∈ L, p.1 < p.2 ∧ p.2 < n) (hLl : L.length ≤ 10000)
    (f : Nat → Nat → Bool) (hf : ∀ a < n, ∀ k < n, f a k = (nxL L a).any fun b => b == k || f b k) :
    Calls Tryz.prog 99 #[I n, v] w fun e w' => ∃ p, e = .returned (.tuple #[p, I 0]) ∧ OrdRep w' p n f ∧ Below w.heap.size w w' := by
  obtain ⟨ka, ca, rfl, hml⟩ := hL.open
  have hmk := fun W => run_mk1 (P := Tryz.prog) 115 22 (.slice none 0 0) 24 n Tryz.underlying115 info_Sint rfl (by omega) (by omega) W
  have hmk2 := fun W => run_mk1 (P := Tryz.prog) 22 3 (.int .i64 0) 8 n Tryz.underlying22 info_int rfl (by omega) (by omega) W
  have Hf := Lib.hid hf
  clear hf
  refine (callsIn_wide (n := 5)).1 ?_
  refine callsIn_of_wp_marks Tryz.func99 rfl trivial ?_ rfl
  simp only [Tryz.ntmps99, List.size_toArray, List.length_cons, List.length_nil, Nat.reduceAdd, Nat.reduceSub, Array.replicate_succ, Array.replicate_zero, List.push_toArray, List.append_toArray, List.nil_append, List.cons_append]
  refine wpIn_wide.2 ?_
  go_wp2_with fail
  obtain ⟨W0, hW0, hbN, hbG, hbT, hbW, hB0, hs0⟩ : ∃ W0 : World, W0 = (((w.alloc (.cells #[I n] 3)).alloc (.cells (mk1 n (.slice none 0 0)) 22)).alloc (.cells #[.slice (some ⟨w.heap.size + 1, 0, none⟩) n n] 115)).alloc (.cells (mk1 n (.int .i64 0)) 3) ∧
      Blk W0 w.heap.size #[I n] ∧ Blk W0 (w.heap.size + 1) (mk1 n (.slice none 0 0)) ∧ Blk W0 (w.heap.size + 1 + 1) #[.slice (some ⟨w.heap.size + 1, 0, none⟩) n n] ∧ Blk W0 (w.heap.size + 1 + 1 + 1) (mk1 n (.int .i64 0)) ∧ Below w.heap.size w W0 ∧ W0.heap.size = w.heap.size + 1 + 1 + 1 + 1 := by
    refine ⟨_, rfl, (((Blk.new w #[I n] 3).alloc _).alloc _).alloc _, ?_, ?_, ?_, ((((Below.refl _ w).alloc (Nat.le_refl _) _).alloc (by simp) _).alloc (by simp; omega) _).alloc (by simp; omega) _, by simp⟩
    · have := ((Blk.new (w.alloc (.cells #[I n] 3)) (mk1 n (.slice none 0 0)) 22).alloc (.cells #[.slice (some ⟨w.heap.size + 1, 0, none⟩) n n] 115)).alloc (.cells (mk1 n (.int .i64 0)) 3)
      simpa using this
    · have := (Blk.new ((w.alloc (.cells #[I n] 3)).alloc (.cells (mk1 n (.slice none 0 0)) 22)) #[.slice (some ⟨w.heap.size + 1, 0, none⟩) n n] 115).alloc (.cells (mk1 n (.int .i64 0)) 3)
      simpa using this
    · have := Blk.new (((w.alloc (.cells #[I n] 3)).alloc (.cells (mk1 n (.slice none 0 0)) 22)).alloc (.cells #[.slice (some ⟨w.heap.size + 1, 0, none⟩) n n] 115)) (mk1 n (.int .i64 0)) 3
      simpa using this
  rw [← hW0]
  clear hW0
  go_loopw [34] (fun i wr => ∃ k : Nat, k ≤ L.length ∧ i = .int .i64 k ∧ Below W0.heap.size W0 wr) (fun i _ => L.length - (intOf i).toNat)
  case atStart => exact ⟨0, by omega, rfl, Below.refl _ _⟩
  case round =>
    obtain ⟨k, hk, rfl, hB⟩ := hrel
    have hcN := (hbN.kept hB (by omega)).cell
    by_cases hlt : k < L.length
    · have hlk := hLb L[k] (List.getElem_mem hlt)
      obtain ⟨b, o, rfl, x0, x1⟩ := pair_at ((hL.kept hB0 (Nat.le_refl _)).kept hB (Nat.le_refl _)) (i := k) (x := L[k]) (by simp [hlt])
      have hbl : b < wr.heap.size := by simpa using World.block_lt_of_cell? _ _ x0
      have hNl : w.heap.size < wr.heap.size := by have := hB.size; omega
      have hzB := hB.size
      go_wp2_with fail
      go_roundw
      case rel => exact ⟨k + 1, by omega, by go_num, hB.alloc hzB _⟩
      case measure => simp [intOf]; omega
    · clear hcN hmk hmk2
      have hzB := hB.size
      have hbN1 := hbN.kept hB (by omega)
      have hbT1 := hbT.kept hB (by omega)
      have hnx1 := NxAt.start (B := wr.heap.size) (hbG.kept hB (by omega)) (hbW.kept hB (by omega)) (by omega) (by omega) (by omega) (Nat.le_refl _)
      have hBw1 : Below w.heap.size w wr := hB0.trans (hB.mono hB0.size)
      have hn4 : w.heap.size + 1 + 1 + 1 < wr.heap.size := by omega
      obtain ⟨w1, rfl⟩ : ∃ w1 : World, w1 = wr := ⟨_, rfl⟩
      clear hB hbN hbT hbG hbW hB0 hs0 hzB
      go_wp2_with fail
      go_loopw [56] (fun i wr => ∃ (k : Nat) (arr wa : Array Value), k ≤ L.length ∧ i = .int .i64 k ∧ NxAt w1.heap.size (w.heap.size + 1) (w.heap.size + 1 + 1 + 1) n wr (L.take k) arr wa ∧ Below w.heap.size w wr ∧ Blk wr w.heap.size #[I n] ∧ Blk wr (w.heap.size + 1 + 1) #[.slice (some ⟨w.heap.size + 1, 0, none⟩) n n]) (fun i _ => L.length - (intOf i).toNat)
      case atStart => exact ⟨0, _, _, by omega, rfl, hnx1, hBw1, hbN1, hbT1⟩
      case round =>
        clear hbN1 hbT1 hnx1 hBw1
        obtain ⟨k, arr, wa, hk, rfl, hnx, hB, hbN, hbT⟩ := hrel
        by_cases hlt : k < L.length
        · obtain ⟨x, hx⟩ : ∃ x, L[k]? = some x := ⟨L[k], by simp [hlt]⟩
          have hlk := hLb x (List.mem_of_getElem? hx)
          obtain ⟨b, o, rfl, x0, x1⟩ := pair_at (hL.kept hB (Nat.le_refl _)) (i := k) (x := x) hx
          have hbl : b < wr.heap.size := by simpa using World.block_lt_of_cell? _ _ x0
          have hp1 : x.1 < n := by omega
          have hp2 : x.2 < n := hlk.2
          obtain ⟨va, hva, hrow⟩ := hnx.row x.1 (by omega)
          have htk : L.take (k + 1) = L.take k ++ [x] := by rw [List.take_add_one, hx]; rfl
          have hzW := hB.size
          have hnl := hnx.hB
          have hcG := (hnx.bn.cell x.1).trans hva
          have hcT : wr.cell? ⟨w.heap.size + 1 + 1, 0, none⟩ = some (.slice (some ⟨w.heap.size + 1, 0, none⟩) n n) := hbT.cell 0
          have hl1 : w.heap.size + 1 < wr.heap.size := by omega
          have hl2 : w.heap.size + 1 + 1 < wr.heap.size := by omega
          have hl3 : w.heap.size + 1 + 1 + 1 < wr.heap.size := by omega
          have hln : (nxL (L.take k) x.1).length ≤ 10000 := by
            unfold nxL
            rw [List.length_map]
            exact Nat.le_trans (List.length_filter_le _ _) (by rw [List.length_take]; omega)
          have hvl : va.ownBlock = none ∨ ∃ g, va.ownBlock = some g ∧ w1.heap.size ≤ g ∧ g < wr.heap.size := owns_block hrow
          have hvne : ∀ x, (x < w1.heap.size ∨ wr.heap.size ≤ x) → va.ownBlock ≠ some x := fun x hx e => by
            rcases hvl with h0 | ⟨g, h0, h1, h2⟩
            · rw [h0] at e; cases e
            · rw [h0] at e; cases e; omega
          have hsrc : ((wr.alloc (.cells #[I x.1, I x.2] 120)).alloc (.cells #[I x.2] 3)).heap[wr.heap.size + 1]? = some (.cells #[I x.2] 3 (0, 0)) := by
            have := heap_alloc_new (wr.alloc (.cells #[I x.1, I x.2] 120)) (.cells #[I x.2] 3)
            simpa using this
          have hX : Blk ((wr.alloc (.cells #[I x.1, I x.2] 120)).alloc (.cells #[I x.2] 3)) wr.heap.size #[I x.1, I x.2] := (Blk.new _ _ _).alloc _
          have hbA : Below wr.heap.size wr ((wr.alloc (.cells #[I x.1, I x.2] 120)).alloc (.cells #[I x.2] 3)) := ((Below.refl _ _).alloc (Nat.le_refl _) _).alloc (by simp) _
          have hnxA := hnx.kept hbA
          have hwt := hnx.wt _ hp2
          have HrowA := Lib.hid ((hrow.alloc (.cells #[I x.1, I x.2] 120)).alloc (.cells #[I x.2] 3))
          have Hsrc := Lib.hid hsrc
          have HX := Lib.hid hX
          have HnxA := Lib.hid hnxA
          have HbA := Lib.hid hbA
          have hv1 := hvne (w.heap.size + 1) (by omega)
          have hv2 := hvne (w.heap.size + 1 + 1 + 1) (by omega)
          have hv3 := hvne wr.heap.size (by omega)
          have Hv1 := Lib.hid hv1
          have Hv2 := Lib.hid hv2
          have Hv3 := Lib.hid hv3
          have hv4 := hvne (w.heap.size + 1 + 1) (by omega)
          have Hv4 := Lib.hid hv4
          have hv5 := hvne w.heap.size (by omega)
          have Hv5 := Lib.hid hv5
          have hwl : wtL (L.take k) x.2 ≤ 10000 := by
            unfold wtL
            exact Nat.le_trans List.count_le_length (by rw [List.length_map, List.length_take]; omega)
          have Hva := Lib.hid hva
          have Hwt := Lib.hid hwt
          have Hrow := Lib.hid hrow
          have Htk := Lib.hid htk
          have Hx := Lib.hid hx
          have hne1 : ¬ (w.heap.size + 1 = wr.heap.size) := by omega
          have hne2 : ¬ (wr.heap.size = w.heap.size + 1) := by omega
          clear hsrc hX hbA hnxA hvne hv1 hv2 hv3 hv4 hv5 hva hwt hrow htk hvl hx
          go_wp2_with fail
          obtain ⟨wx, hwx⟩ : ∃ wx, wx = wr.alloc (.cells #[I x.1, I x.2] 120) := ⟨_, rfl⟩
          have dT : wx.cell? ⟨w.heap.size + 1 + 1, 0, none⟩ = some (.slice (some ⟨w.heap.size + 1, 0, none⟩) n n) := by rw [hwx]; exact (hbT.alloc _).cell 0
          have dG : wx.cell? ⟨w.heap.size + 1, x.1, none⟩ = some va := by rw [hwx]; exact ((hnx.bn.alloc _).cell x.1).trans Hva.out
          have dX0 : wx.cell? ⟨wr.heap.size, 0, none⟩ = some (I x.1) := by rw [hwx]; exact (Blk.new _ _ _).cell 0
          have dX1 : wx.cell? ⟨wr.heap.size, 1, none⟩ = some (I x.2) := by rw [hwx]; exact (Blk.new _ _ _).cell 1
          have HN : Hid (Blk (wx.alloc (.cells #[I x.2] 3)) w.heap.size #[I n]) := Lib.hid (by rw [hwx]; exact (hbN.alloc _).alloc _)
          have HT : Hid (Blk (wx.alloc (.cells #[I x.2] 3)) (w.heap.size + 1 + 1) #[.slice (some ⟨w.heap.size + 1, 0, none⟩) n n]) := Lib.hid (by rw [hwx]; exact (hbT.alloc _).alloc _)
          rw [← hwx] at Hsrc HX HnxA HbA HrowA ⊢
          have eT : (wx.alloc (.cells #[I x.2] 3)).cell? ⟨w.heap.size + 1 + 1, 0, none⟩ = some (.slice (some ⟨w.heap.size + 1, 0, none⟩) n n) := HT.out.cell 0
          have eG : (wx.alloc (.cells #[I x.2] 3)).cell? ⟨w.heap.size + 1, x.1, none⟩ = some va := (HnxA.out.bn.cell x.1).trans Hva.out
          have eX0 : (wx.alloc (.cells #[I x.2] 3)).cell? ⟨wr.heap.size, 0, none⟩ = some (I x.1) := HX.out.cell 0
          have eX1 : (wx.alloc (.cells #[I x.2] 3)).cell? ⟨wr.heap.size, 1, none⟩ = some (I x.2) := HX.out.cell 1
          have hzx : wx.heap.size = wr.heap.size + 1 := by rw [hwx]; simp
          have Hwx := Lib.hid hwx
          clear hwx
          refine wp_region_ordN 12 [(0, true), (1, true), (2, true), (3, true), (4, true), (5, true), (6, true), (7, true), (8, true), (9, true), (10, false), (11, false)] (fun w' => w'.cell? ⟨w.heap.size + 1 + 1, 0, none⟩ = some (.slice (some ⟨w.heap.size + 1, 0, none⟩) n n) ∧ w'.cell? ⟨wr.heap.size, 0, none⟩ = some (I x.1) ∧ w'.cell? ⟨wr.heap.size, 1, none⟩ = some (I x.2) ∧ w'.cell? ⟨w.heap.size + 1, x.1, none⟩ = some va) (by kernel_rfl) rfl rfl (by kernel_rfl) ⟨dT, dX0, dX1, dG⟩ ?_
          repeat (refine wpOrd_take ?_ (by rfl) ?_ ?_; rotate_left; (intro w hSw; (try dsimp only at hSw); go_simp; try with_reducible rfl); (try simp only [Act.put, List.setIfInBounds_toArray, List.set_cons_zero, List.set_cons_succ]))
          (refine wpOrd_move (fun K hK => ?_); go_simp; refine hK.out _ _ ?_ ?_)
          · exact ⟨eT, eX0, eX1, eG⟩
          clear hK K
          (try simp only [Act.put, List.setIfInBounds_toArray, List.set_cons_zero, List.set_cons_succ])
          refine wpOrd_move (fun K hK => ?_)
          refine step_appB (by rfl) _ _ 22 (by rfl) 3 _ 1 8 Tryz.underlying22 info_int rfl (by omega) (by omega) w1.heap.size va (nxL (L.take k) x.1).length (nv (nxL (L.take k) x.1)) (by rfl) HrowA.out (wr.heap.size + 1) 1 1 #[I x.2] 3 (by rfl) Hsrc.out rfl rfl (by omega) (by omega) HnxA.out.hB ?_
          intro g cap w2 hg1 hg2 hg3 ho2 hgr2 hB2
          have hG2 := HnxA.out.bn.drew.grown hgr2 Hv1.out
          have hW2 := HnxA.out.bw.drew.grown hgr2 Hv2.out
          have hX2 := HX.out.drew.grown hgr2 Hv3.out
          have cG2 := (hG2.cell x.1).trans Hva.out
          have fG2 := hG2.frozen x.1
          have cW2 := (hW2.cell x.2).trans Hwt.out
          have fW2 := hW2.frozen x.2
          have cX0 : w2.cell? ⟨wr.heap.size, 0, none⟩ = some (I x.1) := hX2.cell 0
          have cX2 : w2.cell? ⟨wr.heap.size, 1, none⟩ = some (I x.2) := hX2.cell 1
          have cT2 : w2.cell? ⟨w.heap.size + 1 + 1, 0, none⟩ = some (.slice (some ⟨w.heap.size + 1, 0, none⟩) n n) := (HT.out.drew.grown hgr2 Hv4.out).cell 0
          refine hK.out _ _ ⟨cT2, cX0, cX2, cG2⟩ ?_
          clear hK K
          (try simp only [Act.put, List.setIfInBounds_toArray, List.set_cons_zero, List.set_cons_succ])
          refine wpOrd_nil ?_
          go_wp2_with fail
          refine NoPanic.normal ?_
          go_wp2_with fail
          go_roundw
          case rel =>
            have hst := HnxA.out.drew.step x hp1 hp2 va Hva.out g cap ho2 hgr2 (hg3.imp id (fun e => by rw [e]; exact Nat.le_refl _)) hB2.size
            have hBB : Below w.heap.size w w2 := (hB.trans (HbA.out.drew.mono (by omega))).trans (hB2.mono (by omega))
            have hN2 := HN.out.drew.grown hgr2 Hv5.out
            have hT2 := HT.out.drew.grown hgr2 Hv4.out
            rw [show ((wtL (L.take k) x.2 + 1 : Nat) : Int) = (wtL (L.take k) x.2 : Int) + 1 from by omega] at hst
            exact ⟨k + 1, _, _, by omega, by go_num, by rw [Htk.out]; exact hst, (hBB.setCell (by simp) _).setCell (by simp; omega) _, (hN2.setOther _ _ (by simp)).setOther _ _ (by simp; omega), (hT2.setOther _ _ (by simp)).setOther _ _ (by simp)⟩
          case measure => simp [intOf]; omega
        · have hkL : k = L.length := by omega
          have hnx3 := hnx
          rw [hkL, List.take_length] at hnx3
          have hcN := hbN.cell 0
          have hB13 := hnx.hB
          have hBw3 := hB.size
          have hwl : ∀ b, wtL L b ≤ 10000 := fun b => by
            unfold wtL
            exact Nat.le_trans List.count_le_length (by rw [List.length_map]; omega)
          have Hnx3 := Lib.hid hnx3
          have Hwl := Lib.hid hwl
          have hgB := hnx.lw
          have hgB' := hnx.ln
          clear hnx hnx3 hwl hkL
          obtain ⟨w3, rfl⟩ : ∃ w3 : World, w3 = wr := ⟨_, rfl⟩
          go_wp2_with fail
          go_loopw [82, 12] (fun i v wr => ∃ k : Nat, k ≤ n ∧ i = .int .i64 k ∧ wr.ownsRow w3.heap.size 3 1 v ((List.range k).filter fun i => decide (wtL L i = 0)).length (nv ((List.range k).filter fun i => decide (wtL L i = 0))) ∧ Below w3.heap.size w3 wr) (fun i _ _ => n - (intOf i).toNat)
          case atStart => exact ⟨0, by omega, rfl, World.ownsRow_nil _ _ _ _, Below.refl _ _⟩
          case round =>
            obtain ⟨k, hk, rfl, hown, hB3⟩ := hrel
            by_cases hlt : k < n
            · have hzz := hB3.size
              have cW := (Hnx3.out.wtAt.kept hB3 (by omega)).cell hlt
              have cW1 := cW.1
              have hfl : ((List.range k).filter fun i => decide (wtL L i = 0)).length ≤ 10000 := Nat.le_trans (List.length_filter_le _ _) (by rw [List.length_range]; omega)
              have hfs := Lib.hid (filter_succ (fun i => decide (wtL L i = 0)) k)
              have hsrc : (wr.alloc (.cells #[I k] 3)).heap[wr.heap.size]? = some (.cells #[I k] 3 (0, 0)) := heap_alloc_new _ _
              have Hsrc := Lib.hid hsrc
              clear cW hsrc
              by_cases hz : wtL L k = 0
              · have hz' : (((wtL L k : Nat) : Int) == 0) = true := by rw [hz]; rfl
                have Hz := Lib.hid hz
                clear hz
                go_wp2_with (at_builtin; go_must (refine wpList_appB rfl _ _ 22 rfl 3 _ 1 8 Tryz.underlying22 info_int rfl (by omega) (by omega) w3.heap.size _ _ _ rfl (hown.alloc _) wr.heap.size 1 1 #[I k] 3 rfl Hsrc.out rfl rfl (by omega) (by omega) (by simp; omega) ?_); intro g cap w4 hg1 hg2 hg3 ho4 hgr4 hB4)
                go_roundw
                case rel =>
                  refine ⟨k + 1, by omega, by go_num, ?_, (hB3.alloc hzz _).trans hB4⟩
                  have hd : decide (wtL L k = 0) = true := by rw [Hz.out]; rfl
                  rw [hfs.out, hd, if_pos rfl, nv_snoc, List.length_append]
                  exact ho4
                case measure => simp [intOf]; omega
              · have hz' : (((wtL L k : Nat) : Int) == 0) = false := by rw [beq_eq_false_iff_ne]; omega
                have Hz := Lib.hid hz
                clear hz
                go_wp2_with fail
                go_roundw
                case rel =>
                  refine ⟨k + 1, by omega, by go_num, ?_, hB3⟩
                  have hd : decide (wtL L k = 0) = false := by simp [Hz.out]
                  rw [hfs.out, hd, if_neg (by simp), List.append_nil]
                  exact hown
                case measure => simp [intOf]; omega
            · obtain rfl : k = n := by omega
              have hq0 := QAt.start (nxL L) k
              have hfe : ((List.range k).filter fun i => decide ((allS (nxL L) k).count i = 0)) = (List.range k).filter fun i => decide (wtL L i = 0) := by
                congr 1
                funext i
                rw [wt_all k i L fun p hp => by have := hLb p hp; omega]
              rw [hfe] at hq0
              have hqm : QM k (w.heap.size + 1 + 1 + 1) L w w3 wr ((List.range k).filter fun i => decide (wtL L i = 0)) [] u12 :=
                ⟨Agr.below hB3 (Nat.le_refl _), (Hnx3.out.wtAt.kept hB3 (by omega)).congr (fun b _ => by simp), hown, hB.trans (hB3.mono (by omega))⟩
              have Hq0 := Lib.hid hq0
              have Hqm := Lib.hid hqm
              have hcN4 := (hbN.kept hB3 (by omega)).cell 0
              have HbN := Lib.hid hbN
              have HbT := Lib.hid hbT
              clear hq0 hqm hfe hown hB3 hcN
              clear hbN hbT
              go_wp2_with fail
              go_loopw [14, 12] (fun i v wr => ∃ (q : Nat) (row : List Nat), q ≤ row.length ∧ i = .int .i64 q ∧ QAt (nxL L) k row ((row.take q).flatMap (nxL L)) ∧ QM k (w.heap.size + 1 + 1 + 1) L w w3 wr row ((row.take q).flatMap (nxL L)) v) (fun i _ _ => k - (intOf i).toNat)
              case atStart => exact ⟨0, _, Nat.zero_le _, rfl, Hq0.out, Hqm.out⟩
              case round =>
                clear hcN4
                obtain ⟨q, row, hq, rfl, hqa, hqm⟩ := hrel
                have hrl := hqa.length_le
                have hfr := Flat.of_owns hqm.own
                obtain ⟨ra, rc, rfl, _⟩ := hfr.open
                by_cases hlt : q < row.length
                · obtain ⟨a, ha⟩ : ∃ a, row[q]? = some a := ⟨row[q], by simp [hlt]⟩
                  have han := hqa.lt a (List.mem_of_getElem? ha)
                  obtain ⟨va, gva⟩ := Hnx3.out.read han
                  obtain ⟨g1, g2⟩ := gva wr hqm.ag
                  obtain ⟨vb, vc, rfl, _⟩ := g2.open
                  have Hva := Lib.hid gva
                  clear gva
                  obtain ⟨rb, ro, rfl, hcr⟩ := flat_nv hfr ha
                  have hagT := (hqm.ag.2 (w.heap.size + 1 + 1) 0 (by omega) (by omega)).trans (HbT.out.cell 0)
                  have dT : wr.cell? ⟨w.heap.size + 1 + 1, 0, none⟩ = some (.slice (some ⟨w.heap.size + 1, 0, none⟩) k k) := hagT
                  have hla : (nxL L a).length ≤ 10000 := by
                    unfold nxL
                    rw [List.length_map]
                    exact Nat.le_trans (List.length_filter_le _ _) (by omega)
                  have HG2 := Lib.hid g2
                  have Hqa := Lib.hid hqa
                  have Hqm := Lib.hid hqm
                  have Ha := Lib.hid ha
                  have Hfr := Lib.hid hfr
                  clear g2 hqa hqm ha hfr hagT
                  go_wp2_with fail
                  refine wp_region_ordN 9 [(0, true), (1, true), (2, true), (3, true), (4, true), (5, true), (6, true), (7, true), (8, true)] (fun w' => w'.cell? ⟨w.heap.size + 1 + 1, 0, none⟩ = some (.slice (some ⟨w.heap.size + 1, 0, none⟩) k k) ∧ w'.cell? ⟨rb, ro + q, none⟩ = some (I a) ∧ w'.cell? ⟨w.heap.size + 1, a, none⟩ = some (.slice vb (nxL L a).length vc)) (by kernel_rfl) rfl rfl (by kernel_rfl) ⟨dT, hcr, g1⟩ ?_
                  iterate 9 (refine wpOrd_take ?_ (by rfl) ?_ ?_; rotate_left; (intro w hSw; (try dsimp only at hSw); go_simp; try with_reducible rfl); (try simp only [Act.put, List.setIfInBounds_toArray, List.set_cons_zero, List.set_cons_succ]))
                  refine wpOrd_nil ?_
                  go_wp2_with fail
                  refine NoPanic.normal ?_
                  clear dT hcr g1
                  go_wp2_with fail
                  obtain ⟨wo, rfl⟩ : ∃ wo : World, wo = wr := ⟨_, rfl⟩
                  go_loopw [109, 12] (fun jv v wr => ∃ (j : Nat) (row : List Nat), j ≤ (nxL L a).length ∧ jv = .int .i64 j ∧ row[q]? = some a ∧ QAt (nxL L) k row ((row.take q).flatMap (nxL L) ++ (nxL L a).take j) ∧ QM k (w.heap.size + 1 + 1 + 1) L w w3 wr row ((row.take q).flatMap (nxL L) ++ (nxL L a).take j) v) (fun jv _ _ => (nxL L a).length - (intOf jv).toNat)
                  case atStart => exact ⟨0, row, by omega, rfl, Ha.out, by rw [List.take_zero, List.append_nil]; exact Hqa.out, by rw [List.take_zero, List.append_nil]; exact Hqm.out.drew⟩
                  case round =>
                    clear HG2 Hqa Hqm Ha Hfr hrl hlt hq
                    obtain ⟨j, row, hj, rfl, ha, hqa, hqm⟩ := hrel
                    have hrl := hqa.length_le
                    have hfr := Flat.of_owns hqm.own
                    obtain ⟨ra, rc, rfl, _⟩ := hfr.open
                    have hql := (List.getElem?_eq_some_iff.1 ha).1
                    by_cases hlt : j < (nxL L a).length
                    · obtain ⟨x, hx⟩ : ∃ x, (nxL L a)[j]? = some x := ⟨(nxL L a)[j], by simp [hlt]⟩
                      have hxk := nxL_lt hLb (List.mem_of_getElem? hx)
                      have hx2 := hxk.2
                      obtain ⟨g1, g2⟩ := Hva.out wr hqm.ag
                      obtain ⟨xb, xo, rfl, hcx⟩ := flat_nv g2 hx
                      obtain ⟨hs1, hs2, hs3, hs4⟩ := hqa.step q a ha j x hx hx2 rfl
                      rw [wt_all k x L fun p hp => by have := hLb p hp; omega] at hs2 hs3 hs4
                      obtain ⟨c, hc⟩ : ∃ c, wtL L x - ((row.take q).flatMap (nxL L) ++ (nxL L a).take j).count x = c + 1 := ⟨_, (Nat.succ_pred_eq_of_pos (by omega)).symm⟩
                      have hcl : c ≤ 10000 := by have := Hwl.out x; omega
                      have hw := hqm.wt.cell hx2
                      simp only [hc] at hw
                      rw [show ((c + 1 : Nat) : Int) = (c : Int) + 1 from by omega] at hw
                      obtain ⟨hw1, hw2⟩ := hw
                      have hset := hqm.set x c hc (by omega) (by omega)
                      have htj : (nxL L a).take (j + 1) = (nxL L a).take j ++ [x] := by rw [List.take_add_one, hx]; rfl
                      have hsrc : ((wr.setCell ⟨w.heap.size + 1 + 1 + 1, x, none⟩ (I c)).alloc (.cells #[I x] 3)).heap[wr.heap.size]? = some (.cells #[I x] 3 (0, 0)) := by
                        have := heap_alloc_new (wr.setCell ⟨w.heap.size + 1 + 1 + 1, x, none⟩ (I c)) (.cells #[I x] 3)
                        simpa using this
                      have hgr3 := hqm.ag.1
                      have Hset := Lib.hid hset
                      have Hsrc := Lib.hid hsrc
                      have Hc := Lib.hid hc
                      have Htj := Lib.hid htj
                      have Hs3 := Lib.hid hs3
                      have Hs4 := Lib.hid hs4
                      have Ha := Lib.hid ha
                      have Hs2 := Lib.hid hs2
                      clear hset hsrc hc htj hs1 hs2 hs3 hs4 ha g1 g2 hx hqa hqm hfr
                      by_cases hz : c = 0
                      · have hz' : ((c : Int) == 0) = true := by rw [hz]; rfl
                        have Hz := Lib.hid hz
                        clear hz
                        go_wp2_with (at_builtin; go_must (refine wpList_appB rfl _ _ 22 rfl 3 _ 1 8 Tryz.underlying22 info_int rfl (by omega) (by omega) w3.heap.size _ _ _ rfl (Hset.out.own.alloc _) wr.heap.size 1 1 #[I x] 3 rfl Hsrc.out rfl rfl (by omega) (by omega) (by simp; omega) ?_); intro g cap w4 hg1 hg2 hg3 ho4 hgr4 hB4)
                        go_roundw
                        case rel =>
                          have hq5 := Hs3.out (by have h1 := Hc.out; have h2 := Hz.out; have h3 := Hs2.out; omega)
                          refine ⟨j + 1, row ++ [x], by omega, by go_num, by rw [List.getElem?_append_left hql]; exact Ha.out, ?_, ?_⟩
                          · rw [List.take_append_of_le_length (by omega), Htj.out, ← List.append_assoc]
                            exact hq5
                          · rw [List.take_append_of_le_length (by omega), Htj.out, ← List.append_assoc]
                            exact (Hset.out.kept ((Below.refl _ _).alloc (Nat.le_refl _) _) (by omega)).app x (by omega) (by omega) ho4 hB4
                        case measure => simp [intOf]; omega
                      · have hz' : ((c : Int) == 0) = false := by rw [beq_eq_false_iff_ne]; omega
                        have Hz := Lib.hid hz
                        clear hz
                        go_wp2_with fail
                        go_roundw
                        case rel =>
                          have hq5 := Hs4.out (by have h1 := Hc.out; have h2 := Hz.out; have h3 := Hs2.out; omega)
                          refine ⟨j + 1, row, by omega, by go_num, Ha.out, ?_, ?_⟩
                          · rw [Htj.out, ← List.append_assoc]
                            exact hq5
                          · rw [Htj.out, ← List.append_assoc]
                            exact Hset.out
                        case measure => simp [intOf]; omega
                    · have hje : j = (nxL L a).length := by omega
                      have htq : (row.take (q + 1)).flatMap (nxL L) = (row.take q).flatMap (nxL L) ++ (nxL L a).take j := by
                        rw [List.take_add_one, ha, List.flatMap_append, hje, List.take_length]
                        simp
                      rw [← htq] at hqa hqm
                      have Hqa := Lib.hid hqa
                      have Hqm := Lib.hid hqm
                      clear hqa hqm hje htq ha hfr
                      go_wp2_with fail
                      go_roundw
                      case rel => exact ⟨q + 1, row, by omega, by go_num, Hqa.out, Hqm.out⟩
                      case measure => simp [intOf]; omega
                · have hqe : q = row.length := by omega
                  have hdn : (row.take q).flatMap (nxL L) = row.flatMap (nxL L) := by rw [hqe, List.take_length]
                  rw [hdn] at hqa hqm
                  have hrn := hqa.length fun a _ b hb => (nxL_lt hLb hb).1
                  have hcN := (hqm.ag.2 w.heap.size 0 (by omega) (by omega)).trans (HbN.out.cell 0)
                  have hdT : wr.cell? ⟨w.heap.size + 1 + 1, 0, none⟩ = some (.slice (some ⟨w.heap.size + 1, 0, none⟩) k k) := (hqm.ag.2 (w.heap.size + 1 + 1) 0 (by omega) (by omega)).trans (HbT.out.cell 0)
                  have hsz4 := hqm.ag.1
                  have hNl : w.heap.size < wr.heap.size := by omega
                  have hrn2 : ¬ row.length < k := by omega
                  have hmk := fun W => run_mk1 (P := Tryz.prog) 156 160 (.slice none 0 0) 24 k Tryz.underlying156 info_posetset rfl (by omega) (by omega) W
                  have Hqa := Lib.hid hqa
                  have Hqm := Lib.hid hqm
                  have Hrn := Lib.hid hrn
                  have Hfr := Lib.hid hfr
                  have HdT := Lib.hid hdT
                  clear hqa hqm hdn hqe hrn hfr hq hdT
                  go_upto_region 38 with fail

                  obtain ⟨w4, rfl⟩ : ∃ w4 : World, w4 = wr := ⟨_, rfl⟩
                  go_cut [17] from 133 (fun v wc => OrdMade w4 k v wc)
                  case first =>
                    go_region
                    all_goals
                      go_wp2_with fail
                      go_meet
                      first | exact ordMade1 w4 k | exact ordMade2 w4 k | exact ordMade3 w4 k
                  case rest =>
                    clear hmk
                    obtain ⟨ga, gp, gv, rfl, a1, a2, a3, a4, a5, a6, hA, hP, hV, hB5⟩ := hcut
                    go_wp2_with fail
                    refine (backward _ _ _ _).mono ?_
                    rintro e w6 ⟨rfl, rfl⟩
                    go_wp2_with fail
                    refine (wpIn_wide (n := 5)).1 ?_
                    obtain ⟨fr, hfre⟩ : ∃ fr : List (Fin k), fv fr = row := ⟨row.pmap (fun a h => ⟨a, h⟩) Hqa.out.lt, by simp [fv, List.map_pmap]⟩
                    subst hfre
                    have hwc := hB5.size
                    obtain ⟨W6, hW6⟩ : ∃ W6, W6 = wc.alloc (.cells #[.slice ra (fv fr).length rc] 22) := ⟨_, rfl⟩
                    have hz6 : W6.heap.size = wc.heap.size + 1 := by rw [hW6]; simp
                    have hB6 : Below wc.heap.size wc W6 := by rw [hW6]; exact (Below.refl _ _).alloc (Nat.le_refl _) _
                    have hB46 : Below w4.heap.size w4 W6 := hB5.trans (hB6.mono hwc)
                    have hbw6 : Below w.heap.size w W6 := Hqm.out.be.trans (hB46.mono Hqm.out.be.size)
                    have hA6 := hA.kept hB6 hA.lt
                    have hP6 := hP.kept hB6 hP.lt
                    have hV6 := hV.kept hB6 hV.lt
                    have hbox6 : W6.cell? ⟨wc.heap.size, 0, none⟩ = some (.slice ra (fv fr).length rc) := by rw [hW6]; exact (Blk.new wc _ 22).cell 0
                    have hlga := hA.lt
                    have hlgp := hP.lt
                    have hlgv := hV.lt
                    have hrow6 := Hfr.out.kept hB46 (Nat.le_refl _)
                    have hob := owns_block Hqm.out.own
                    have Hagr : Hid (∀ W, KpP (fun b => b < W6.heap.size ∧ b ≠ ga) W6 W → W6.heap.size ≤ W.heap.size → Agr (w.heap.size + 1 + 1 + 1) w3 W) := Lib.hid (fun W hK hs => ⟨by omega, fun b o hb hg => ((hK b o ⟨by omega, by omega⟩).trans (hB46.cell (p := ⟨b, o, none⟩) (by simp; omega))).trans (Hqm.out.ag.2 b o hb hg)⟩)
                    have hiter := backIter (5 - 1) (by omega) fr wc.heap.size _ W6 (fun b => b < W6.heap.size ∧ b ≠ ga) hbox6 hrow6 (by omega) (fun b hb => hb.1) ⟨by omega, by omega⟩ (fun b o m c e => by
                      rcases hob with h0 | ⟨g, h0, h1, h2⟩
                      · rw [e] at h0; cases h0
                      · rw [e] at h0
                        have : b = g := by simpa [Value.ownBlock] using h0
                        omega)
                    have cV6 := hV6.cell 0
                    have cP6 := hP6.cell 1
                    have cP60 := hP6.cell 0
                    have cN6 : W6.cell? ⟨w.heap.size, 0, none⟩ = some (I k) := (hB46.cell (p := ⟨w.heap.size, 0, none⟩) (by simp; omega)).trans hcN
                    have cT6 : W6.cell? ⟨w.heap.size + 1 + 1, 0, none⟩ = some (.slice (some ⟨w.heap.size + 1, 0, none⟩) k k) := (hB46.cell (p := ⟨w.heap.size + 1 + 1, 0, none⟩) (by simp; omega)).trans HdT.out
                    have Hiter := Lib.hid hiter
                    have HA6 := Lib.hid hA6
                    have HV6 := Lib.hid cV6
                    have HP6 := Lib.hid cP6
                    have HP60 := Lib.hid cP60
                    have HN6 := Lib.hid cN6
                    have HT6 := Lib.hid cT6
                    have Hob := Lib.hid hob
                    have Hbw6 := Lib.hid hbw6
                    have hw6 := hbw6.size
                    have Hz6 := Lib.hid hz6
                    rw [← hW6]
                    clear hiter hA6 hP6 hV6 hbox6 hrow6 cV6 cP6 cP60 cN6 cT6 hob hB46 hB6 hbw6 hA hP hV hB5 hcN
                    refine wpIn_rangeFunc_ownF rfl (by omega) (gf := 166) (lb := #[.pointer (some ⟨wc.heap.size, 0, none⟩)]) rfl trivial (enters_of Tryz.func166 (by kernel_rfl) rfl)
                      Hiter.out (fun h k => KpP.trans h k) (fun W l o o' hl _ _ _ => KpP.putObj W l o' (fun h => by have := h.1; omega)) (Below.refl _ _) (fun _ => rfl)
                      (fun (pre : List (Fin k × Nat)) W => BkI k ga L w W6 (pre.map fun x => x.1.val) W)
                      (fun _ _ _ => False) (bki_own k ga L w W6 hw6) (fun _ _ _ _ _ hs _ _ => hs)
                      ⟨_, HA6.out, Above.start _ _ _, KpP.refl _ _, Nat.le_refl _, Hbw6.out⟩ ?a1 ?assign ?body ?done ?stop
                    case assign =>
                      intro l x W K hK
                      dsimp only [encB]
                      gi_wp2
                      exact hK
                    case body =>
                      rintro l pre x W ⟨arr, hb, hab, hkp, hsz, hbe⟩ _
                      have cV : W.cell? ⟨gv, 0, none⟩ = some (.pointer (some ⟨gp, 0, none⟩)) := (hkp gv 0 ⟨by omega, by omega⟩).trans HV6.out
                      have cP1 : W.cell? ⟨gp, 1, none⟩ = some (.slice (some ⟨ga, 0, none⟩) k k) := (hkp gp 1 ⟨by omega, by omega⟩).trans HP6.out
                      have cN : W.cell? ⟨w.heap.size, 0, none⟩ = some (I k) := (hkp w.heap.size 0 ⟨by omega, by omega⟩).trans HN6.out
                      have hax := x.1.isLt
                      have hq2 : IntKind.i64.wrap ((IntKind.i64.wrap ((k : Int) + 63)).tdiv 64) = 1 := by
                        rw [IntWalk.i64_in ((k : Int) + 63) (by omega), Int.tdiv_eq_ediv_of_nonneg (by omega), show ((k : Int) + 63) / 64 = 1 by omega]
                        rfl
                      have hmkI : ∀ W, (Instr.makeSlice 160 (.int .i64 1) (.int .i64 1)).run Tryz.prog W = .ok (.slice (some ⟨W.heap.size, 0, none⟩) 1 1) (W.alloc (.cells #[.int .u64 0] 143)) := fun W => run_mk1 (P := Tryz.prog) 160 143 (.int .u64 0) 8 1 Tryz.underlying160 info_uint64 rfl (by omega) (by omega) W
                      obtain ⟨vo, hvo⟩ : ∃ vo, arr[x.1.val]? = some vo := ⟨arr[x.1.val]'(by rw [hab.1]; exact hax), by simp⟩
                      have hgaW : ga < W.heap.size := by omega
                      have hb1 := hb.alloc (.cells #[.int .u64 0] 143)
                      have cG := (hb1.cell x.1.val).trans hvo
                      have fG := hb1.frozen x.1.val
                      have hBl : Below W.heap.size W (W.alloc (.cells #[.int .u64 0] 143)).drew := ((Below.refl _ W).alloc (Nat.le_refl _) _).drew
                      have HBl := Lib.hid hBl
                      have Hb1 := Lib.hid hb1
                      have Hab := Lib.hid hab
                      have Hkp := Lib.hid hkp
                      have Hvo := Lib.hid hvo
                      have Hbe := Lib.hid hbe
                      have Hb := Lib.hid hb
                      clear hBl hb1 hab hkp hvo hbe hb
                      gi_wp2
                      refine wpIn_region_ordN 9 [(0, true), (1, true), (2, true), (3, true), (4, true), (5, true), (6, true), (7, true), (8, false)] (fun w' => w'.cell? ⟨gv, 0, none⟩ = some (.pointer (some ⟨gp, 0, none⟩)) ∧ w'.cell? ⟨gp, 1, none⟩ = some (.slice (some ⟨ga, 0, none⟩) k k) ∧ w'.cell? ⟨w.heap.size, 0, none⟩ = some (I k)) (by kernel_rfl) rfl rfl (by kernel_rfl) (by kernel_rfl) ⟨cV, cP1, cN⟩ ?_
                      iterate 8 (refine wpOrdIn_take ?_ (by rfl) (fun _ => by rfl) ?_ ?_; rotate_left; (intro w hSw; (try dsimp only at hSw); go_simp; try with_reducible rfl); (try simp only [Act.put, List.setIfInBounds_toArray, List.set_cons_zero, List.set_cons_succ]))
                      refine wpOrdIn_move (fun K hK => ?_)
                      go_simp
                      refine hK.out _ _ ⟨cell_below HBl.out (Nat.le_refl _) cV, cell_below HBl.out (Nat.le_refl _) cP1, cell_below HBl.out (Nat.le_refl _) cN⟩ ?_
                      clear hK K hq2 hmkI
                      (try simp only [Act.put, List.setIfInBounds_toArray, List.set_cons_zero, List.set_cons_succ])
                      refine wpOrdIn_nil ?_
                      gi_wp2
                      refine NoPanic.normal ?_
                      obtain ⟨W1, hW1⟩ : ∃ W1, W1 = ((W.setCell ⟨ga, x.1.val, none⟩ (.slice (some ⟨W.heap.size, 0, none⟩) 1 1)).alloc (.cells #[.int .u64 0] 143)).drew := ⟨_, rfl⟩
                      rw [← hW1]
                      have hz1 : W1.heap.size = W.heap.size + 1 := by rw [hW1]; simp
                      have hK1 : KpP (fun b => b < W.heap.size ∧ b ≠ ga) W W1 := by
                        rw [hW1]
                        exact ((KpP.refl _ W).set _ _ (fun h => h.2 rfl)).trans (KpP.below (n := W.heap.size) (((Below.refl _ _).alloc (by simp) _).drew) (fun b hb => hb.1))
                      have bG1 : Blk W1 W.heap.size #[.int .u64 0] := by
                        rw [hW1]
                        have := (Blk.new (W.setCell ⟨ga, x.1.val, none⟩ (.slice (some ⟨W.heap.size, 0, none⟩) 1 1)) #[.int .u64 0] 143).drew
                        simpa using this
                      have bA1 : Blk W1 ga (arr.setIfInBounds x.1.val (.slice (some ⟨W.heap.size, 0, none⟩) 1 1)) := by rw [hW1]; exact ((Hb.out.set _ _).alloc _).drew
                      have ko1 : KeepsOthers W W1 := by rw [hW1]; exact ((KeepsOthers.setCell _ _ _).trans (KeepsOthers.alloc _ _)).trans (KeepsOthers.drew _)
                      have be1 : Below w.heap.size W W1 := by rw [hW1]; exact (((Below.refl _ _).setCell (by simp; omega) _).alloc (by simp; omega) _).drew
                      have hkk : KpP (fun b => b < W6.heap.size ∧ b ≠ ga) W6 W1 := Hkp.out.trans (hK1.weak fun b hb => ⟨by omega, hb.2⟩)
                      have cT1 := (hkk (w.heap.size + 1 + 1) 0 ⟨by omega, by omega⟩).trans HT6.out
                      have cV1 := (hkk gv 0 ⟨by omega, by omega⟩).trans HV6.out
                      have cP1' := (hkk gp 1 ⟨by omega, by omega⟩).trans HP6.out
                      obtain ⟨va, gva⟩ := Hnx3.out.read hax
                      obtain ⟨g1, g2⟩ := gva W1 (Hagr.out W1 hkk (by omega))
                      obtain ⟨vb, vc, rfl, _⟩ := g2.open
                      have hla : (nxL L x.1.val).length ≤ 10000 := by
                        unfold nxL
                        rw [List.length_map]
                        exact Nat.le_trans (List.length_filter_le _ _) (by omega)
                      have HW1 := Lib.hid hW1
                      have HK1 := Lib.hid hK1
                      have HG1 := Lib.hid bG1
                      have HA1 := Lib.hid bA1
                      have Hko1 := Lib.hid ko1
                      have Hbe1 := Lib.hid be1
                      have Hkk := Lib.hid hkk
                      have HT1 := Lib.hid cT1
                      have HV1 := Lib.hid cV1
                      have HP1 := Lib.hid cP1'
                      have Hva := Lib.hid gva
                      have Hz1 := Lib.hid hz1
                      have hlt1 : W.heap.size < W1.heap.size := by omega
                      clear hW1 hK1 bG1 bA1 ko1 be1 hkk cV1 cP1' gva g2 cV cP1 cN cG fG hz1
                      gi_wp2
                      gi_loopw [157] (fun jv wr => ∃ j : Nat, j ≤ (nxL L x.1.val).length ∧ jv = .int .i64 j ∧ Blk wr W.heap.size #[.int .u64 ((foldS (fun b => (wdOf (nxL L) (pre.map fun x => x.1.val) b).getD 0) ((nxL L x.1.val).take j) : Nat) : Int)] ∧ Touch W.heap.size W1 wr) (fun jv _ => (nxL L x.1.val).length - (intOf jv).toNat)
                      case atStart => exact ⟨0, by omega, rfl, HG1.out, Touch.refl _ _⟩
                      case round =>
                        clear cT1 g1
                        obtain ⟨j, hj, rfl, hG, hT⟩ := hrel
                        by_cases hlt : j < (nxL L x.1.val).length
                        · obtain ⟨y, hy⟩ : ∃ y, (nxL L x.1.val)[j]? = some y := ⟨(nxL L x.1.val)[j], by simp [hlt]⟩
                          have hyk := nxL_lt hLb (List.mem_of_getElem? hy)
                          have hy1 := hyk.1
                          have hy2 := hyk.2
                          have hTs := hT.size
                          have hkw : KpP (fun b => b < W6.heap.size ∧ b ≠ ga) W6 wr := Hkk.out.trans (fun b o hb => hT.cell b o (by have := hb.1; omega))
                          obtain ⟨g1, g2⟩ := Hva.out wr (Hagr.out wr hkw (by omega))
                          obtain ⟨xb, xo, rfl, hcx⟩ := flat_nv g2 hy
                          have cVr := (hT.cell gv 0 (by omega)).trans HV1.out
                          have cPr := (hT.cell gp 1 (by omega)).trans HP1.out
                          have bAr := hT.blk ga _ (by omega) HA1.out
                          have cAa : wr.cell? ⟨ga, x.1.val, none⟩ = some (.slice (some ⟨W.heap.size, 0, none⟩) 1 1) := (bAr.cell _).trans (by rw [Array.getElem?_setIfInBounds_self_of_lt (by rw [Hab.out.1]; exact hax)])
                          obtain ⟨tv, htv, hor⟩ := Hab.out.val hy2
                          have cAy : wr.cell? ⟨ga, y, none⟩ = some tv := (bAr.cell y).trans (by rw [Array.getElem?_setIfInBounds_ne (by omega)]; exact htv)
                          have hml : foldS (fun b => (wdOf (nxL L) (pre.map fun x => x.1.val) b).getD 0) ((nxL L x.1.val).take j) < lim64 := foldS_lt _ _ fun b hb => by
                            have hbk := (nxL_lt hLb (List.mem_of_mem_take hb)).2
                            refine ⟨by omega, ?_⟩
                            obtain ⟨_, _, hor⟩ := Hab.out.val hbk
                            rcases hor with ⟨_, h⟩ | ⟨_, _, _, _, _, h⟩
                            · rw [h]; show 0 < 2 ^ 64; omega
                            · exact h
                          have hfs := foldS_snoc (fun b => (wdOf (nxL L) (pre.map fun x => x.1.val) b).getD 0) ((nxL L x.1.val).take j) y
                          rw [show (nxL L x.1.val).take j ++ [y] = (nxL L x.1.val).take (j + 1) by rw [List.take_add_one, hy]; rfl] at hfs
                          have Hfs := Lib.hid hfs
                          have HG := Lib.hid hG
                          have HT := Lib.hid hT
                          have Hor := Lib.hid hor
                          have Hml := Lib.hid hml
                          have HcV := Lib.hid cVr
                          have HcP := Lib.hid cPr
                          have HcA := Lib.hid cAa
                          have HcY := Lib.hid cAy
                          have hnG : ga ≠ W.heap.size := by omega
                          have hnV : gv ≠ W.heap.size := by omega
                          have hnP : gp ≠ W.heap.size := by omega
                          clear hfs hG hT hor hml hyk hy hkw g1 g2 bAr htv hTs
                          gi_wp2
                          refine ⟨trivial, ?_⟩
                          refine (CallsIn.inRound l (callsIn_wide.2 (setAddB W.heap.size _ y wr HG.out Hml.out (by omega)))).mono ?_
                          rintro e w2 ⟨rfl, hG2, hT2⟩
                          clear cVr cPr cAa cAy hcx
                          have cV2 := (hT2.cell gv 0 hnV).trans HcV.out
                          have cP2 := (hT2.cell gp 1 hnP).trans HcP.out
                          have cA2 := (hT2.cell ga x.1.val hnG).trans HcA.out
                          have cY2 := (hT2.cell ga y hnG).trans HcY.out
                          have HG2 := Lib.hid hG2
                          have HT2 := Lib.hid hT2
                          clear hG2 hT2
                          gi_wp2
                          refine wpIn_region_ordN 14 [(0, true), (1, true), (2, true), (3, true), (4, true), (5, true), (6, true), (7, true), (8, true), (9, true), (10, true), (11, true), (12, true), (13, true)] (fun w' => w'.cell? ⟨gv, 0, none⟩ = some (.pointer (some ⟨gp, 0, none⟩)) ∧ w'.cell? ⟨gp, 1, none⟩ = some (.slice (some ⟨ga, 0, none⟩) k k) ∧ w'.cell? ⟨ga, x.1.val, none⟩ = some (.slice (some ⟨W.heap.size, 0, none⟩) 1 1) ∧ w'.cell? ⟨ga, y, none⟩ = some tv) (by kernel_rfl) rfl rfl (by kernel_rfl) (by kernel_rfl) ⟨cV2, cP2, cA2, cY2⟩ ?_
                          iterate 14 (refine wpOrdIn_take ?_ (by rfl) (fun _ => by rfl) ?_ ?_; rotate_left; (intro w hSw; (try dsimp only at hSw); go_simp; try with_reducible rfl); (try simp only [Act.put, List.setIfInBounds_toArray, List.set_cons_zero, List.set_cons_succ]))
                          refine wpOrdIn_nil ?_
                          gi_wp2
                          have hTT := (HT.out.trans HT2.out).drew
                          have hjt : (tv = .slice none 0 0 ∧ (wdOf (nxL L) (pre.map fun x => x.1.val) y).getD 0 = 0) ∨ ∃ gi, tv = .slice (some ⟨gi, 0, none⟩) 1 1 ∧ w2.drew.cell? ⟨gi, 0, none⟩ = some (.int .u64 (((wdOf (nxL L) (pre.map fun x => x.1.val) y).getD 0 : Nat) : Int)) ∧ (wdOf (nxL L) (pre.map fun x => x.1.val) y).getD 0 < lim64 := by
                            rcases Hor.out with h | ⟨gi, h1, h2, h3, h4, h5⟩
                            · exact .inl h
                            · exact .inr ⟨gi, h1, ((hTT.cell gi 0 (by omega)).trans (HK1.out gi 0 ⟨h3, by omega⟩)).trans h4, h5⟩
                          refine ⟨trivial, ?_⟩
                          refine (CallsIn.inRound l (callsIn_wide.2 (setJoinB W.heap.size _ _ tv _ HG2.out.drew (Nat.or_lt_two_pow Hml.out (pow_lt y (by omega))) hjt))).mono ?_
                          rintro e w5 ⟨rfl, hG3, hT3⟩
                          have HG3 := Lib.hid hG3
                          have HT3 := Lib.hid (hTT.trans hT3)
                          clear hG3 hT3 hTT hjt
                          gi_wp2
                          refine NoPanic.normal ?_
                          gi_wp2
                          go_roundw
                          case rel => exact ⟨j + 1, by omega, by go_num, by rw [Hfs.out]; exact HG3.out, HT3.out⟩
                          case measure => simp [intOf]; omega
                        · have hje : j = (nxL L x.1.val).length := by omega
                          have hTs := hT.size
                          have hG0 := hG.cell 0
                          rw [hje, List.take_length] at hG0
                          have HG0 := Lib.hid hG0
                          have hst := Hab.out.step (W' := wr) x.1.val hax (fun b hb => (nxL_lt hLb hb).2) hn hsz (by omega) (fun b v h1 h2 h3 => ((hT.cell b 0 (by omega)).trans (HK1.out b 0 ⟨h2, by omega⟩)).trans h3) (by simpa using HG0.out)
                          rw [← wdOf_snoc] at hst
                          have hres : BkI k ga L w W6 ((pre ++ [x]).map fun x => x.1.val) wr := by
                            rw [List.map_append]
                            exact ⟨_, hT.blk ga _ (by omega) HA1.out, hst, Hkk.out.trans (fun b o hb => hT.cell b o (by have := hb.1; omega)), by omega, Hbe.out.trans (Hbe1.out.trans (hT.below _ (by omega)))⟩
                          have Hres := Lib.hid hres
                          have HT := Lib.hid hT
                          clear hG0 hst hres hje hG hT
                          gi_wp2
                          exact ⟨Hko1.out.trans HT.out.others, (HK1.out.weak fun b hb => ⟨by have := hb.1; omega, hb.2⟩).trans (fun b o hb => HT.out.cell b o (by have := hb.1; omega)), Hres.out⟩
                    case done =>
                      rintro D ys W hD rfl ⟨arr, hb, hab, hkp, hsz, hbe⟩ hK
                      have cV : W.cell? ⟨gv, 0, none⟩ = some (.pointer (some ⟨gp, 0, none⟩)) := (hkp gv 0 ⟨by omega, by omega⟩).trans HV6.out
                      have cP0 : W.cell? ⟨gp, 0, none⟩ = some (I k) := (hkp gp 0 ⟨by omega, by omega⟩).trans HP60.out
                      have cP1 : W.cell? ⟨gp, 1, none⟩ = some (.slice (some ⟨ga, 0, none⟩) k k) := (hkp gp 1 ⟨by omega, by omega⟩).trans HP6.out
                      have hlaw := wdOf_law (nxL L) k hn f (fun a _ b hb => (nxL_lt hLb hb).2) Hf.out (fv fr).reverse (List.pairwise_reverse.2 (Hqa.out.nodup.imp Ne.symm)) (fun a ha => Hqa.out.lt a (List.mem_reverse.1 ha))
                        (rev_order Hqa.out (Hqa.out.full fun a _ b hb => (nxL_lt hLb hb).1) (fun a _ b hb => (nxL_lt hLb hb).2))
                      have hmem := Hqa.out.full fun a _ b hb => (nxL_lt hLb hb).1
                      have hal : (bwdL fr 0).map (fun x => x.1.val) = (fv fr).reverse := by
                        have := congrArg (List.map Fin.val) (bwdL_fst fr)
                        rw [List.map_map] at this
                        rw [fv, ← List.map_reverse, ← this]
                        rfl
                      rw [hal] at hab
                      have hW2 := belowK_b (w := w) (Nat.le_refl _) W D _ (.deferred none) (by omega) hK rfl rfl
                      have hrep := ord_rep hn (hb.putObj (.deferred none) hK rfl) (cell_putObj cP0 _ hK rfl) (cell_putObj cP1 _ hK rfl) (hab.kept (W' := W.putObj D (.deferred none)) (by simp) (fun b v _ _ hc => cell_putObj hc _ hK rfl)) (fun i hi => hlaw i (List.mem_reverse.2 (hmem i hi)))
                      have Hrep := Lib.hid hrep
                      have HW2 := Lib.hid (hbe.trans hW2)
                      clear hlaw hmem hal hab hrep hW2 cP0 cP1 hb hkp
                      go_wp2_with fail
                      refine ⟨by simp, .inl ⟨_, _, rfl, run_takeDeferred hK, ?_⟩⟩
                      exact ⟨_, results_tmp2 rfl _ _ _, _, rfl, Hrep.out, HW2.out⟩
                    case stop =>
                      rintro D c pre W hD _ hf _
                      exact hf.elim

end Go.Proofs.YtljmonfobefiiaaGreatDoor
