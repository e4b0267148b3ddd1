/- A region that draws its order, taken in one order of one's own choice: what yields its value in every world that meets S is taken first, what moves the world stands in a row, and the tail, which waits for all of it, is asked nothing of S. -/
import Derived.OrdersHeld
import Derived.StillTail
import Derived.Deep.RegionHeld3
namespace Go.Proofs.Ytjdhcdbjfbhogaa
open Go

section
variable {P : Program} {ops : Array Oper} {Q : Exit → Act → World → Prop} {md : Region.Mode} {S : World → Prop}

/-- The head of a region, in whatever order; behind each operation S holds; behind the last one L. -/
def wpHd (P : Program) (md : Region.Mode) (ops : Array Oper) (Q : Exit → Act → World → Prop) (S : World → Prop) (n : Nat) (L : Array Bool → Act → World → Prop) : Nat → Array Bool → Act → World → Prop
  | 0, listed, a, w => L listed a w
  | f + 1, listed, a, w =>
    Region.ready md ops listed ≠ [] ∧ ∀ i ∈ Region.ready md ops listed, i < n ∧ wpOp P ops Q i (fun a' w' => S w' ∧ wpHd P md ops Q S n L f (listed.setIfInBounds i true) a' w') a w

theorem wpAny_of_hd {n g : Nat} {L : Array Bool → Act → World → Prop} (hL : ∀ listed a w, L listed a w → wpAny P md ops Q g listed a w) :
    ∀ (f : Nat) (listed : Array Bool) (a : Act) (w : World), wpHd P md ops Q S n L f listed a w → wpAny P md ops Q (f + g) listed a w
  | 0, listed, a, w, h => by rw [Nat.zero_add]; exact hL _ _ _ h
  | f + 1, listed, a, w, h => by
    rw [show f + 1 + g = (f + g) + 1 by omega]
    exact ⟨fun h0 => absurd h0 h.1, fun i hi => wpOp_mono (fun a' w' h' => wpAny_of_hd hL f _ a' w' h'.2) (h.2 i hi).2⟩

/-- No tail: or a tail that waits for all of the head. -/
def tailOk (md : Region.Mode) (ops : Array Oper) (n : Nat) : Bool := decide (n = ops.size) || (decide (n < ops.size) && Region.sinkB md ops n && Region.chainB md ops n)

theorem tailOk_lt {n i : Nat} {listed : Array Bool} (ht : tailOk md ops n = true) (inv : HeadInv md ops n listed) (hin : i < n) (hun : listed.getD i true = false) : ∀ j ∈ Region.ready md ops listed, j < n := by
  intro j hj
  simp only [tailOk, Bool.or_eq_true, Bool.and_eq_true, decide_eq_true_eq] at ht
  rcases ht with rfl | ⟨⟨h1, h2⟩, h3⟩
  · obtain ⟨_, o, ho, _⟩ := mem_ready.1 hj
    exact (Array.getElem?_eq_some_iff.1 ho).1
  · rcases Nat.lt_or_ge j n with h | h
    · exact h
    · exact absurd hj (tail_waits h2 h3 h1 inv _ i rfl hin hun j h)

theorem wpHd_first {n i : Nat} {oi : Oper} {v : Value} {L : Array Bool → Act → World → Prop} (hi : ops[i]? = some oi) (hsel : ∀ (j : Nat) (o : Oper) cs b, ops[j]? = some o → o.op ≠ .select cs b)
    (hQ : ∀ c a w, Q (.panic c) (a.put oi.dst v) w → Q (.panic c) a w) (ht : tailOk md ops n = true) (hin : i < n)
    (hdone : ∀ listed a w, L listed a w → ∀ j ∈ Region.ready md ops listed, n ≤ j) :
    ∀ (f : Nat) (listed : Array Bool) (a : Act) (w : World), HeadInv md ops n listed →
      (∀ j oj, ops[j]? = some oj → j ≠ i → listed.getD j true = false → (∀ e ∈ oj.after, Region.binds md e = true → e.on ≠ i) → oi.apart ops oj = true) →
      i ∈ Region.ready md ops listed → YieldsIf P ops S oi v a → S w →
      wpHd P md ops Q S n L f (listed.setIfInBounds i true) (a.put oi.dst v) w → wpHd P md ops Q S n L (f + 1) listed a w := by
  intro f
  induction f with
  | zero =>
    intro listed a w inv _ hr hy hS H
    have hun := (mem_ready.1 hr).1
    refine ⟨fun h => (by rw [h] at hr; cases hr), fun j hj => ?_⟩
    have hjn := tailOk_lt ht inv hin hun j hj
    refine ⟨hjn, ?_⟩
    by_cases hji : j = i
    · subst hji; exact hy.wpOp hi hS ⟨hS, H⟩
    · have := hdone _ _ _ H j (ready_mono hj hji)
      omega
  | succ f ih =>
    intro listed a w inv hfree hr hy hS H
    have hun := (mem_ready.1 hr).1
    refine ⟨fun h => (by rw [h] at hr; cases hr), fun j hj => ?_⟩
    have hjn := tailOk_lt ht inv hin hun j hj
    refine ⟨hjn, ?_⟩
    by_cases hji : j = i
    · subst hji; exact hy.wpOp hi hS ⟨hS, H⟩
    · have h1 := (H.2 j (ready_mono hj hji)).2
      obtain ⟨hjun, oj, hoj, hall⟩ := mem_ready.1 hj
      have hnot : ∀ e ∈ oj.after, Region.binds md e = true → e.on ≠ i := fun e he hb heq => by
        have h1 := hall e he hb
        rw [heq, getD_both hun] at h1
        cases h1
      have h2 := wpOp_putIf hoj (hfree j oj hoj hji hjun hnot) (fun cs b => hsel i oi cs b hi) (fun cs b => hsel j oj cs b hoj) hQ hy h1
      have hfree' : ∀ k ok, ops[k]? = some ok → k ≠ i → (listed.setIfInBounds j true).getD k true = false →
          (∀ e ∈ ok.after, Region.binds md e = true → e.on ≠ i) → oi.apart ops ok = true := fun k ok hk hki hun hno => by
        refine hfree k ok hk hki ?_ hno
        by_cases hjk : j = k
        · subst hjk; exact hjun
        · rw [getD_set_ne true hjk] at hun; exact hun
      refine wpOp_mono (fun a' w' h3 => ⟨h3.2.1, ih (listed.setIfInBounds j true) a' w' (inv.set hj hjn) hfree' (ready_mono hr (Ne.symm hji)) h3.1 h3.2.1 ?_⟩) h2
      rw [Array.setIfInBounds_comm _ _ hji]
      exact h3.2.2

/-- The order: an operation that is taken first (true), or the only one that may come up (false); then the tail, one behind the other. -/
def ordB (md : Region.Mode) (ops : Array Oper) (n : Nat) : List (Nat × Bool) → Array Bool → Bool
  | [], listed => Region.seqB md ops (ops.size - n) n listed
  | (i, true) :: r, listed => decide (i < n) && (Region.ready md ops listed).contains i && Region.free md ops listed i && ordB md ops n r (listed.setIfInBounds i true)
  | (i, false) :: r, listed => decide (i < n) && decide (Region.ready md ops listed = [i]) && ordB md ops n r (listed.setIfInBounds i true)

/-- What is to be shown, one operation behind the other. -/
def wpOrd (P : Program) (ops : Array Oper) (Q : Exit → Act → World → Prop) (S : World → Prop) (F : Act → World → Prop) : List (Oper × Bool) → Act → World → Prop
  | [], a, w => F a w
  | (o, true) :: r, a, w => ∃ v, YieldsIf P ops S o v a ∧ wpOrd P ops Q S F r (a.put o.dst v) w
  | (o, false) :: r, a, w => if Region.wanted o (yielded ops a.tmps) = true then Oper.wp P o a w (fun a' w' => S w' ∧ wpOrd P ops Q S F r a' w') Q else S w ∧ wpOrd P ops Q S F r (a.put o.dst undef) w

/-- The operations, in that order. -/
def pick (l : List Oper) : List (Nat × Bool) → Option (List (Oper × Bool))
  | [] => some []
  | (i, b) :: r => match l[i]?, pick l r with
    | some o, some rs => some ((o, b) :: rs)
    | _, _ => none

theorem wpHd_ord {l : List Oper} {n : Nat} {F : Act → World → Prop} (hsel : Region.noSelect l.toArray = true) (hQ : ∀ c a d v w, Q (.panic c) (a.put d v) w → Q (.panic c) a w) (ht : tailOk md l.toArray n = true) :
    ∀ (ord : List (Nat × Bool)) (rs : List (Oper × Bool)) (listed : Array Bool) (a : Act) (w : World), pick l ord = some rs → HeadInv md l.toArray n listed → ordB md l.toArray n ord listed = true → S w → wpOrd P l.toArray Q S F rs a w →
      wpHd P md l.toArray Q S n (fun listed' a' w' => Region.seqB md l.toArray (l.toArray.size - n) n listed' = true ∧ F a' w') ord.length listed a w
  | [], rs, listed, a, w, hp, inv, hB, hS, h => by
    simp only [pick, Option.some.injEq] at hp
    subst hp
    exact ⟨hB, h⟩
  | (i, b) :: r, rs, listed, a, w, hp, inv, hB, hS, h => by
    simp only [pick] at hp
    split at hp
    · rename_i o rs' ho hr
      simp only [Option.some.injEq] at hp
      subst hp
      have ho' : l.toArray[i]? = some o := by simpa using ho
      cases b with
      | true =>
        simp only [ordB, Bool.and_eq_true, decide_eq_true_eq] at hB
        obtain ⟨⟨⟨h1, h2⟩, h3⟩, h4⟩ := hB
        obtain ⟨v, hy, hK⟩ := h
        have hri : i ∈ Region.ready md l.toArray listed := by simpa using h2
        exact wpHd_first ho' (Region.noSelect_spec hsel) (fun c a w => hQ c a _ _ w) ht h1 (fun listed' a' w' hL => seqB_ready hL.1) r.length listed a w inv (Region.free_spec ho' h3) hri hy hS
          (wpHd_ord hsel hQ ht r rs' _ _ _ hr (inv.set hri h1) h4 hS hK)
      | false =>
        simp only [ordB, Bool.and_eq_true, decide_eq_true_eq] at hB
        obtain ⟨⟨h1, h2⟩, h4⟩ := hB
        refine ⟨fun h0 => by (rw [h2] at h0; cases h0), fun j hj => ?_⟩
        have hri := hj
        rw [h2] at hj
        have hji : j = i := by simpa using hj
        subst hji
        refine ⟨h1, ?_⟩
        unfold wpOp
        simp only [ho']
        have h' : if Region.wanted o (yielded l.toArray a.tmps) = true then Oper.wp P o a w (fun a' w' => S w' ∧ wpOrd P l.toArray Q S F rs' a' w') Q else S w ∧ wpOrd P l.toArray Q S F rs' (a.put o.dst undef) w := h
        split
        · rename_i hw
          rw [if_pos hw] at h'
          exact .inl (Oper.wp_mono (fun a' w' hh => ⟨hh.1, wpHd_ord hsel hQ ht r rs' _ _ _ hr (inv.set hri h1) h4 hh.1 hh.2⟩) h')
        · rename_i hw
          rw [if_neg hw] at h'
          exact ⟨h'.1, wpHd_ord hsel hQ ht r rs' _ _ _ hr (inv.set hri h1) h4 h'.1 h'.2⟩
    · cases hp

def ordOk (md : Region.Mode) (ops : Array Oper) (n : Nat) (ord : List (Nat × Bool)) : Bool :=
  Region.noSelect ops && tailOk md ops n && decide (ord.length = n) && ordB md ops n ord (Array.replicate ops.size false)

theorem put_of_tmps {Q : Exit → Act → World → Prop} (hQ : ∀ c a t w, Q (.panic c) { a with tmps := t } w → Q (.panic c) a w) : ∀ c (a : Act) d v w, Q (.panic c) (a.put d v) w → Q (.panic c) a w := by
  intro c a d v w h
  cases d with
  | none => exact h
  | some d => exact hQ c a _ w h
/-- **A region, in an order of one's own.** -/
theorem wp_region_ord {id : Nat} {a : Act} {w : World} {l : List Oper} (n : Nat) (ord : List (Nat × Bool)) (S : World → Prop) {rs : List (Oper × Bool)} {tl : List Oper} (hm : P.follows .mixedOrders = true) (hp : pick l ord = some rs) (htl : l.drop n = tl) (hB : ordOk .any l.toArray n ord = true)
    (hQ : ∀ c a t w, Q (.panic c) { a with tmps := t } w → Q (.panic c) a w) (hS : S w.drew)
    (h : wpOrd P l.toArray Q S (wpList P l.toArray Q tl) rs a w.drew) : (Code.region id l.toArray true).wp P Q a w := by
  subst htl
  simp only [ordOk, Bool.and_eq_true, decide_eq_true_eq] at hB
  obtain ⟨⟨⟨hsel, ht⟩, hlen⟩, hord⟩ := hB
  have hn : n ≤ l.length := by
    simp only [tailOk, Bool.or_eq_true, Bool.and_eq_true, decide_eq_true_eq, List.size_toArray] at ht
    omega
  have inv0 : HeadInv .any l.toArray n (Array.replicate l.toArray.size false) :=
    ⟨by simp, fun j oj _ hl => (by rw [getD_replicate_false] at hl; cases hl), fun t _ ht => getD_in (by simpa using ht) (getD_replicate_false _ _)⟩
  have H := wpHd_ord (md := .any) hsel (put_of_tmps hQ) ht ord rs _ a w.drew hp inv0 hord hS h
  refine wp_region_any hm ?_
  have := wpAny_of_hd (Q := Q) (g := l.toArray.size - n) (fun listed a' w' hL => by
    have := wpAny_of_seq (md := .any) (Q' := Q) (l.drop n) n listed a' w' (fun j => by simp [List.getElem?_drop]) (by rw [List.length_drop]; simpa using hL.1) hL.2
    rwa [List.length_drop, show l.length - n = l.toArray.size - n by simp] at this) _ _ _ _ H
  rw [hlen, show n + (l.toArray.size - n) = l.toArray.size by simp; omega] at this
  exact this

/-- Where the post of a panic hangs on the frame. -/
theorem wp_region_ordN {id : Nat} {a : Act} {w : World} {l : List Oper} (n : Nat) (ord : List (Nat × Bool)) (S : World → Prop) {rs : List (Oper × Bool)} {tl : List Oper} (hm : P.follows .mixedOrders = true) (hp : pick l ord = some rs) (htl : l.drop n = tl) (hB : ordOk .any l.toArray n ord = true) (hS : S w.drew)
    (h : wpOrd P l.toArray (NoPanic Q) S (wpList P l.toArray (NoPanic Q) tl) rs a w.drew) : (Code.region id l.toArray true).wp P Q a w :=
  Code.wp_mono NoPanic.imp (wp_region_ord n ord S hm hp htl hB (fun _ _ _ _ h => h) hS h)

theorem wpOrd_nil {F : Act → World → Prop} {a : Act} {w : World} (h : F a w) : wpOrd P ops Q S F [] a w := h
theorem wpOrd_take {F : Act → World → Prop} {a : Act} {w : World} {o : Oper} {r : List (Oper × Bool)} (v : Value) (hw : Region.wanted o (yielded ops a.tmps) = true) (hy : ∀ w, S w → (execOp a.eval o).run P w = .ok (.value v) w)
    (h : wpOrd P ops Q S F r (a.put o.dst v) w) : wpOrd P ops Q S F ((o, true) :: r) a w := ⟨v, .inl ⟨hw, hy⟩, h⟩
theorem wpOrd_leave {F : Act → World → Prop} {a : Act} {w : World} {o : Oper} {r : List (Oper × Bool)} (hw : Region.wanted o (yielded ops a.tmps) = false)
    (h : wpOrd P ops Q S F r (a.put o.dst undef) w) : wpOrd P ops Q S F ((o, true) :: r) a w := ⟨undef, .inr ⟨hw, rfl⟩, h⟩
theorem wpOrd_move {F : Act → World → Prop} {a : Act} {w : World} {o : Oper} {r : List (Oper × Bool)}
    (h : ∀ K' : Act → World → Prop, Shut (∀ a w, S w → wpOrd P ops Q S F r a w → K' a w) → if Region.wanted o (yielded ops a.tmps) = true then Oper.wp P o a w K' Q else K' (a.put o.dst undef) w) : wpOrd P ops Q S F ((o, false) :: r) a w :=
  h _ (fun _ _ hS h => ⟨hS, h⟩)
end

end Go.Proofs.Ytjdhcdbjfbhogaa
