/- A region that draws its order, inside a fence (a round of a range over a function too), taken in one order of one's own choice. -/
import Derived.Test.YtaedfidfcoigoaaO
import Derived.OrdersIn
import Derived.TacticsIn
namespace Go.Proofs.Ytaedfidfcoigoaa
open Go

section
variable {F : Fence} {nn : Nat} {P : Program} {ops : Array Oper} {Q : Exit → Act → World → Prop} {md : Region.Mode} {S : World → Prop}

def noDefer (ops : Array Oper) : Bool := ops.all fun o => match o.op with
  | .defer _ => false
  | _ => true
theorem noDefer_spec (h : noDefer ops = true) {j : Nat} {o : Oper} (ho : ops[j]? = some o) : ∀ c, o.op ≠ .defer c := by
  intro c hc
  have h1 := Array.all_eq_true.1 h j (Array.getElem?_eq_some_iff.1 ho).1
  have : ops[j]'(Array.getElem?_eq_some_iff.1 ho).1 = o := (Array.getElem?_eq_some_iff.1 ho).2
  rw [this, hc] at h1
  cases h1

/-- 'YieldsIf', and it is about to make no call, in whatever world. -/
def YieldsFn (P : Program) (ops : Array Oper) (S : World → Prop) (o : Oper) (v : Value) (a : Act) : Prop := YieldsIf P ops S o v a ∧ ∀ w, o.about P w a.eval = none

theorem YieldsFn.wpOpIn {i : Nat} {o : Oper} {v : Value} {a : Act} (hi : ops[i]? = some o) (hd : ∀ c, o.op ≠ .defer c) (hy : YieldsFn P ops S o v a)
    {K : Act → World → Prop} {w : World} (hS : S w) (h : K (a.put o.dst v) w) : wpOpIn F nn P ops Q i K a w := by
  unfold Go.wpOpIn
  simp only [hi]
  have hab : ∀ f, o.about P w a.eval = some f → F.fn f := fun f hf => by rw [hy.2 w] at hf; cases hf
  rcases hy.1 with ⟨hw, hv⟩ | ⟨hw, rfl⟩
  · simp only [hw, if_true, Oper.wpIn, Oper.semAt_eq _ _ _ hd, hv w hS, Oper.uponIn]; exact ⟨hab, h⟩
  · simp only [hw, Bool.false_eq_true, if_false]; exact ⟨hab, h⟩

theorem YieldsFn.of_same {o : Oper} {v : Value} {a a' : Act} (hy : YieldsFn P ops S o v a) (he : execOp a'.eval o = execOp a.eval o)
    (hw : Region.wanted o (yielded ops a'.tmps) = Region.wanted o (yielded ops a.tmps)) (hb : ∀ w, o.about P w a'.eval = o.about P w a.eval) : YieldsFn P ops S o v a' :=
  ⟨hy.1.of_same he hw, fun w => by rw [hb w]; exact hy.2 w⟩

theorem wpOpIn_putF {j : Nat} {oi oj : Oper} {v : Value} (hj : ops[j]? = some oj) (hdj : ∀ c, oj.op ≠ .defer c) (hap : oi.apart ops oj = true)
    (hsi : ∀ cs b, oi.op ≠ .select cs b) (hsj : ∀ cs b, oj.op ≠ .select cs b)
    (hQ : ∀ c a w, Q (.panic c) (a.put oi.dst v) w → Q (.panic c) a w) {K : Act → World → Prop} {a : Act} {w : World}
    (hy : YieldsFn P ops S oi v a) (h : wpOpIn F nn P ops Q j K (a.put oi.dst v) w) :
    wpOpIn F nn P ops Q j (fun a' w' => YieldsFn P ops S oi v a' ∧ K (a'.put oi.dst v) w') a w := by
  obtain ⟨h1, h2, h3⟩ := Oper.apart_spec hap
  have keep : ∀ (a : Act), YieldsFn P ops S oi v a → ∀ u, YieldsFn P ops S oi v (a.put oj.dst u) := fun a hy u =>
    hy.of_same (execOp_put oi hsi a oj.dst u h3) (wanted_put oi a oj.dst u h3) (fun w => about_put oi w a oj.dst u h3)
  have keepD : ∀ d, YieldsFn P ops S oi v { a with defers := d :: a.defers } := fun d => hy.of_same rfl rfl (fun _ => rfl)
  unfold wpOpIn at *
  simp only [hj] at *
  rw [wanted_put oj a oi.dst v h1, about_put oj w a oi.dst v h1] at h
  split
  · rename_i hw
    simp only [hw, if_true] at h
    unfold Oper.wpIn at *
    rw [about_put oj w a oi.dst v h1] at h
    refine ⟨h.1, ?_⟩
    have h := h.2
    rw [Oper.semAt_eq _ _ _ hdj, execOp_put oj hsj a oi.dst v h1] at h
    rw [Oper.semAt_eq _ _ _ hdj]
    generalize (execOp a.eval oj).run P w = r at *
    cases r with
    | ok x w' =>
      cases x <;> simp only [Oper.uponIn] at h ⊢
      case value u => exact ⟨keep a hy u, by rw [← Act.put_comm a v u h2]; exact h⟩
      case skip => exact ⟨keep a hy _, by rw [← Act.put_comm a v undef h2]; exact h⟩
      case defer d =>
        refine ⟨keep _ (keepD d) _, ?_⟩
        rw [← Act.put_comm _ v undef h2, ← Act.put_defers]
        exact h
      case enter f args =>
        refine ⟨h.1, CallsIn.mono h.2 fun e w'' he => ?_⟩
        cases e with
        | returned u => exact ⟨keep a hy u, by rw [← Act.put_comm a v u h2]; exact he⟩
        | panicked c => exact hQ _ _ _ he
        | outgrown => exact he
      case row row args => exact ⟨h.1, RowsIn.mono h.2 fun u w'' he => ⟨keep a hy u, by rw [← Act.put_comm a v u h2]; exact he⟩⟩
      case round l f tmps assign body =>
        refine ⟨h.1, RoundIn.mono h.2 fun e w'' he => ?_⟩
        cases e with
        | returned u => exact ⟨keep a hy u, by rw [← Act.put_comm a v u h2]; exact he⟩
        | panicked c => exact hQ _ _ _ he
        | outgrown => exact he
    | halt x w' =>
      cases x <;> simp only [Oper.uponIn] at h ⊢
      case panic u => exact hQ _ _ _ h
  · rename_i hw
    simp only [hw] at h
    exact ⟨h.1, keep a hy _, by rw [← Act.put_comm a v undef h2]; exact h.2⟩

def wpHdIn (F : Fence) (nn : Nat) (P : Program) (md : Region.Mode) (ops : Array Oper) (Q : Exit → Act → World → Prop) (S : World → Prop) (n : Nat) (L : Array Bool → Act → World → Prop) : Nat → Array Bool → Act → World → Prop
  | 0, listed, a, w => L listed a w
  | f + 1, listed, a, w =>
    Region.ready md ops listed ≠ [] ∧ ∀ i ∈ Region.ready md ops listed, i < n ∧ wpOpIn F nn P ops Q i (fun a' w' => S w' ∧ wpHdIn F nn P md ops Q S n L f (listed.setIfInBounds i true) a' w') a w

theorem wpAnyIn_of_hd {n g : Nat} {L : Array Bool → Act → World → Prop} (hL : ∀ listed a w, L listed a w → wpAnyIn F nn P md ops Q g listed a w) :
    ∀ (f : Nat) (listed : Array Bool) (a : Act) (w : World), wpHdIn F nn P md ops Q S n L f listed a w → wpAnyIn F nn P md ops Q (f + g) listed a w
  | 0, listed, a, w, h => by rw [Nat.zero_add]; exact hL _ _ _ h
  | f + 1, listed, a, w, h => by
    rw [show f + 1 + g = (f + g) + 1 by omega]
    exact ⟨fun h0 => absurd h0 h.1, fun i hi => wpOpIn_mono (fun a' w' h' => wpAnyIn_of_hd hL f _ a' w' h'.2) (h.2 i hi).2⟩

theorem wpHdIn_first {n i : Nat} {oi : Oper} {v : Value} {L : Array Bool → Act → World → Prop} (hi : ops[i]? = some oi) (hsel : ∀ (j : Nat) (o : Oper) cs b, ops[j]? = some o → o.op ≠ .select cs b) (hdf : noDefer ops = true)
    (hQ : ∀ c a w, Q (.panic c) (a.put oi.dst v) w → Q (.panic c) a w) (ht : tailOk md ops n = true) (hin : i < n)
    (hdone : ∀ listed a w, L listed a w → ∀ j ∈ Region.ready md ops listed, n ≤ j) :
    ∀ (f : Nat) (listed : Array Bool) (a : Act) (w : World), HeadInv md ops n listed →
      (∀ j oj, ops[j]? = some oj → j ≠ i → listed.getD j true = false → (∀ e ∈ oj.after, Region.binds md e = true → e.on ≠ i) → oi.apart ops oj = true) →
      i ∈ Region.ready md ops listed → YieldsFn P ops S oi v a → S w →
      wpHdIn F nn P md ops Q S n L f (listed.setIfInBounds i true) (a.put oi.dst v) w → wpHdIn F nn P md ops Q S n L (f + 1) listed a w := by
  intro f
  induction f with
  | zero =>
    intro listed a w inv _ hr hy hS H
    have hun := (mem_ready.1 hr).1
    refine ⟨fun h => (by rw [h] at hr; cases hr), fun j hj => ?_⟩
    have hjn := tailOk_lt ht inv hin hun j hj
    refine ⟨hjn, ?_⟩
    by_cases hji : j = i
    · subst hji; exact hy.wpOpIn hi (noDefer_spec hdf hi) hS ⟨hS, H⟩
    · have := hdone _ _ _ H j (ready_mono hj hji)
      omega
  | succ f ih =>
    intro listed a w inv hfree hr hy hS H
    have hun := (mem_ready.1 hr).1
    refine ⟨fun h => (by rw [h] at hr; cases hr), fun j hj => ?_⟩
    have hjn := tailOk_lt ht inv hin hun j hj
    refine ⟨hjn, ?_⟩
    by_cases hji : j = i
    · subst hji; exact hy.wpOpIn hi (noDefer_spec hdf hi) hS ⟨hS, H⟩
    · have h1 := (H.2 j (ready_mono hj hji)).2
      obtain ⟨hjun, oj, hoj, hall⟩ := mem_ready.1 hj
      have hnot : ∀ e ∈ oj.after, Region.binds md e = true → e.on ≠ i := fun e he hb heq => by
        have h1 := hall e he hb
        rw [heq, getD_both hun] at h1
        cases h1
      have h2 := wpOpIn_putF hoj (noDefer_spec hdf hoj) (hfree j oj hoj hji hjun hnot) (fun cs b => hsel i oi cs b hi) (fun cs b => hsel j oj cs b hoj) hQ hy h1
      have hfree' : ∀ k ok, ops[k]? = some ok → k ≠ i → (listed.setIfInBounds j true).getD k true = false →
          (∀ e ∈ ok.after, Region.binds md e = true → e.on ≠ i) → oi.apart ops ok = true := fun k ok hk hki hun hno => by
        refine hfree k ok hk hki ?_ hno
        by_cases hjk : j = k
        · subst hjk; exact hjun
        · rw [getD_set_ne true hjk] at hun; exact hun
      refine wpOpIn_mono (fun a' w' h3 => ⟨h3.2.1, ih (listed.setIfInBounds j true) a' w' (inv.set hj hjn) hfree' (ready_mono hr (Ne.symm hji)) h3.1 h3.2.1 ?_⟩) h2
      rw [Array.setIfInBounds_comm _ _ hji]
      exact h3.2.2

def wpOrdIn (F : Fence) (nn : Nat) (P : Program) (ops : Array Oper) (Q : Exit → Act → World → Prop) (S : World → Prop) (G : Act → World → Prop) : List (Oper × Bool) → Act → World → Prop
  | [], a, w => G a w
  | (o, true) :: r, a, w => ∃ v, YieldsFn P ops S o v a ∧ wpOrdIn F nn P ops Q S G r (a.put o.dst v) w
  | (o, false) :: r, a, w => if Region.wanted o (yielded ops a.tmps) = true then Oper.wpIn F nn P o a w (fun a' w' => S w' ∧ wpOrdIn F nn P ops Q S G r a' w') Q else (∀ f, o.about P w a.eval = some f → F.fn f) ∧ (S w ∧ wpOrdIn F nn P ops Q S G r (a.put o.dst undef) w)

theorem wpHdIn_ord {l : List Oper} {n : Nat} {G : Act → World → Prop} (hsel : Region.noSelect l.toArray = true) (hdf : noDefer l.toArray = true) (hQ : ∀ c a d v w, Q (.panic c) (a.put d v) w → Q (.panic c) a w) (ht : tailOk md l.toArray n = true) :
    ∀ (ord : List (Nat × Bool)) (rs : List (Oper × Bool)) (listed : Array Bool) (a : Act) (w : World), pick l ord = some rs → HeadInv md l.toArray n listed → ordB md l.toArray n ord listed = true → S w → wpOrdIn F nn P l.toArray Q S G rs a w →
      wpHdIn F nn P md l.toArray Q S n (fun listed' a' w' => Region.seqB md l.toArray (l.toArray.size - n) n listed' = true ∧ G a' w') ord.length listed a w
  | [], rs, listed, a, w, hp, inv, hB, hS, h => by
    simp only [pick, Option.some.injEq] at hp
    subst hp
    exact ⟨hB, h⟩
  | (i, b) :: r, rs, listed, a, w, hp, inv, hB, hS, h => by
    simp only [pick] at hp
    split at hp
    · rename_i o rs' ho hr
      simp only [Option.some.injEq] at hp
      subst hp
      have ho' : l.toArray[i]? = some o := by simpa using ho
      cases b with
      | true =>
        simp only [ordB, Bool.and_eq_true, decide_eq_true_eq] at hB
        obtain ⟨⟨⟨h1, h2⟩, h3⟩, h4⟩ := hB
        obtain ⟨v, hy, hK⟩ := h
        have hri : i ∈ Region.ready md l.toArray listed := by simpa using h2
        exact wpHdIn_first ho' (Region.noSelect_spec hsel) hdf (fun c a w => hQ c a _ _ w) ht h1 (fun listed' a' w' hL => seqB_ready hL.1) r.length listed a w inv (Region.free_spec ho' h3) hri hy hS
          (wpHdIn_ord hsel hdf hQ ht r rs' _ _ _ hr (inv.set hri h1) h4 hS hK)
      | false =>
        simp only [ordB, Bool.and_eq_true, decide_eq_true_eq] at hB
        obtain ⟨⟨h1, h2⟩, h4⟩ := hB
        refine ⟨fun h0 => by (rw [h2] at h0; cases h0), fun j hj => ?_⟩
        have hri := hj
        rw [h2] at hj
        have hji : j = i := by simpa using hj
        subst hji
        refine ⟨h1, ?_⟩
        unfold wpOpIn
        simp only [ho']
        have h' : if Region.wanted o (yielded l.toArray a.tmps) = true then Oper.wpIn F nn P o a w (fun a' w' => S w' ∧ wpOrdIn F nn P l.toArray Q S G rs' a' w') Q else (∀ f, o.about P w a.eval = some f → F.fn f) ∧ (S w ∧ wpOrdIn F nn P l.toArray Q S G rs' (a.put o.dst undef) w) := h
        split
        · rename_i hw
          rw [if_pos hw] at h'
          exact Oper.wpIn_mono (fun a' w' hh => ⟨hh.1, wpHdIn_ord hsel hdf hQ ht r rs' _ _ _ hr (inv.set hri h1) h4 hh.1 hh.2⟩) h'
        · rename_i hw
          rw [if_neg hw] at h'
          exact ⟨h'.1, h'.2.1, wpHdIn_ord hsel hdf hQ ht r rs' _ _ _ hr (inv.set hri h1) h4 h'.2.1 h'.2.2⟩
    · cases hp

theorem wpAnyIn_of_seq {Q' : Exit → Act → World → Prop} : ∀ (l : List Oper) (k : Nat) (listed : Array Bool) (a : Act) (w : World), (∀ j, l[j]? = ops[k + j]?) →
    Region.seqB md ops l.length k listed = true → wpListIn F nn P ops Q' l a w → wpAnyIn F nn P md ops Q' l.length listed a w
  | [], _, _, _, _, _, hB, h => ⟨by simpa [Region.seqB] using hB, h⟩
  | o :: l, k, listed, a, w, hl, hB, h => by
    have h0 : ops[k]? = some o := by simpa using (hl 0).symm
    simp only [List.length_cons, Region.seqB, Bool.and_eq_true, decide_eq_true_eq] at hB
    refine ⟨fun h1 => (by rw [hB.1] at h1; cases h1), fun i hi => ?_⟩
    rw [hB.1] at hi
    have hik : i = k := by simpa using hi
    subst hik
    have hw : wpOpIn F nn P ops Q' i (wpListIn F nn P ops Q' l) a w := by unfold wpOpIn; simp only [h0]; exact h
    exact wpOpIn_mono (fun a' w' h' => wpAnyIn_of_seq l (i + 1) _ a' w' (fun j => by have := hl (j + 1); simpa [Nat.add_assoc, Nat.add_comm 1 j] using this) hB.2 h') hw

/-- **A region, in an order of one's own, inside a fence.** -/
theorem wpIn_region_ord {id : Nat} {a : Act} {w : World} {l : List Oper} (n : Nat) (ord : List (Nat × Bool)) (S : World → Prop) {rs : List (Oper × Bool)} {tl : List Oper} (hm : P.follows .mixedOrders = true) (hp : pick l ord = some rs) (htl : l.drop n = tl) (hB : ordOk .any l.toArray n ord = true) (hdf : noDefer l.toArray = true)
    (hQ : ∀ c a t w, Q (.panic c) { a with tmps := t } w → Q (.panic c) a w) (hS : S w.drew)
    (h : wpOrdIn F nn P l.toArray Q S (wpListIn F nn P l.toArray Q tl) rs a w.drew) : (Code.region id l.toArray true).wpIn F nn P Q a w := by
  subst htl
  simp only [ordOk, Bool.and_eq_true, decide_eq_true_eq] at hB
  obtain ⟨⟨⟨hsel, ht⟩, hlen⟩, hord⟩ := hB
  have hn : n ≤ l.length := by
    simp only [tailOk, Bool.or_eq_true, Bool.and_eq_true, decide_eq_true_eq, List.size_toArray] at ht
    omega
  have inv0 : HeadInv .any l.toArray n (Array.replicate l.toArray.size false) :=
    ⟨by simp, fun j oj _ hl => (by rw [getD_replicate_false] at hl; cases hl), fun t _ ht => getD_in (by simpa using ht) (getD_replicate_false _ _)⟩
  have H := wpHdIn_ord (md := .any) hsel hdf (put_of_tmps hQ) ht ord rs _ a w.drew hp inv0 hord hS h
  refine wpIn_region_any hm ?_
  have := wpAnyIn_of_hd (Q := Q) (g := l.toArray.size - n) (fun listed a' w' hL => by
    have := wpAnyIn_of_seq (md := .any) (Q' := Q) (l.drop n) n listed a' w' (fun j => by simp [List.getElem?_drop]) (by rw [List.length_drop]; simpa using hL.1) hL.2
    rwa [List.length_drop, show l.length - n = l.toArray.size - n by simp] at this) _ _ _ _ H
  rw [hlen, show n + (l.toArray.size - n) = l.toArray.size by simp; omega] at this
  exact this

/-- Where the post of a panic hangs on the frame. -/
theorem wpIn_region_ordN {id : Nat} {a : Act} {w : World} {l : List Oper} (n : Nat) (ord : List (Nat × Bool)) (S : World → Prop) {rs : List (Oper × Bool)} {tl : List Oper} (hm : P.follows .mixedOrders = true) (hp : pick l ord = some rs) (htl : l.drop n = tl) (hB : ordOk .any l.toArray n ord = true) (hdf : noDefer l.toArray = true) (hS : S w.drew)
    (h : wpOrdIn F nn P l.toArray (NoPanic Q) S (wpListIn F nn P l.toArray (NoPanic Q) tl) rs a w.drew) : (Code.region id l.toArray true).wpIn F nn P Q a w :=
  wpIn_mono (wpIn_region_ord n ord S hm hp htl hB hdf (fun _ _ _ _ h => h) hS h) NoPanic.imp

theorem wpOrdIn_nil {G : Act → World → Prop} {a : Act} {w : World} (h : G a w) : wpOrdIn F nn P ops Q S G [] a w := h
theorem wpOrdIn_take {G : Act → World → Prop} {a : Act} {w : World} {o : Oper} {r : List (Oper × Bool)} (v : Value) (hw : Region.wanted o (yielded ops a.tmps) = true) (hab : ∀ w, o.about P w a.eval = none) (hy : ∀ w, S w → (execOp a.eval o).run P w = .ok (.value v) w)
    (h : wpOrdIn F nn P ops Q S G r (a.put o.dst v) w) : wpOrdIn F nn P ops Q S G ((o, true) :: r) a w := ⟨v, ⟨.inl ⟨hw, hy⟩, hab⟩, h⟩
theorem wpOrdIn_leave {G : Act → World → Prop} {a : Act} {w : World} {o : Oper} {r : List (Oper × Bool)} (hw : Region.wanted o (yielded ops a.tmps) = false) (hab : ∀ w, o.about P w a.eval = none)
    (h : wpOrdIn F nn P ops Q S G r (a.put o.dst undef) w) : wpOrdIn F nn P ops Q S G ((o, true) :: r) a w := ⟨undef, ⟨.inr ⟨hw, rfl⟩, hab⟩, h⟩
theorem wpOrdIn_move {G : Act → World → Prop} {a : Act} {w : World} {o : Oper} {r : List (Oper × Bool)}
    (h : ∀ K' : Act → World → Prop, Shut (∀ a w, S w → wpOrdIn F nn P ops Q S G r a w → K' a w) → if Region.wanted o (yielded ops a.tmps) = true then Oper.wpIn F nn P o a w K' Q else (∀ f, o.about P w a.eval = some f → F.fn f) ∧ K' (a.put o.dst undef) w) : wpOrdIn F nn P ops Q S G ((o, false) :: r) a w :=
  h _ (fun _ _ hS h => ⟨hS, h⟩)
end

end Go.Proofs.Ytaedfidfcoigoaa
