/- The reference's exchange of two neighbours. -/
import Derived.Test.YtaedfidfcoigoaaM1
import Derived.Test.YtaedfidfcoigoaaN10
namespace Go.Proofs.Ytaedfidfcoigoaa
open Go.RowKit

/-- Values stored one behind the other. -/
def setRow (W : World) (g o : Nat) : List Value → World
  | [] => W
  | v :: vs => setRow (W.setCell ⟨g, o, none⟩ v) g (o + 1) vs
def setArr (cs : Array Value) (o : Nat) : List Value → Array Value
  | [] => cs
  | v :: vs => setArr (cs.setIfInBounds o v) (o + 1) vs
theorem setArr_size (cs : Array Value) (o : Nat) (vs : List Value) : (setArr cs o vs).size = cs.size := by
  induction vs generalizing cs o with
  | nil => rfl
  | cons v vs ih => rw [setArr, ih, Array.size_setIfInBounds]
theorem setArr_out (cs : Array Value) (o : Nat) (vs : List Value) (j : Nat) (h : j < o ∨ o + vs.length ≤ j) : (setArr cs o vs)[j]? = cs[j]? := by
  induction vs generalizing cs o with
  | nil => rfl
  | cons v vs ih =>
    rw [setArr, ih _ _ (by simp only [List.length_cons] at h; omega), Array.getElem?_setIfInBounds_ne (by simp only [List.length_cons] at h; omega)]
theorem setArr_in (cs : Array Value) (o : Nat) (vs : List Value) (j : Nat) (hj : j < vs.length) (ho : o + vs.length ≤ cs.size) : (setArr cs o vs)[o + j]? = vs[j]? := by
  induction vs generalizing cs o j with
  | nil => simp at hj
  | cons v vs ih =>
    simp only [List.length_cons] at hj ho
    rw [setArr]
    cases j with
    | zero =>
      show (setArr (cs.setIfInBounds o v) (o + 1) vs)[o]? = some v
      rw [setArr_out _ _ _ _ (by omega), Array.getElem?_setIfInBounds_self_of_lt (by omega)]
    | succ j =>
      have := ih (cs.setIfInBounds o v) (o + 1) j (by omega) (by rw [Array.size_setIfInBounds]; omega)
      rw [show o + (j + 1) = o + 1 + j by omega, this]
      rfl
theorem setRow_blk {W : World} {g o : Nat} {cs : Array Value} (h : Blk W g cs) (vs : List Value) : Blk (setRow W g o vs) g (setArr cs o vs) := by
  induction vs generalizing W cs o with
  | nil => exact h
  | cons v vs ih => exact ih (h.set o v)
theorem setRow_same (P : Nat → Prop) {W : World} {g o : Nat} (hg : ¬ P g) (vs : List Value) : Same P W (setRow W g o vs) := by
  induction vs generalizing W o with
  | nil => exact Same.refl _ _
  | cons v vs ih => exact ((Same.refl _ W).set _ _ hg).trans ih
theorem setRow_below {W w : World} {B g o : Nat} (h : Below B w W) (hg : B ≤ g) (vs : List Value) : Below B w (setRow W g o vs) := by
  induction vs generalizing W o with
  | nil => exact h
  | cons v vs ih => exact ih (h.setCell hg _)

/-- Two neighbours exchanged. -/
def swapL (run : List Stp) (i : Nat) : List Stp := run.take i ++ (run.drop (i + 1)).take 1 ++ (run.drop i).take 1 ++ run.drop (i + 2)
theorem swap_split (run : List Stp) (i : Nat) (h : i + 1 < run.length) : run = run.take i ++ run[i] :: run[i + 1] :: run.drop (i + 2) ∧ swapL run i = run.take i ++ run[i + 1] :: run[i] :: run.drop (i + 2) := by
  have e1 : run.drop i = run[i] :: run.drop (i + 1) := List.drop_eq_getElem_cons (by omega)
  have e2 : run.drop (i + 1) = run[i + 1] :: run.drop (i + 2) := List.drop_eq_getElem_cons h
  constructor
  · rw [← e2, ← e1, List.take_append_drop]
  · unfold swapL
    rw [e1, e2]
    simp only [List.take_succ_cons, List.take_zero, List.append_assoc, List.cons_append, List.nil_append]
theorem swapL_sw (run : List Stp) (i : Nat) (h : i + 1 < run.length) (hd : depB run[i] run[i + 1] = false) : Sw run (swapL run i) :=
  ⟨_, _, _, _, (swap_split run i h).1, (swap_split run i h).2, hd⟩
theorem swapL_length (run : List Stp) (i : Nat) (h : i + 1 < run.length) : (swapL run i).length = run.length := by
  have h1 := swap_split run i h
  have := congrArg List.length h1.1
  rw [h1.2]
  simp at this ⊢
  omega
theorem swapL_get (run : List Stp) (i : Nat) (h : i + 1 < run.length) (k : Nat) : (swapL run i)[k]? = if k = i then run[i + 1]? else if k = i + 1 then run[i]? else run[k]? := by
  have h1 := swap_split run i h
  have hl : (run.take i).length = i := by rw [List.length_take]; omega
  have h2 := sw_get (run.take i) (run.drop (i + 2)) run[i] run[i + 1] (sig i k)
  rw [hl, sig_sig, ← h1.1, ← h1.2] at h2
  rw [h2]
  unfold sig
  by_cases e1 : k = i
  · simp [e1]
  · by_cases e2 : k = i + 1
    · simp [e2]
    · simp [e1, e2]

/-- What the exchange leaves in memory. -/
theorem swap_sl {w W : World} {g cap i : Nat} {run : List Stp} {cur : Array Value} {va0 vs0 va1 vs1 : Value} (hi : i + 1 < run.length) (hm : run.length ≤ 1000000) (hsz : run.length * 11 ≤ cur.size) (hc : StpCells w run (cur.toList.take (run.length * 11)))
    (ha0 : AskSl w va0 run[i].asks) (hs0 : MsgSl w vs0 run[i].sent) (ha1 : AskSl w va1 run[i + 1].asks) (hs1 : MsgSl w vs1 run[i + 1].sent)
    (hb : Blk W g (setArr (setArr cur (i * 11) (run[i + 1].row va1 vs1)) ((i + 1) * 11) (run[i].row va0 vs0))) (hbw : Below w.heap.size w W) : StpSl W (.slice (some ⟨g, 0, none⟩) run.length cap) (swapL run i) := by
  have hlen := swapL_length run i hi
  have hr1 : (run[i + 1].row va1 vs1).length = 11 := rfl
  have hr0 : (run[i].row va0 vs0).length = 11 := rfl
  have hsize : (setArr (setArr cur (i * 11) (run[i + 1].row va1 vs1)) ((i + 1) * 11) (run[i].row va0 vs0)).size = cur.size := by rw [setArr_size, setArr_size]
  have hxl : ((setArr (setArr cur (i * 11) (run[i + 1].row va1 vs1)) ((i + 1) * 11) (run[i].row va0 vs0)).toList.take (run.length * 11)).length = run.length * 11 := by
    have ht : (setArr (setArr cur (i * 11) (run[i + 1].row va1 vs1)) ((i + 1) * 11) (run[i].row va0 vs0)).toList.length = cur.size := (Array.length_toList).trans hsize
    rw [List.length_take, ht]
    omega
  refine ⟨(setArr (setArr cur (i * 11) (run[i + 1].row va1 vs1)) ((i + 1) * 11) (run[i].row va0 vs0)).toList.take (run.length * 11), cells_ext _ _ (hxl.trans (by rw [hlen])) ?_, ?_⟩
  · intro k s hk
    have hkl := (List.getElem?_eq_some_iff.1 hk).1
    rw [hlen] at hkl
    rw [swapL_get run i hi] at hk
    have hget : ∀ j, j < 11 → ((setArr (setArr cur (i * 11) (run[i + 1].row va1 vs1)) ((i + 1) * 11) (run[i].row va0 vs0)).toList.take (run.length * 11))[k * 11 + j]? = (setArr (setArr cur (i * 11) (run[i + 1].row va1 vs1)) ((i + 1) * 11) (run[i].row va0 vs0))[k * 11 + j]? := fun j hj => by
      rw [List.getElem?_take_of_lt (by omega), Array.getElem?_toList]
    by_cases e1 : k = i
    · subst e1
      rw [if_pos rfl, List.getElem?_eq_getElem hi] at hk
      cases hk
      refine ⟨va1, vs1, Flat.kept ha1 hbw (Nat.le_refl _), Flat.kept hs1 hbw (Nat.le_refl _), fun j u hu => ?_⟩
      have hj : j < 11 := by have := (List.getElem?_eq_some_iff.1 hu).1; omega
      rw [hget j hj, setArr_out _ _ _ _ (by omega), setArr_in _ _ _ _ (by omega) (by omega)]
      exact hu
    · rw [if_neg e1] at hk
      by_cases e2 : k = i + 1
      · subst e2
        rw [if_pos rfl, List.getElem?_eq_getElem (by omega)] at hk
        cases hk
        refine ⟨va0, vs0, Flat.kept ha0 hbw (Nat.le_refl _), Flat.kept hs0 hbw (Nat.le_refl _), fun j u hu => ?_⟩
        have hj : j < 11 := by have := (List.getElem?_eq_some_iff.1 hu).1; omega
        rw [hget j hj, setArr_in _ _ _ _ (by omega) (by rw [setArr_size]; omega)]
        exact hu
      · rw [if_neg e2] at hk
        obtain ⟨va, vs, h1, h2, h3⟩ := hc.at hk
        refine ⟨va, vs, Flat.kept h1 hbw (Nat.le_refl _), Flat.kept h2 hbw (Nat.le_refl _), fun j u hu => ?_⟩
        have hj : j < 11 := by have := (List.getElem?_eq_some_iff.1 hu).1; exact this
        have h4 := h3 j u hu
        rw [List.getElem?_take_of_lt (by omega), Array.getElem?_toList] at h4
        rw [hget j hj, setArr_out _ _ _ _ (by omega), setArr_out _ _ _ _ (by omega)]
        exact h4
  · rw [hlen]
    refine Flat.of_cells hxl (by omega) fun j u hu => ?_
    rw [Nat.zero_add, hb.cell j]
    have hj := (List.getElem?_eq_some_iff.1 hu).1
    rw [hxl] at hj
    rw [List.getElem?_take_of_lt hj, Array.getElem?_toList] at hu
    exact hu

end Go.Proofs.Ytaedfidfcoigoaa
