/- The plain law of With: the answers, and how many there are. -/
import Derived.Test.YtjdhcdbjfbhogaaG14
namespace Go.Proofs.Ytjdhcdbjfbhogaa

def putL (l : List Ans) (a : Qn) (x : Int) : List Ans := l ++ [⟨a, x⟩]
theorem getA_putL (l : List Ans) (a : Qn) (x : Int) (q : Qn) : getA (putL l a x) q = if a = q then max 0 x else getA l q := getA_snoc l ⟨a, x⟩ q
theorem getA_put (l : List Ans) (a : Qn) (x : Int) (q : Qn) : getA (normA (putL l a x)) q = if a = q then max 0 x else getA l q := by rw [getA_normA, getA_putL]
/-- Behind With the old answer again: the old normal form. -/
theorem norm_back (l : List Ans) (a : Qn) (x : Int) : normA (normA (putL (normA (putL l a x)) a (getA l a))) = normA l := by
  refine normA_inj.2 fun q => ?_
  rw [getA_put, getA_put]
  by_cases h : a = q
  · subst h
    have := getA_nonneg l a
    simp
    omega
  · simp [h]
/-- With for different questions commutes. -/
theorem norm_comm (l : List Ans) {a b : Qn} (h : a ≠ b) (x y : Int) : normA (normA (putL (normA (putL l a x)) b y)) = normA (normA (putL (normA (putL l b y)) a x)) := by
  refine normA_inj.2 fun q => ?_
  rw [getA_put, getA_put, getA_put, getA_put]
  by_cases h1 : a = q
  · subst h1
    simp [Ne.symm h]
  · simp [h1]
/-- How many parts there are behind With. -/
theorem length_put (l : List Ans) (a : Qn) (x : Int) :
    (normA (putL l a x)).length + (if 0 < getA l a then 1 else 0) = (normA l).length + (if 0 < x then 1 else 0) := by
  have hm : ∀ q, q ∈ (normA (putL l a x)).map Ans.q ↔ 0 < (if a = q then max 0 x else getA l q) := fun q => by rw [normA_has, getA_putL]
  have hl : ∀ m : List Ans, (normA m).length = ((normA m).map Ans.q).length := fun m => by simp
  rw [hl, hl l]
  have n1 := normA_nodup (putL l a x)
  have n2 := normA_nodup l
  by_cases h0 : 0 < getA l a
  · have ha : a ∈ (normA l).map Ans.q := (normA_has l a).2 h0
    by_cases hx : 0 < x
    · have hp : ((normA (putL l a x)).map Ans.q).Perm ((normA l).map Ans.q) := (List.perm_ext_iff_of_nodup n1 n2).2 fun q => by
        rw [hm q, normA_has]
        by_cases e : a = q
        · subst e
          simp [h0]
          omega
        · simp [e]
      rw [hp.length_eq, if_pos h0, if_pos hx]
    · have hp : ((normA (putL l a x)).map Ans.q).Perm (((normA l).map Ans.q).erase a) := (List.perm_ext_iff_of_nodup n1 (n2.erase a)).2 fun q => by
        rw [hm q, n2.mem_erase_iff, normA_has]
        by_cases e : a = q
        · subst e
          simp
          omega
        · simp [e]
          exact fun _ e2 => e e2.symm
      rw [hp.length_eq, if_pos h0, if_neg hx, List.length_erase_of_mem ha]
      have := List.length_pos_of_mem ha
      omega
  · have ha : a ∉ (normA l).map Ans.q := fun h => h0 ((normA_has l a).1 h)
    by_cases hx : 0 < x
    · have hp : ((normA (putL l a x)).map Ans.q).Perm (a :: (normA l).map Ans.q) := (List.perm_ext_iff_of_nodup n1 (List.nodup_cons.2 ⟨ha, n2⟩)).2 fun q => by
        rw [hm q, List.mem_cons, normA_has]
        by_cases e : a = q
        · subst e
          simp
          omega
        · simp [e]
          exact fun e2 => absurd e2.symm e
      rw [hp.length_eq, if_neg h0, if_pos hx, List.length_cons]
    · have hp : ((normA (putL l a x)).map Ans.q).Perm ((normA l).map Ans.q) := (List.perm_ext_iff_of_nodup n1 n2).2 fun q => by
        rw [hm q, normA_has]
        by_cases e : a = q
        · subst e
          simp [h0]
          omega
        · simp [e]
      rw [hp.length_eq, if_neg h0, if_neg hx]

end Go.Proofs.Ytjdhcdbjfbhogaa
