/- slices.Backward over a row of numbers. -/
import Derived.Test.YtaedfidfcoigoaaN3
import Derived.RangeFuncNested
import Derived.RangeFuncBound
import Derived.RangeFuncCalls
import Derived.RangeFuncLeaves
import Derived.Shelf.Abstract
import Derived.Shelf.RegionOpen
import Derived.OwnWalkIn
import Derived.TacticsInMore
import Derived.LoopNIn
import Derived.LoopIn
namespace Go.Proofs.Ytaedfidfcoigoaa
open Go.RowKit Go.Shelf
attribute [local go_sem] Oper.semAt_some

/-- What a round keeps: the blocks of P. -/
def KpP (P : Nat → Prop) (A B : World) : Prop := ∀ b o, P b → B.cell? ⟨b, o, none⟩ = A.cell? ⟨b, o, none⟩
theorem KpP.refl (P : Nat → Prop) (A : World) : KpP P A A := fun _ _ _ => rfl
theorem KpP.trans {P : Nat → Prop} {A B C : World} (h : KpP P A B) (k : KpP P B C) : KpP P A C := fun b o hb => (k b o hb).trans (h b o hb)
theorem KpP.set {P : Nat → Prop} {A B : World} (h : KpP P A B) (a : Addr) (v : Value) (ha : ¬ P a.block) : KpP P A (B.setCell a v) := fun b o hb =>
  (World.cell?_setCell_other _ _ _ _ (fun e => ha (by rw [e]; exact hb))).trans (h b o hb)
theorem KpP.below {P : Nat → Prop} {A B : World} {n : Nat} (h : Below n A B) (hP : ∀ b, P b → b < n) : KpP P A B := fun b o hb => h.cell (p := ⟨b, o, none⟩) (hP b hb)

/-- The places of a row from the last one down to k. -/
def bwdL {n : Nat} (row : List (Fin n)) (k : Nat) : List (Fin n × Nat) := (row.zipIdx.drop k).reverse
def fv {n : Nat} (row : List (Fin n)) : List Nat := row.map Fin.val
theorem bwdL_start {n : Nat} (row : List (Fin n)) : bwdL row (fv row).length = [] := by simp [bwdL, fv]
theorem bwdL_step {n : Nat} (row : List (Fin n)) (k : Nat) (x : Fin n) (h : row[k]? = some x) : bwdL row k = bwdL row (k + 1) ++ [(x, k)] := by
  obtain ⟨hk, rfl⟩ := List.getElem?_eq_some_iff.1 h
  unfold bwdL
  rw [List.drop_eq_getElem_cons (by simpa using hk)]
  simp
theorem bwdL_length {n : Nat} (row : List (Fin n)) (k : Nat) : (bwdL row k).length = row.length - k := by simp [bwdL]
theorem bwdL_fst {n : Nat} (row : List (Fin n)) : (bwdL row 0).map Prod.fst = row.reverse := by
  unfold bwdL
  rw [List.drop_zero, List.map_reverse, List.zipIdx_map_fst]
/-- A place as yield is handed it. -/
def encB {n : Nat} (x : Fin n × Nat) : Array Value := #[I x.2, I x.1.val]

set_option maxHeartbeats 2000000 in
set_option maxRecDepth 100000 in
theorem backIter {m : Nat} (n : Nat) (hn : 1 ≤ n) (row : List (Fin m)) (tb : Nat) (v : Value) (w0 : World) (P : Nat → Prop) (hbox : w0.cell? ⟨tb, 0, none⟩ = some v) (hrow : Flat w0 1 v (fv row).length (nv (fv row))) (hlen : (fv row).length ≤ 1000000)
    (hP : ∀ b, P b → b < w0.heap.size) (hPt : P tb) (hPr : ∀ b o m c, v = .slice (some ⟨b, o, none⟩) m c → P b) :
    SeqStopsK Fence.wide n Try.prog 94 #[.pointer (some ⟨tb, 0, none⟩)] encB (KpP P) (fun xs => xs = bwdL row 0) (fun _ => True) (fv row).length w0 := by
  intro l J Jx W hW hJ hJx hY h0
  obtain ⟨ka, ca, rfl, hml⟩ := hrow.open
  have hb0 : W.cell? ⟨tb, 0, none⟩ = some (.slice ka (fv row).length ca) := (hW.cell (p := ⟨tb, 0, none⟩) (hP _ hPt)).trans hbox
  have HY := Lib.hid hY
  clear hY
  refine callsIn_of_wp Try.func94 rfl trivial ?_ rfl
  simp only [Try.ntmps94, List.size_toArray, List.length_cons, List.length_nil, Nat.reduceAdd, Nat.reduceSub, Array.replicate_succ, Array.replicate_zero, List.push_toArray, List.append_toArray, List.nil_append, List.cons_append]
  gi_wp2
  gi_loopw [3] (fun p wr => ∃ k : Nat, k ≤ (fv row).length ∧ p = .int .i64 ((k : Int) - 1) ∧ KpP P w0 wr ∧ J (bwdL row k) wr) (fun p _ => (intOf p + 1).toNat)
  case atStart => exact ⟨(fv row).length, Nat.le_refl _, rfl, KpP.below hW hP, by rw [bwdL_start]; exact h0⟩
  case round =>
    clear hb0
    obtain ⟨k, hk, rfl, hK, hJk⟩ := hrel
    cases k with
    | zero =>
      gi_wp2
      go_end0
      exact ⟨⟨_, rfl⟩, .inl ⟨_, rfl, hJk⟩⟩
    | succ k =>
      have hkl : k < (fv row).length := by omega
      have e1 : ((k + 1 : Nat) : Int) - 1 = (k : Int) := by omega
      rw [e1]
      have hbx := (hK tb 0 hPt).trans hbox
      obtain ⟨x, hx⟩ : ∃ x, row[k]? = some x := ⟨row[k]'(by simpa [fv] using hkl), by simp⟩
      obtain ⟨b, o, rfl, hc⟩ := flat_nv hrow (i := k) (x := x.val) (by simp [fv, hx])
      have hcx := (hK b (o + k) (hPr b o _ _ rfl)).trans hc
      have hsx := bwdL_step row k x hx
      have Hs := Lib.hid hsx
      have Hlt := Lib.hid (show (bwdL row (k + 1)).length < (fv row).length by rw [bwdL_length]; simp [fv] at hkl ⊢; omega)
      obtain ⟨fn, tmps, assign, body, hy, hR⟩ := HY.out _ (x, k) wr hJk Hlt.out
      dsimp only [encB] at hy
      clear hsx e1 hx hc
      gi_wp2
      refine hR.mono ?_
      rintro e W3 (⟨rfl, hJ3, hk3⟩ | ⟨rfl, hJx3⟩)
      · gi_wp2
        go_roundw
        case rel => exact ⟨k, by omega, rfl, hK.trans hk3, by rw [Hs.out]; exact hJ3⟩
        case measure => simp [intOf]
      · gi_wp2
        refine bodyPost_ret (results_none rfl _ _ _) rfl ?_
        exact ⟨⟨_, rfl⟩, .inr ⟨_, trivial, hJx3⟩⟩

theorem backward (a : Option Addr) (n c : Nat) (w : World) : Calls Try.prog 81 #[.slice a n c] w fun e w' => e = .returned (.func (.func 94) #[] #[.pointer (some ⟨w.heap.size, 0, none⟩)]) ∧ w' = w.alloc (.cells #[.slice a n c] 22) := by
  go_enter Try.func81, Try.ntmps81
  go_wp2_with fail
  go_ret
  exact ⟨rfl, rfl⟩

theorem KpP.putObj {P : Nat → Prop} (W : World) (l : Nat) (o' : Obj) (h : ¬ P l) : KpP P W (W.putObj l o') := fun b o hb => by
  have hne : b ≠ l := by
    rintro rfl
    exact h hb
  simp [World.cell?, World.putObj_heap_other hne]

theorem snocRec {α : Type} {P : List α → Prop} (nil : P []) (append_singleton : ∀ l a, P l → P (l ++ [a])) (l : List α) : P l := by
  have h : ∀ m : List α, P m.reverse := fun m => by
    induction m with
    | nil => exact nil
    | cons a m ih => rw [List.reverse_cons]; exact append_singleton _ _ ih
  have := h l.reverse
  rwa [List.reverse_reverse] at this
/-- The sets above the elements as the last loop fills them: what has been made for the elements of a list. -/
def foldS (g : Nat → Nat) (l : List Nat) : Nat := l.foldl (fun m b => (m ||| 2 ^ b) ||| g b) 0
def stepW (nx : Nat → List Nat) (wd : Nat → Option Nat) (a : Nat) : Nat → Option Nat := fun x => if x = a then some (foldS (fun b => (wd b).getD 0) (nx a)) else wd x
def wdOf (nx : Nat → List Nat) (al : List Nat) : Nat → Option Nat := al.foldl (stepW nx) (fun _ => none)
theorem foldS_snoc (g : Nat → Nat) (l : List Nat) (b : Nat) : foldS g (l ++ [b]) = (foldS g l ||| 2 ^ b) ||| g b := by simp [foldS]
theorem foldS_lt (g : Nat → Nat) (l : List Nat) (hl : ∀ b ∈ l, b < 64 ∧ g b < lim64) : foldS g l < lim64 := by
  induction l using snocRec with
  | nil => show 0 < 2 ^ 64; omega
  | append_singleton l b ih =>
    rw [foldS_snoc]
    have h1 := ih (fun c hc => hl c (List.mem_append_left _ hc))
    have h2 := hl b (by simp)
    exact Nat.or_lt_two_pow (Nat.or_lt_two_pow h1 (pow_lt b h2.1)) h2.2
theorem foldS_bit (g : Nat → Nat) (l : List Nat) (k : Nat) : (foldS g l).testBit k = l.any fun b => b == k || (g b).testBit k := by
  induction l using snocRec with
  | nil => simp [foldS]
  | append_singleton l b ih =>
    rw [foldS_snoc, Nat.testBit_or, Nat.testBit_or, ih, Nat.testBit_two_pow]
    simp [Bool.or_assoc]
    rfl
theorem wdOf_snoc (nx : Nat → List Nat) (al : List Nat) (a : Nat) : wdOf nx (al ++ [a]) = stepW nx (wdOf nx al) a := by simp [wdOf]
theorem wdOf_none (nx : Nat → List Nat) (al : List Nat) (x : Nat) (h : x ∉ al) : wdOf nx al x = none := by
  induction al using snocRec with
  | nil => rfl
  | append_singleton al a ih =>
    rw [wdOf_snoc]
    unfold stepW
    rw [if_neg (fun e => h (by simp [e]))]
    exact ih (fun e => h (by simp [e]))
/-- Where each element comes behind all that are above it, the sets are what they should be. -/
theorem wdOf_law (nx : Nat → List Nat) (n : Nat) (hn : n ≤ 64) (f : Nat → Nat → Bool) (hnx : ∀ a < n, ∀ b ∈ nx a, b < n) (hf : ∀ a < n, ∀ k < n, f a k = (nx a).any fun b => b == k || f b k) (al : List Nat) (hnd : al.Nodup) (hlt : ∀ a ∈ al, a < n)
    (ho : ∀ q a, al[q]? = some a → ∀ b ∈ nx a, b ∈ al.take q) : ∀ a ∈ al, ∃ m, wdOf nx al a = some m ∧ m < lim64 ∧ ∀ k < n, m.testBit k = f a k := by
  induction al using snocRec with
  | nil => intro a ha; simp at ha
  | append_singleton al a ih =>
    have hnd' := List.nodup_append.1 hnd
    have hlt' : ∀ x ∈ al, x < n := fun x hx => hlt x (List.mem_append_left _ hx)
    have ih := ih hnd'.1 hlt' (fun q x hq b hb => by
      have hql := (List.getElem?_eq_some_iff.1 hq).1
      have := ho q x (by rw [List.getElem?_append_left hql]; exact hq) b hb
      rwa [List.take_append_of_le_length (by omega)] at this)
    have han := hlt a (by simp)
    have hin : ∀ b ∈ nx a, b ∈ al := fun b hb => by
      have := ho al.length a (by simp) b hb
      rwa [List.take_left] at this
    intro x hx
    rw [wdOf_snoc]
    unfold stepW
    by_cases e : x = a
    · subst e
      rw [if_pos rfl]
      refine ⟨_, rfl, foldS_lt _ _ fun b hb => ?_, fun k hk => ?_⟩
      · obtain ⟨m, h1, h2, _⟩ := ih b (hin b hb)
        rw [h1]
        have := hnx x han b hb
        exact ⟨by omega, h2⟩
      · rw [foldS_bit, hf x han k hk, Bool.eq_iff_iff, List.any_eq_true, List.any_eq_true]
        have key : ∀ b ∈ nx x, ((wdOf nx al b).getD 0).testBit k = f b k := fun b hb => by
          obtain ⟨m, h1, _, h3⟩ := ih b (hin b hb)
          rw [h1]
          exact h3 k hk
        constructor
        · rintro ⟨b, hb, h⟩; exact ⟨b, hb, by rwa [key b hb] at h⟩
        · rintro ⟨b, hb, h⟩; exact ⟨b, hb, by rwa [key b hb]⟩
    · rw [if_neg e]
      refine ih x ?_
      rcases List.mem_append.1 hx with h | h
      · exact h
      · simp at h; exact absurd h e

/-- The sets above the elements, in memory: arr: what the order's row holds. -/
def Above (W : World) (n lo : Nat) (arr : Array Value) (wd : Nat → Option Nat) : Prop := arr.size = n ∧ ∀ a < n, match wd a with
  | none => arr[a]? = some (.slice none 0 0)
  | some m => m < lim64 ∧ ∃ gi, lo ≤ gi ∧ gi < W.heap.size ∧ arr[a]? = some (.slice (some ⟨gi, 0, none⟩) 1 1) ∧ W.cell? ⟨gi, 0, none⟩ = some (.int .u64 ((m : Nat) : Int))
theorem Above.kept {W W' : World} {n lo : Nat} {arr : Array Value} {wd : Nat → Option Nat} (h : Above W n lo arr wd) (hs : W.heap.size ≤ W'.heap.size) (hc : ∀ b v, lo ≤ b → b < W.heap.size → W.cell? ⟨b, 0, none⟩ = some v → W'.cell? ⟨b, 0, none⟩ = some v) : Above W' n lo arr wd := by
  refine ⟨h.1, fun a ha => ?_⟩
  have := h.2 a ha
  split
  · rename_i e
    rw [e] at this
    exact this
  · rename_i m e
    rw [e] at this
    obtain ⟨h1, gi, h2, h3, h4, h5⟩ := this
    exact ⟨h1, gi, h2, by omega, h4, hc gi _ h2 h3 h5⟩
/-- One more set: made in block g behind all. -/
theorem Above.step {W W' : World} {n lo : Nat} {arr : Array Value} {nx : Nat → List Nat} {wd : Nat → Option Nat} (h : Above W n lo arr wd) (a : Nat) (ha : a < n) (hnx : ∀ b ∈ nx a, b < n) (hn : n ≤ 64) (hlo : lo ≤ W.heap.size)
    (hs : W.heap.size < W'.heap.size) (hc : ∀ b v, lo ≤ b → b < W.heap.size → W.cell? ⟨b, 0, none⟩ = some v → W'.cell? ⟨b, 0, none⟩ = some v)
    (hg : W'.cell? ⟨W.heap.size, 0, none⟩ = some (.int .u64 ((foldS (fun b => (wd b).getD 0) (nx a) : Nat) : Int))) :
    Above W' n lo (arr.setIfInBounds a (.slice (some ⟨W.heap.size, 0, none⟩) 1 1)) (stepW nx wd a) := by
  have hk := h.kept (W' := W') (by omega) hc
  refine ⟨by rw [Array.size_setIfInBounds]; exact h.1, fun x hx => ?_⟩
  unfold stepW
  by_cases e : x = a
  · subst e
    rw [if_pos rfl]
    refine ⟨foldS_lt _ _ fun b hb => ⟨by have := hnx b hb; omega, ?_⟩, W.heap.size, hlo, hs, by rw [Array.getElem?_setIfInBounds_self_of_lt (by rw [h.1]; exact hx)], hg⟩
    have := h.2 b (hnx b hb)
    cases hw : wd b with
    | none => show 0 < 2 ^ 64; omega
    | some m =>
      rw [hw] at this
      exact this.1
  · rw [if_neg e]
    have := hk.2 x hx
    rw [Array.getElem?_setIfInBounds_ne (Ne.symm e)]
    exact this
theorem Above.start (W : World) (n lo : Nat) : Above W n lo (mk1 n (.slice none 0 0)) (fun _ => none) := ⟨mk1_size _ _, fun _ ha => mk1_get _ _ _ ha⟩

set_option maxHeartbeats 400000 in
theorem setJoinNil (b o c : Nat) (w : World) :
    Calls Try.prog 83 #[.slice (some ⟨b, o, none⟩) 1 c, .slice none 0 0] w fun e w' => e = .returned (.tuple #[]) ∧ w' = w := by
  go_enter Try.func83, Try.ntmps83
  go_wp2
  refine wp_loop_rounds 1 ?_
  rw [rounds_succ]
  go_wp2
  go_end0
  exact ⟨rfl, rfl⟩

theorem Blk.ownFrom {W W' : World} {g : Nat} {cs : Array Value} (h : Blk W g cs) {row : Option Nat} (hg : W.grownBy W' row) (hr : ∀ r, row = some r → ∃ o : Obj, W.heap[r]? = some o ∧ o.isCells = false) : Blk W' g cs := by
  refine h.grown hg fun e => ?_
  obtain ⟨o, h1, h2⟩ := hr g e
  obtain ⟨t, h3⟩ := h
  rw [h3] at h1
  cases h1
  cases h2
theorem Blk.putObj {W : World} {g : Nat} {cs : Array Value} (h : Blk W g cs) {l : Nat} {o : Obj} (o' : Obj) (hl : W.heap[l]? = some o) (ho : o.isCells = false) : Blk (W.putObj l o') g cs :=
  h.ownFrom (grownBy_putObj' W l o') (fun r e => by cases e; exact ⟨o, hl, ho⟩)

theorem rev_order {nx : Nat → List Nat} {n : Nat} {row done : List Nat} (h : QAt nx n row done) (hfull : ∀ i < n, i ∈ row) (hnx : ∀ a < n, ∀ b ∈ nx a, b < n) : ∀ q a, row.reverse[q]? = some a → ∀ b ∈ nx a, b ∈ row.reverse.take q := by
  intro q a hq b hb
  have hql : q < row.length := by have := (List.getElem?_eq_some_iff.1 hq).1; simpa using this
  rw [List.getElem?_reverse hql] at hq
  have han := h.lt a (List.mem_of_getElem? hq)
  obtain ⟨p, hp⟩ := List.getElem?_of_mem (hfull b (hnx a han b hb))
  have hpl := (List.getElem?_eq_some_iff.1 hp).1
  have ha := h.order p b hp a han hb
  obtain ⟨j, hj⟩ := List.getElem?_of_mem ha
  have hjl := (List.getElem?_eq_some_iff.1 hj).1
  rw [List.length_take] at hjl
  rw [List.getElem?_take_of_lt (by omega)] at hj
  have hjq : j = row.length - 1 - q := (List.getElem?_inj (by omega) h.nodup).1 (hj.trans hq.symm)
  have : row.reverse[row.length - 1 - p]? = some b := by
    rw [List.getElem?_reverse (by omega), show row.length - 1 - (row.length - 1 - p) = p by omega]
    exact hp
  refine List.mem_of_getElem? (i := row.length - 1 - p) ?_
  rw [List.getElem?_take_of_lt (by omega)]
  exact this
theorem ord_rep {k ga gp lo : Nat} {W : World} {arr : Array Value} {f : Nat → Nat → Bool} {wd : Nat → Option Nat} (hn : k ≤ 64) (hb : Blk W ga arr) (h0 : W.cell? ⟨gp, 0, none⟩ = some (I k)) (h1 : W.cell? ⟨gp, 1, none⟩ = some (.slice (some ⟨ga, 0, none⟩) k k))
    (hab : Above W k lo arr wd) (hall : ∀ i < k, ∃ m, wd i = some m ∧ m < lim64 ∧ ∀ j < k, m.testBit j = f i j) : OrdRep W (.pointer (some ⟨gp, 0, none⟩)) k f := by
  refine ⟨hn, gp, ga, k, rfl, h0, h1, fun i hi => ?_⟩
  obtain ⟨m, e, h2, h3⟩ := hall i hi
  have := hab.2 i hi
  rw [e] at this
  obtain ⟨_, gi, _, _, h4, h5⟩ := this
  exact ⟨gi, 1, m, (hb.cell i).trans h4, h5, h2, h3⟩
theorem cell_putObj {W : World} {a : Addr} {v : Value} {l : Nat} {o : Obj} (h : W.cell? a = some v) (o' : Obj) (hl : W.heap[l]? = some o) (ho : o.isCells = false) : (W.putObj l o').cell? a = some v :=
  cell_kept h (grownBy_putObj' W l o') (fun r e => by cases e; exact ⟨o, hl, ho⟩)

/-- Block G alone has been written. -/
structure Touch (G : Nat) (W W' : World) : Prop where
  size : W'.heap.size = W.heap.size
  cell : ∀ b o, b ≠ G → W'.cell? ⟨b, o, none⟩ = W.cell? ⟨b, o, none⟩
  others : KeepsOthers W W'
  below : ∀ B, B ≤ G → Below B W W'
  blk : ∀ g cs, g ≠ G → Blk W g cs → Blk W' g cs
theorem Touch.refl (G : Nat) (W : World) : Touch G W W := ⟨rfl, fun _ _ _ => rfl, KeepsOthers.refl W, fun _ _ => Below.refl _ _, fun _ _ _ h => h⟩
theorem Touch.trans {G : Nat} {A B C : World} (h : Touch G A B) (k : Touch G B C) : Touch G A C :=
  ⟨k.size.trans h.size, fun b o hb => (k.cell b o hb).trans (h.cell b o hb), h.others.trans k.others, fun n hn => (h.below n hn).trans (k.below n hn), fun g cs hg hb => k.blk g cs hg (h.blk g cs hg hb)⟩
theorem Touch.set (G o : Nat) (W : World) (v : Value) : Touch G W (W.setCell ⟨G, o, none⟩ v) :=
  ⟨by simp, fun b o' hb => World.cell?_setCell_other _ _ _ _ (fun e => hb (congrArg Addr.block e).symm), KeepsOthers.setCell _ _ _, fun _ hB => (Below.refl _ W).setCell hB _, fun _ _ hg hb => hb.setOther _ _ (fun e => hg e.symm)⟩
theorem Touch.drew {G : Nat} {W W' : World} (h : Touch G W W') : Touch G W W'.drew :=
  ⟨h.size, h.cell, h.others.trans (KeepsOthers.drew _), fun B hB => (h.below B hB).drew, fun g cs hg hb => (h.blk g cs hg hb).drew⟩
theorem Touch.drewN {G : Nat} {W W' : World} (h : Touch G W W') (n : Nat) : Touch G W (W'.drewN n) :=
  ⟨h.size, h.cell, h.others.trans ⟨Nat.le_refl _, fun _ _ h _ => h⟩, fun B hB => below_drewN (h.below B hB) n, fun g cs hg hb => (h.blk g cs hg hb).drewN n⟩

theorem setAddB (G m i : Nat) (w : World) (hG : Blk w G #[.int .u64 ((m : Nat) : Int)]) (hm : m < lim64) (hi : i < 64) :
    Calls Try.prog 82 #[.slice (some ⟨G, 0, none⟩) 1 1, I i] w fun e w' => e = .returned (.tuple #[]) ∧ Blk w' G #[.int .u64 ((m ||| 2 ^ i : Nat) : Int)] ∧ Touch G w w' := by
  refine (setAdd G 0 1 m i w (hG.cell 0) (hG.frozen 0) hm hi).mono ?_
  rintro e w' ⟨rfl, n, rfl⟩
  exact ⟨rfl, (hG.set 0 _).drewN n, (Touch.set G 0 w _).drewN n⟩
theorem setJoinB (G m mb : Nat) (tv : Value) (w : World) (hG : Blk w G #[.int .u64 ((m : Nat) : Int)]) (hm : m < lim64)
    (ht : (tv = .slice none 0 0 ∧ mb = 0) ∨ ∃ gi, tv = .slice (some ⟨gi, 0, none⟩) 1 1 ∧ w.cell? ⟨gi, 0, none⟩ = some (.int .u64 ((mb : Nat) : Int)) ∧ mb < lim64) :
    Calls Try.prog 83 #[.slice (some ⟨G, 0, none⟩) 1 1, tv] w fun e w' => e = .returned (.tuple #[]) ∧ Blk w' G #[.int .u64 ((m ||| mb : Nat) : Int)] ∧ Touch G w w' := by
  rcases ht with ⟨rfl, rfl⟩ | ⟨gi, rfl, hc, hmb⟩
  · refine (setJoinNil G 0 1 w).mono ?_
    rintro e w' ⟨rfl, rfl⟩
    exact ⟨rfl, by rw [Nat.or_zero]; exact hG, Touch.refl _ _⟩
  · refine (setJoin G 0 1 gi 0 1 m mb w (hG.cell 0) (hG.frozen 0) hm hc hmb).mono ?_
    rintro e w' ⟨rfl, rfl⟩
    exact ⟨rfl, hG.set 0 _, Touch.set G 0 w _⟩

/-- What the last loop keeps. -/
def BkI (k ga : Nat) (L : List (Nat × Nat)) (w W6 : World) (al : List Nat) (W : World) : Prop := ∃ arr : Array Value, Blk W ga arr ∧ Above W k W6.heap.size arr (wdOf (nxL L) al) ∧ KpP (fun b => b < W6.heap.size ∧ b ≠ ga) W6 W ∧ W6.heap.size ≤ W.heap.size ∧ Below w.heap.size w W
theorem kpp_grown {P : Nat → Prop} {A B : World} {n : Nat} {row : Option Nat} (hg : A.grownBy B row) (hr : ∀ r, row = some r → n ≤ r) (hP : ∀ b, P b → b < n) (hn : n ≤ A.heap.size) : KpP P A B := fun b o hb => by
  have := hg.block b (Nat.lt_of_lt_of_le (hP b hb) hn) (fun e => by have := hr b e.symm; have := hP b hb; omega)
  simp [World.cell?, this]
theorem bki_own (k ga : Nat) (L : List (Nat × Nat)) (w W6 : World) (hw : w.heap.size ≤ W6.heap.size) : OwnFrom W6.heap.size (fun (pre : List (Fin k × Nat)) W => BkI k ga L w W6 (pre.map fun x => x.1.val) W) := by
  intro s A B row hs hg hr
  obtain ⟨arr, h1, h2, h3, h4, h5⟩ := hs
  refine ⟨arr, h1.ownFrom hg (fun r e => (hr r e).2), h2.kept hg.size (fun b v _ _ hc => cell_kept hc hg (fun r e => (hr r e).2)), h3.trans (kpp_grown hg (fun r e => (hr r e).1) (fun b hb => hb.1) h4), Nat.le_trans h4 hg.size, ?_⟩
  exact h5.grown hg h5.size (fun r e => by have := (hr r e).1; omega)

theorem KpP.weak {P P' : Nat → Prop} {A B : World} (h : KpP P A B) (hp : ∀ b, P' b → P b) : KpP P' A B := fun b o hb => h b o (hp b hb)
theorem Above.val {W : World} {n lo : Nat} {arr : Array Value} {wd : Nat → Option Nat} (h : Above W n lo arr wd) {b : Nat} (hb : b < n) : ∃ tv, arr[b]? = some tv ∧ ((tv = .slice none 0 0 ∧ (wd b).getD 0 = 0) ∨ ∃ gi, tv = .slice (some ⟨gi, 0, none⟩) 1 1 ∧ lo ≤ gi ∧ gi < W.heap.size ∧ W.cell? ⟨gi, 0, none⟩ = some (.int .u64 (((wd b).getD 0 : Nat) : Int)) ∧ (wd b).getD 0 < lim64) := by
  have := h.2 b hb
  cases hw : wd b with
  | none => rw [hw] at this; exact ⟨_, this, .inl ⟨rfl, rfl⟩⟩
  | some m => rw [hw] at this; obtain ⟨h1, gi, h2, h3, h4, h5⟩ := this; exact ⟨_, h4, .inr ⟨gi, rfl, h2, h3, h5, h1⟩⟩

theorem ordMade1 (w : World) (k : Nat) : OrdMade w k (.pointer (some ⟨w.heap.size + 1 + 1, 0, none⟩)) (((w.alloc (.cells (mk1 k (.slice none 0 0)) 93)).alloc (.cells #[I k, .slice (some ⟨w.heap.size, 0, none⟩) k k] 96)).alloc (.cells #[.pointer (some ⟨w.heap.size + 1, 0, none⟩)] 66)).drew := by
  refine ⟨w.heap.size, w.heap.size + 1, w.heap.size + 1 + 1, rfl, by omega, by omega, by omega, by omega, by omega, by omega, (((Blk.new w _ 93).alloc _).alloc _).drew, ?_, ?_, ((((Below.refl _ w).alloc (Nat.le_refl _) _).alloc (by simp) _).alloc (by simp; omega) _).drew⟩
  · have := ((Blk.new (w.alloc (.cells (mk1 k (.slice none 0 0)) 93)) #[I k, .slice (some ⟨w.heap.size, 0, none⟩) k k] 96).alloc (.cells #[.pointer (some ⟨w.heap.size + 1, 0, none⟩)] 66)).drew
    simpa using this
  · have := (Blk.new ((w.alloc (.cells (mk1 k (.slice none 0 0)) 93)).alloc (.cells #[I k, .slice (some ⟨w.heap.size, 0, none⟩) k k] 96)) #[.pointer (some ⟨w.heap.size + 1, 0, none⟩)] 66).drew
    simpa using this
theorem ordMade2 (w : World) (k : Nat) : OrdMade w k (.pointer (some ⟨w.heap.size + 1, 0, none⟩)) (((w.alloc (.cells (mk1 k (.slice none 0 0)) 93)).alloc (.cells #[.pointer (some ⟨w.heap.size + 1 + 1, 0, none⟩)] 66)).alloc (.cells #[I k, .slice (some ⟨w.heap.size, 0, none⟩) k k] 96)).drew := by
  refine ⟨w.heap.size, w.heap.size + 1 + 1, w.heap.size + 1, rfl, by omega, by omega, by omega, by omega, by omega, by omega, (((Blk.new w _ 93).alloc _).alloc _).drew, ?_, ?_, ((((Below.refl _ w).alloc (Nat.le_refl _) _).alloc (by simp) _).alloc (by simp; omega) _).drew⟩
  · have := (Blk.new ((w.alloc (.cells (mk1 k (.slice none 0 0)) 93)).alloc (.cells #[.pointer (some ⟨w.heap.size + 1 + 1, 0, none⟩)] 66)) #[I k, .slice (some ⟨w.heap.size, 0, none⟩) k k] 96).drew
    simpa using this
  · have := ((Blk.new (w.alloc (.cells (mk1 k (.slice none 0 0)) 93)) #[.pointer (some ⟨w.heap.size + 1 + 1, 0, none⟩)] 66).alloc (.cells #[I k, .slice (some ⟨w.heap.size, 0, none⟩) k k] 96)).drew
    simpa using this
theorem ordMade3 (w : World) (k : Nat) : OrdMade w k (.pointer (some ⟨w.heap.size, 0, none⟩)) (((w.alloc (.cells #[.pointer (some ⟨w.heap.size + 1 + 1, 0, none⟩)] 66)).alloc (.cells (mk1 k (.slice none 0 0)) 93)).alloc (.cells #[I k, .slice (some ⟨w.heap.size + 1, 0, none⟩) k k] 96)).drew := by
  refine ⟨w.heap.size + 1, w.heap.size + 1 + 1, w.heap.size, rfl, by omega, by omega, by omega, by omega, by omega, by omega, ?_, ?_, (((Blk.new w _ 66).alloc _).alloc _).drew, ((((Below.refl _ w).alloc (Nat.le_refl _) _).alloc (by simp) _).alloc (by simp; omega) _).drew⟩
  · have := ((Blk.new (w.alloc (.cells #[.pointer (some ⟨w.heap.size + 1 + 1, 0, none⟩)] 66)) (mk1 k (.slice none 0 0)) 93).alloc (.cells #[I k, .slice (some ⟨w.heap.size + 1, 0, none⟩) k k] 96)).drew
    simpa using this
  · have := (Blk.new ((w.alloc (.cells #[.pointer (some ⟨w.heap.size + 1 + 1, 0, none⟩)] 66)).alloc (.cells (mk1 k (.slice none 0 0)) 93)) #[I k, .slice (some ⟨w.heap.size + 1, 0, none⟩) k k] 96).drew
    simpa using this

end Go.Proofs.Ytaedfidfcoigoaa
