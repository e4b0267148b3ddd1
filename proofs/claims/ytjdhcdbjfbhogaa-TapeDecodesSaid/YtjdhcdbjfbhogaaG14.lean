/- tape.Parts; slices.Equal, maps.Equal, tape.Equal. -/
import Derived.Test.YtjdhcdbjfbhogaaG12
import Derived.Test.YtjdhcdbjfbhogaaF4
namespace Go.Proofs.Ytjdhcdbjfbhogaa
open Go.RowKit Go.Maps

theorem normA_nodup (l : List Ans) : ((normA l).map Ans.q).Nodup := by
  rw [List.nodup_iff_pairwise_ne, List.pairwise_map]
  exact (normA_spec l).1.imp fun h => cmp_irrefl h
theorem normA_has (l : List Ans) (q : Qn) : q ∈ (normA l).map Ans.q ↔ 0 < getA l q := by
  rw [List.mem_map]
  constructor
  · rintro ⟨a, ha, rfl⟩
    obtain ⟨h1, h2⟩ := normA_mem ha
    rwa [← h1]
  · intro h
    exact ⟨⟨q, getA l q⟩, ((normA_spec l).2 _).2 ⟨rfl, h⟩, rfl⟩
theorem getA_ok {l : List Ans} (hok : ∀ a ∈ l, a.ok) {q : Qn} (h : 0 < getA l q) : q.ok := by
  obtain ⟨b, hb, e⟩ := getA_mem h
  exact e ▸ (hok b hb).1
theorem mapA_size {D : DataW Unit} {l : List Ans} (h : MapA D (getA l)) (hok : ∀ a ∈ l, a.ok) : Maps.size D = (normA l).length := by
  obtain ⟨ys, h1, h2, h3⟩ := h.sz
  have hp : ys.Perm ((normA l).map Ans.q) := (List.perm_ext_iff_of_nodup h1 (normA_nodup l)).2 fun q => by
    rw [h2 q, normA_has]
    exact ⟨fun x => x.2, fun x => ⟨getA_ok hok x, x⟩⟩
  rw [h3, hp.length_eq, List.length_map]
/-- Two tapes of one normal form. -/
theorem normA_eq_of {l m : List Ans} (hs : (normA l).length = (normA m).length) (h : ∀ q, 0 < getA l q → getA l q = getA m q) : normA l = normA m := by
  refine normA_inj.2 fun q => ?_
  by_cases h0 : 0 < getA l q
  · exact h q h0
  · by_cases h1 : 0 < getA m q
    · -- the questions of l are as many as those of m, and are among them
      have hsub : ∀ p ∈ (normA l).map Ans.q, p ∈ (normA m).map Ans.q := fun p hp => by
        rw [normA_has] at hp ⊢
        rwa [← h p hp]
      have hm : q ∈ (normA m).map Ans.q := (normA_has m q).2 h1
      have hn : q ∉ (normA l).map Ans.q := fun x => h0 ((normA_has l q).1 x)
      have hc : ∀ (xs ys : List Qn), xs.Nodup → (∀ q ∈ xs, q ∈ ys) → xs.length ≤ ys.length := by
        intro xs
        induction xs with
        | nil => intros; simp
        | cons x xs ih =>
          intro ys hn hs
          rw [List.nodup_cons] at hn
          have hx := hs x (by simp)
          have := ih (ys.erase x) hn.2 fun q hq => (List.mem_erase_of_ne (by rintro rfl; exact hn.1 hq)).2 (hs q (List.mem_cons_of_mem _ hq))
          rw [List.length_erase_of_mem hx] at this
          have h0 : 0 < ys.length := List.length_pos_of_mem hx
          simp
          omega
      have := hc (q :: (normA l).map Ans.q) ((normA m).map Ans.q) (List.nodup_cons.2 ⟨hn, normA_nodup l⟩) (fun p hp => by
        rcases List.mem_cons.1 hp with rfl | hp
        · exact hm
        · exact hsub p hp)
      simp at this
      omega
    · have := getA_nonneg l q
      have := getA_nonneg m q
      omega

set_option maxHeartbeats 2000000 in
set_option maxRecDepth 100000 in
theorem partsF (evs : List Ev) (l : List Ans) (ve va : Value) (w : World) (he : EvSl w ve evs) (ha : AnsSl w va l) (hok : ∀ a ∈ l, a.ok) (hle : evs.length ≤ 1000000) (hl : l.length ≤ 1000000) :
    Calls Try.prog 33 #[.agg #[ve, va]] w fun e w' => e = .returned (I ((evs.length + (normA l).length : Nat) : Int)) ∧ Below w.heap.size w w' := by
  obtain ⟨ke, ce, rfl, hme⟩ := he.open
  have hB0 : Below w.heap.size w (w.alloc (.cells #[.slice ke evs.length ce, va] 26)).drew := (by repeat (first | exact Below.refl _ _ | assumption | refine Below.drew ?_ | refine below_drewN ?_ _ | refine Below.alloc ?_ (by simp <;> omega) _ | refine Below.setCell ?_ (by simp <;> omega) _))
  have hb0 : Blk (w.alloc (.cells #[.slice ke evs.length ce, va] 26)).drew w.heap.size #[.slice ke evs.length ce, va] := Blk.new _ _ _
  have Hans := Lib.hid (answersF l (.slice ke evs.length ce) va _ (ha.kept hB0 (Nat.le_refl _)) hok hl)
  have Hok := Lib.hid hok
  have hnl := normA_length l
  clear ha hok he
  go_enter Try.func33, Try.ntmps33
  go_upto_region 1 with fail
  refine wp_region_ordN 7 [(0, true), (1, true), (2, true), (3, true), (4, false), (5, false), (6, true)] (fun w' => ∀ j, w'.cell? ⟨w.heap.size, j, none⟩ = (#[.slice ke evs.length ce, va] : Array Value)[j]?) (by kernel_rfl) rfl rfl (by kernel_rfl) hb0.cell ?_
  iterate 4 (refine wpOrd_take ?_ (by rfl) ?_ ?_; rotate_left; (intro w hSw; (try dsimp only at hSw); go_simp; try with_reducible rfl); (try simp only [Act.put, List.setIfInBounds_toArray, List.set_cons_zero, List.set_cons_succ]))
  refine wpOrd_move (fun K hK => ?_)
  go_simp
  go_at_call 61
  refine Hans.out.mono ?_
  rintro e w1 ⟨b, D, rfl, hb, hmap, hMA, hB1⟩
  have hb1 := hb0.kept hB1 hb0.lt
  have hsz := mapA_size hMA Hok.out
  have hlen : ∀ ty, (Builtin.len_ #[102] ty #[.map (some b)]).run Try.prog w1 = .ok (I ((normA l).length : Nat)) w1 := fun ty => by
    rw [← hsz]
    exact hmap.len Try.underlying102 ty
  have hBw := hB0.trans (hB1.mono (by simp))
  refine hK.out _ _ hb1.cell ?_
  clear hK K hmap hMA hsz
  (try simp only [Act.put, List.setIfInBounds_toArray, List.set_cons_zero, List.set_cons_succ])
  refine wpOrd_move (fun K hK => ?_)
  go_simp
  refine hK.out _ _ hb1.cell ?_
  clear hK K
  (try simp only [Act.put, List.setIfInBounds_toArray, List.set_cons_zero, List.set_cons_succ])
  (refine wpOrd_take ?_ (by rfl) ?_ ?_; rotate_left; (intro w hSw; (try dsimp only at hSw); go_simp; try with_reducible rfl); (try simp only [Act.put, List.setIfInBounds_toArray, List.set_cons_zero, List.set_cons_succ]))
  refine wpOrd_nil ?_
  go_wp2_with fail
  refine NoPanic.normal ?_
  go_wp2_with fail
  go_ret
  exact ⟨ret_int (by omega), hBw⟩

set_option maxHeartbeats 4000000 in
set_option maxRecDepth 100000 in
theorem eqEvs (e1 e2 : List Ev) (ve1 ve2 : Value) (w : World) (he1 : EvSl w ve1 e1) (he2 : EvSl w ve2 e2) :
    Calls Try.prog 67 #[ve1, ve2] w fun e w' => e = .returned (.bool (decide (e1 = e2))) ∧ Below w.heap.size w w' := by
  obtain ⟨k1, c1, rfl, hm1⟩ := he1.open
  obtain ⟨k2, c2, rfl, hm2⟩ := he2.open
  by_cases hle : e1.length = e2.length
  · obtain ⟨n1, hn1⟩ : ∃ n, n = e1.length := ⟨_, rfl⟩
    have hn3 : e2.length = n1 := by omega
    rw [← hn1] at he1 hm1
    rw [hn3] at he2 hm2
    rw [← hn1, hn3]
    have HE1 := Lib.hid he1
    have HE2 := Lib.hid he2
    have Hn1 := Lib.hid hn1
    have Hn3 := Lib.hid hn3
    clear he1 he2 hle hn1 hn3
    go_enter Try.func67, Try.ntmps67
    go_wp2_with fail
    go_loopw [13] (fun i wr => ∃ k : Nat, k ≤ n1 ∧ i = .int .i64 k ∧ Hid (e1.take k = e2.take k) ∧ Below w.heap.size w wr) (fun i _ => n1 - (intOf i).toNat)
    case atStart => exact ⟨0, by omega, rfl, Lib.hid (by simp), Below.refl _ _⟩
    case round =>
      obtain ⟨k, hk, rfl, HT, hB⟩ := hrel
      by_cases hlt : k < n1
      · have h1 : k < e1.length := by rw [← Hn1.out]; exact hlt
        have h2 : k < e2.length := by rw [Hn3.out]; exact hlt
        obtain ⟨p, hp⟩ : ∃ p, e1[k]? = some p := ⟨_, List.getElem?_eq_getElem h1⟩
        obtain ⟨q, hq⟩ : ∃ q, e2[k]? = some q := ⟨_, List.getElem?_eq_getElem h2⟩
        obtain ⟨b, o, rfl, hr⟩ := EvSl.at (HE1.out.kept hB (Nat.le_refl _)) (i := k) (x := p) hp
        obtain ⟨b2, o2, rfl, hr2⟩ := EvSl.at (HE2.out.kept hB (Nat.le_refl _)) (i := k) (x := q) hq
        have x0 : wr.cell? ⟨b, o + k * 8, none⟩ = _ := hr 0 _ rfl
        have x1 := hr 1 _ rfl
        have x2 := hr 2 _ rfl
        have x3 := hr 3 _ rfl
        have x4 := hr 4 _ rfl
        have x5 := hr 5 _ rfl
        have x6 := hr 6 _ rfl
        have x7 := hr 7 _ rfl
        have y0 : wr.cell? ⟨b2, o2 + k * 8, none⟩ = _ := hr2 0 _ rfl
        have y1 := hr2 1 _ rfl
        have y2 := hr2 2 _ rfl
        have y3 := hr2 3 _ rfl
        have y4 := hr2 4 _ rfl
        have y5 := hr2 5 _ rfl
        have y6 := hr2 6 _ rfl
        have y7 := hr2 7 _ rfl
        have Hp := Lib.hid hp
        have Hq := Lib.hid hq
        clear hr hr2 h1 h2 hp hq
        by_cases he : p = q
        · have heq : eqL [p.kind, p.node, p.arg, p.msg.node, p.msg.handler, p.msg.count, p.msg.index, p.msg.copy] [q.kind, q.node, q.arg, q.msg.node, q.msg.handler, q.msg.count, q.msg.index, q.msg.copy] = true := eqL_true (Ev.ints_inj.2 he)
          have He := Lib.hid he
          clear he
          go_wp2_with fail
          refine wp_region_ordN 9 [(0, true), (1, true), (2, true), (3, true), (4, true), (5, true), (6, true), (7, true), (8, true)] (fun w' => ∀ a, w'.cell? a = wr.cell? a) (by kernel_rfl) rfl rfl (by kernel_rfl) (fun _ => rfl) ?_
          iterate 9 (refine wpOrd_take ?_ (by rfl) ?_ ?_; rotate_left; (intro w hSw; (try dsimp only at hSw); go_simp; try with_reducible rfl); (try simp only [Act.put, List.setIfInBounds_toArray, List.set_cons_zero, List.set_cons_succ]))
          refine wpOrd_nil ?_
          (try simp only [heq])
          go_wp2_with fail
          refine NoPanic.normal ?_
          go_wp2_with fail
          go_roundw
          case rel => exact ⟨k + 1, by omega, by go_num, Lib.hid (by rw [take_snoc Hp.out, take_snoc Hq.out, HT.out, He.out]), hB.drew⟩
          case measure => simp [intOf]; omega
        · have heq : eqL [p.kind, p.node, p.arg, p.msg.node, p.msg.handler, p.msg.count, p.msg.index, p.msg.copy] [q.kind, q.node, q.arg, q.msg.node, q.msg.handler, q.msg.count, q.msg.index, q.msg.copy] = false := eqL_false (fun h => he (Ev.ints_inj.1 h))
          have He := Lib.hid he
          clear he
          go_wp2_with fail
          refine wp_region_ordN 9 [(0, true), (1, true), (2, true), (3, true), (4, true), (5, true), (6, true), (7, true), (8, true)] (fun w' => ∀ a, w'.cell? a = wr.cell? a) (by kernel_rfl) rfl rfl (by kernel_rfl) (fun _ => rfl) ?_
          iterate 9 (refine wpOrd_take ?_ (by rfl) ?_ ?_; rotate_left; (intro w hSw; (try dsimp only at hSw); go_simp; try with_reducible rfl); (try simp only [Act.put, List.setIfInBounds_toArray, List.set_cons_zero, List.set_cons_succ]))
          refine wpOrd_nil ?_
          (try simp only [heq])
          go_wp2_with fail
          refine NoPanic.normal ?_
          go_wp2_with fail
          go_ret
          refine ⟨ret_bool ?_, hB.drew⟩
          rw [decide_eq_false (ne_at Hp.out Hq.out He.out)]
      · obtain rfl : k = n1 := by omega
        go_wp2_with fail
        go_ret
        refine ⟨ret_bool ?_, hB⟩
        rw [decide_eq_true (take_ext (by rw [← Hn1.out, Hn3.out]) (by rw [← Hn1.out]; exact HT.out))]
  · have q1 : ¬ ((e1.length : Int) = e2.length) := by omega
    go_enter Try.func67, Try.ntmps67
    go_wp2_with fail
    go_ret
    refine ⟨ret_bool ?_, Below.refl _ _⟩
    rw [decide_eq_false (show ¬ e1 = e2 from fun e => hle (by rw [e]))]

set_option maxHeartbeats 4000000 in
set_option maxRecDepth 100000 in
theorem eqMaps (l1 l2 : List Ans) (b1 b2 n1 n2 : Nat) (D1 D2 : DataW Unit) (w : World) (h1 : w.ownsMap (H := Unit) Try.prog 66 (plainElem Try.prog 3) b1 n1 D1) (h2 : w.ownsMap (H := Unit) Try.prog 66 (plainElem Try.prog 3) b2 n2 D2)
    (M1 : MapA D1 (getA l1)) (M2 : MapA D2 (getA l2)) (ok1 : ∀ a ∈ l1, a.ok) (ok2 : ∀ a ∈ l2, a.ok) :
    Calls Try.prog 68 #[.map (some b1), .map (some b2)] w fun e w' => e = .returned (.bool (decide (normA l1 = normA l2))) ∧ Below w.heap.size w w' := by
  have hlen1 : ∀ ty, (Builtin.len_ #[102] ty #[.map (some b1)]).run Try.prog w = .ok (I ((normA l1).length : Nat)) w := fun ty => by
    rw [← mapA_size M1 ok1]
    exact h1.len Try.underlying102 ty
  have hlen2 : ∀ ty, (Builtin.len_ #[102] ty #[.map (some b2)]).run Try.prog w = .ok (I ((normA l2).length : Nat)) w := fun ty => by
    rw [← mapA_size M2 ok2]
    exact h2.len Try.underlying102 ty
  have HM1 := Lib.hid M1
  have HM2 := Lib.hid M2
  have Ho1 := Lib.hid h1
  have Ho2 := Lib.hid h2
  have Hok1 := Lib.hid ok1
  clear M1 M2 h1 h2 ok1 ok2
  by_cases hs : (normA l1).length = (normA l2).length
  · have Hs := Lib.hid hs
    rw [← hs] at hlen2
    clear hs
    go_enter Try.func68, Try.ntmps68
    go_wp2_with (at_range; refine wpList_range_own (H := Unit) _ rfl _ 102 rfl 66 3 law66 Try.underlying102 (plainElem Try.prog 3) b1 n1 D1 rfl Ho1.out ?_; intro w1 hrg0 hg0 hs0)
    have hb1l := Ho1.out.lt
    have hb2l := Ho2.out.lt
    have hB1 : Below w.heap.size w w1 := (Below.refl _ _).grown hg0 (Nat.le_refl _) (fun g hg => by cases hg)
    clear hlen1 hlen2 hg0
    go_frame
    go_loopw [6] (fun _ wr => ∃ (left : Lit → Bool) (cnt : Nat) (ss : List Qn), wr.ranges Try.prog 66 (plainElem (H := Unit) Try.prog 3) b1 w.heap.size n1 D1 left cnt ∧ Coll D1 left ss ∧ Hid (∀ q ∈ ss, getA l1 q = getA l2 q) ∧ Below w.heap.size w wr) (fun _ wr => wr.rangeLeft b1 w.heap.size)
    case atStart => exact ⟨_, _, [], hrg0, Coll.start D1, Lib.hid (fun q hq => by cases hq), hB1⟩
    case round =>
      clear hrg0 hB1
      obtain ⟨left, cnt, ss, hrg, hC, Hss, hB⟩ := hrel
      go_wp2_with (first | (at_next; refine wpList_next_ranges (H := Unit) _ rfl _ rfl 66 law66 (plainElem Try.prog 3) Qn.val id (fun key kl hk => by obtain ⟨q, _, hq, _⟩ := keyQ_inv hk; exact ⟨q, hq⟩) (fun v _ _ => ⟨v, rfl⟩) b1 w.heap.size n1 _ _ _ rfl hrg ?_ ?_) | go_in)
      · intro hc0 hl0
        go_wp2
        go_ret
        refine ⟨ret_bool ?_, hB⟩
        have hk := hC.end_ hl0
        refine (decide_eq_true (normA_eq_of Hs.out fun q hq => Hss.out q ((hk.2 q).2 ?_))).symm
        have hqo := getA_ok Hok1.out hq
        exact ⟨hqo, by rw [HM1.out.has_ q hqo]; exact decide_eq_true hq⟩
      · intro x c kl yd yp w2 cnt2 hkey hlk hv hat hrg2 hlt hg2 hs2 hen
        obtain ⟨x', hxo, ex, rfl⟩ := keyQ_inv hkey
        obtain rfl : x = x' := by
          cases x; cases x'
          simp [Qn.val] at ex
          simp [ex]
        obtain ⟨a, rfl, hya, _⟩ := plainElem_int_inv Try.underlying3 hv
        have hha := has_true_of_atKey hat
        have ha : a = getA l1 x := by
          have h1 := HM1.out.at_ x hxo
          rw [hat] at h1
          have h2 : yd = .lit (.int .i64 a) := congrArg Prod.fst hya
          rw [h2] at h1
          simpa using h1
        have hpos : 0 < getA l1 x := by
          rw [HM1.out.has_ x hxo] at hha
          exact of_decide_eq_true hha
        have hB2 : Below w.heap.size w w2 := hB.grown hg2 (by have := hB.size; omega) (fun g hg => by cases hg; omega)
        have hown2 : (w2.alloc (.cells #[I x.node, I x.handler, I x.count, I x.kind, I x.index] 66)).ownsMap (H := Unit) Try.prog 66 (plainElem Try.prog 3) b2 n2 D2 :=
          ((Ho2.out.kept (grown_below hB none) (by simp)).kept hg2 (by simp; omega)).alloc _
        obtain ⟨v2, ps2, hrun, hv2⟩ := hown2.look_ok law66 Try.underlying102 (zero3 _) (plainElem_int Try.underlying3 (by decide)) (keyQ x hxo)
        obtain ⟨a2, rfl, hya2, _⟩ := plainElem_int_inv Try.underlying3 hv2
        have ha2 : a2 = getA l2 x := by
          have h1 := HM2.out.at_ x hxo
          have h2 : D2.atKey (qLit x) (.lit (.int .i64 0)) = .lit (.int .i64 a2) := congrArg Prod.fst hya2
          rw [h2] at h1
          simpa using h1
        rw [HM2.out.has_ x hxo, ← ha2] at hrun
        simp only [Qn.val] at hrun hen
        have hC2 := hC.step hxo hlk hha
        have hK3 : KeepsWalks w2 (w2.alloc (.cells #[I x.node, I x.handler, I x.count, I x.kind, I x.index] 66)) := KeepsWalks.alloc _ _
        have hrg3 := hrg2.of_walks hK3
        have hB3 : Below w.heap.size w (w2.alloc (.cells #[I x.node, I x.handler, I x.count, I x.kind, I x.index] 66)) := hB2.alloc (by have := hB2.size; omega) _
        have Hrg3 := Lib.hid hrg3
        have HC2 := Lib.hid hC2
        have Ha := Lib.hid ha
        have Ha2 := Lib.hid ha2
        have Hpos := Lib.hid hpos
        have Hleft := Lib.hid hrg.left_eq
        have Hlt := Lib.hid hlt
        clear hrg3 hC2 ha ha2 hpos hha hs2 hC hrg hrg2 hown2 hv hv2 hya hya2 hkey hat ex hlt hK3
        by_cases he : a = a2
        · have h20 : 0 < a2 := by rw [← he, Ha.out]; exact Hpos.out
          go_wp2
          go_roundw
          case rel =>
            refine ⟨_, cnt2, ss ++ [x], Hrg3.out, HC2.out, Lib.hid (fun q hq => ?_), hB3⟩
            rcases List.mem_append.1 hq with hq | hq
            · exact Hss.out q hq
            · simp at hq
              subst hq
              rw [← Ha.out, he, Ha2.out]
          case measure => rw [Hrg3.out.left_eq, Hleft.out]; exact Hlt.out
        · by_cases h20 : 0 < a2
          · go_wp2
            go_ret
            refine ⟨ret_bool ?_, hB3⟩
            rw [decide_eq_false (fun e => he (by rw [Ha.out, Ha2.out]; exact normA_inj.1 e x))]
          · go_wp2
            go_ret
            refine ⟨ret_bool ?_, hB3⟩
            rw [decide_eq_false (fun e => he (by rw [Ha.out, Ha2.out]; exact normA_inj.1 e x))]
  · have q1 : ¬ (((normA l1).length : Int) = (normA l2).length) := by omega
    go_enter Try.func68, Try.ntmps68
    go_wp2_with fail
    go_ret
    refine ⟨ret_bool ?_, Below.refl _ _⟩
    rw [decide_eq_false (fun e => hs (by rw [e]))]

set_option maxHeartbeats 4000000 in
set_option maxRecDepth 100000 in
theorem equalF (e1 e2 : List Ev) (l1 l2 : List Ans) (ve1 va1 ve2 va2 : Value) (w : World) (he1 : EvSl w ve1 e1) (ha1 : AnsSl w va1 l1) (he2 : EvSl w ve2 e2) (ha2 : AnsSl w va2 l2)
    (ok1 : ∀ a ∈ l1, a.ok) (ok2 : ∀ a ∈ l2, a.ok) (n1 : l1.length ≤ 1000000) (n2 : l2.length ≤ 1000000) :
    Calls Try.prog 34 #[.agg #[ve1, va1], .agg #[ve2, va2]] w fun e w' => e = .returned (.bool (decide (e1 = e2) && decide (normA l1 = normA l2))) ∧ Below w.heap.size w w' := by
  have hk0 : Kp2 w #[ve1, va1] #[ve2, va2] ((w.alloc (.cells #[ve1, va1] 26)).alloc (.cells #[ve2, va2] 26)).drew := (Kp2.start w #[ve1, va1] #[ve2, va2] 26).drew
  have HE := Lib.hid (fun W (hB : Below w.heap.size w W) => eqEvs e1 e2 ve1 ve2 W (he1.kept hB (Nat.le_refl _)) (he2.kept hB (Nat.le_refl _)))
  have HA1 := Lib.hid (fun W (hB : Below w.heap.size w W) => answersF l1 ve1 va1 W (ha1.kept hB (Nat.le_refl _)) ok1 n1)
  have HA2 := Lib.hid (fun W (hB : Below w.heap.size w W) => answersF l2 ve2 va2 W (ha2.kept hB (Nat.le_refl _)) ok2 n2)
  have Hok1 := Lib.hid ok1
  have Hok2 := Lib.hid ok2
  clear he1 ha1 he2 ha2 ok1 ok2
  by_cases he : e1 = e2
  · have hd : decide (e1 = e2) = true := decide_eq_true he
    rw [hd] at HE
    rw [hd]
    clear hd he
    go_enter Try.func34, Try.ntmps34
    go_upto_region 1 with fail
    refine wp_region_ordN 12 [(0, true), (1, true), (2, true), (3, true), (4, false), (5, true), (6, true), (8, true), (7, false), (9, false), (10, false), (11, true)] (fun w' => (∀ j, w'.cell? ⟨w.heap.size, j, none⟩ = (#[ve1, va1] : Array Value)[j]?) ∧ (∀ j, w'.cell? ⟨w.heap.size + 1, j, none⟩ = (#[ve2, va2] : Array Value)[j]?)) (by kernel_rfl) rfl rfl (by kernel_rfl) (Kp2.S hk0) ?_
    iterate 4 (refine wpOrd_take ?_ (by rfl) ?_ ?_; rotate_left; (intro w hSw; (try dsimp only at hSw); go_simp; try with_reducible rfl); (try simp only [Act.put, List.setIfInBounds_toArray, List.set_cons_zero, List.set_cons_succ]))
    refine wpOrd_move (fun K hK => ?_)
    go_simp
    go_at_call 67
    refine (HE.out _ hk0.2.2.1).mono ?_
    rintro e w1 ⟨rfl, hB1⟩
    have kp1 := Kp2.call hk0 hB1
    refine hK.out _ _ (Kp2.S kp1) ?_
    clear hK K
    (try simp only [Act.put, List.setIfInBounds_toArray, List.set_cons_zero, List.set_cons_succ])
    iterate 3 (refine wpOrd_take ?_ (by rfl) ?_ ?_; rotate_left; (intro w hSw; (try dsimp only at hSw); go_simp; try with_reducible rfl); (try simp only [Act.put, List.setIfInBounds_toArray, List.set_cons_zero, List.set_cons_succ]))
    refine wpOrd_move (fun K hK => ?_)
    go_simp
    go_at_call 61
    refine (HA1.out _ kp1.2.2.1).mono ?_
    rintro e w2 ⟨b1, D1, rfl, hb1, hm1, M1, hB2⟩
    have kp2 := Kp2.call kp1 hB2
    refine hK.out _ _ (Kp2.S kp2) ?_
    clear hK K
    (try simp only [Act.put, List.setIfInBounds_toArray, List.set_cons_zero, List.set_cons_succ])
    refine wpOrd_move (fun K hK => ?_)
    go_simp
    go_at_call 61
    refine (HA2.out _ kp2.2.2.1).mono ?_
    rintro e w3 ⟨b2, D2, rfl, hb2, hm2, M2, hB3⟩
    have kp3 := Kp2.call kp2 hB3
    have hm1' := hm1.kept (grown_below hB3 none) (by simp)
    refine hK.out _ _ (Kp2.S kp3) ?_
    clear hK K
    (try simp only [Act.put, List.setIfInBounds_toArray, List.set_cons_zero, List.set_cons_succ])
    refine wpOrd_move (fun K hK => ?_)
    go_simp
    go_at_call 68
    refine (eqMaps l1 l2 b1 b2 _ _ D1 D2 w3 hm1' hm2 M1 M2 Hok1.out Hok2.out).mono ?_
    rintro e w4 ⟨rfl, hB4⟩
    have kp4 := Kp2.call kp3 hB4
    refine hK.out _ _ (Kp2.S kp4) ?_
    clear hK K
    (try simp only [Act.put, List.setIfInBounds_toArray, List.set_cons_zero, List.set_cons_succ])
    (refine wpOrd_take ?_ (by rfl) ?_ ?_; rotate_left; (intro w hSw; (try dsimp only at hSw); go_simp; try with_reducible rfl); (try simp only [Act.put, List.setIfInBounds_toArray, List.set_cons_zero, List.set_cons_succ]))
    refine wpOrd_nil ?_
    go_wp2_with fail
    refine NoPanic.normal ?_
    go_wp2_with fail
    go_ret
    exact ⟨ret_bool (by simp), kp4.2.2.1⟩
  · have hd : decide (e1 = e2) = false := decide_eq_false he
    rw [hd] at HE
    rw [hd]
    clear hd he
    go_enter Try.func34, Try.ntmps34
    go_upto_region 1 with fail
    refine wp_region_ordN 12 [(0, true), (1, true), (2, true), (3, true), (4, false), (5, true), (6, true), (7, true), (8, true), (9, true), (10, true), (11, true)] (fun w' => (∀ j, w'.cell? ⟨w.heap.size, j, none⟩ = (#[ve1, va1] : Array Value)[j]?) ∧ (∀ j, w'.cell? ⟨w.heap.size + 1, j, none⟩ = (#[ve2, va2] : Array Value)[j]?)) (by kernel_rfl) rfl rfl (by kernel_rfl) (Kp2.S hk0) ?_
    iterate 4 (refine wpOrd_take ?_ (by rfl) ?_ ?_; rotate_left; (intro w hSw; (try dsimp only at hSw); go_simp; try with_reducible rfl); (try simp only [Act.put, List.setIfInBounds_toArray, List.set_cons_zero, List.set_cons_succ]))
    refine wpOrd_move (fun K hK => ?_)
    go_simp
    go_at_call 67
    refine (HE.out _ hk0.2.2.1).mono ?_
    rintro e w1 ⟨rfl, hB1⟩
    have kp1 := Kp2.call hk0 hB1
    refine hK.out _ _ (Kp2.S kp1) ?_
    clear hK K
    (try simp only [Act.put, List.setIfInBounds_toArray, List.set_cons_zero, List.set_cons_succ])
    iterate 7 (first | (refine wpOrd_take ?_ (by rfl) ?_ ?_; rotate_left; (intro w hSw; (try dsimp only at hSw); go_simp; try with_reducible rfl); (try simp only [Act.put, List.setIfInBounds_toArray, List.set_cons_zero, List.set_cons_succ])) | (refine wpOrd_leave (by rfl) ?_; (try simp only [Act.put, List.setIfInBounds_toArray, List.set_cons_zero, List.set_cons_succ])))
    refine wpOrd_nil ?_
    go_wp2_with fail
    refine NoPanic.normal ?_
    go_wp2_with fail
    go_ret
    exact ⟨ret_bool (by simp), kp1.2.2.1⟩

end Go.Proofs.Ytjdhcdbjfbhogaa
