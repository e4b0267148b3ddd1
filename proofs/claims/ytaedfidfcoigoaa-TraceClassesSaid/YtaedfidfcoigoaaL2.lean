/- TraceAppends: the walk. -/
import Derived.Test.YtaedfidfcoigoaaM5
import Derived.Laws.AppendOwnNone
namespace Go.Proofs.Ytaedfidfcoigoaa
open Go.RowKit

theorem run_append_none (w : World) (base : Nat) (t ty e : TypeId) (i : TypeInfo) (size : Nat) (ht : Try.prog.underlying t = some (.slice e)) (hi : Try.prog.info? e = some i)
    (v : Value) (n c : Nat) (xs : List Value) (hown : w.ownsRow base e size v n xs) :
    (Builtin.append_ #[t, t] ty #[v, .slice none 0 c]).run Try.prog w = .ok v w := by
  rcases hown.2 with ⟨rfl, rfl⟩ | ⟨g, cap, cur, rfl, _, _, hnc, _⟩
  · simp [Builtin.append_, run_underlying ht, sizeOf, typeInfo, hi, Builtin.lenOf, Builtin.firstCells]
  · simp [Builtin.append_, run_underlying ht, sizeOf, typeInfo, hi, Builtin.lenOf, Builtin.firstCells, hnc, storeCells]

/-- append(row, more...), the source nil or not. -/
theorem wpList_appN {w : World} {ops : Array Oper} {rest : List Oper} {o : Oper} {a : Act} {Q : Exit → Act → World → Prop} (hgd : o.guard = none) (s x : Operand)
    (ho : o.op = .call { callee := .builtin .append, args := #[s, x], argTypes := #[23, 23] })
    (B : Nat) (v : Value) (n : Nat) (xs : List Value) (hs : a.eval s = v) (hown : w.ownsRow B 55 11 v n xs)
    (y : Value) (hx : a.eval x = y) (m : Nat) (news : List Value) (hfl : Flat w 11 y m news) (h1 : ∀ u ∈ news, u.oneCell' = true)
    (hbd : n + m ≤ 100000000) (hbase : B ≤ w.heap.size)
    (h : ∀ u w', w'.ownsRow B 55 11 u (n + m) (xs ++ news) → Below B w w' → wpList Try.prog ops Q rest (a.put o.dst u) w') : wpList Try.prog ops Q (o :: rest) a w := by
  obtain ⟨ka, ca, rfl, _⟩ := hfl.open
  cases ka with
  | some ad => exact wpList_app0 hgd s x 23 ho 55 _ 11 120 Try.underlying23 info55 rfl (by omega) (by omega) B v n xs hs hown ad m ca news hx hfl h1 hbd hbase fun u w' h2 _ h4 => h u w' h2 h4
  | none =>
    have e := flat_none hfl
    have e0 : m = 0 := by have := hfl.1; rw [e] at this; simp at this; omega
    subst e0 e
    obtain ⟨i0, hi, _⟩ := info_parts info55
    refine wpList_plain hgd fun K hK => ?_
    have hrun := run_append_none w B 23 o.type 55 i0 11 Try.underlying23 hi v n ca xs hown
    unfold Oper.wp
    simp [execOp, ho, resolve, invoke, builtin, hs, hx, hrun, Result.andThen]
    exact hK _ _ (h v w (by simpa using hown) (Below.refl _ _))

theorem RunOk.app {a b : List Stp} (ha : RunOk a) (hb : RunOk b) (h : a.length + b.length ≤ 64) : RunOk (a ++ b) :=
  ⟨by rw [List.length_append]; exact h, fun s hs => (List.mem_append.1 hs).elim (ha.asks s) (hb.asks s), fun s hs => (List.mem_append.1 hs).elim (ha.sent s) (hb.sent s)⟩

theorem app_sl {w : World} {B n : Nat} {u : Value} {a b : List Stp} {xs ys : List Value} (ho : w.ownsRow B 55 11 u n ([] ++ xs ++ ys)) (hn : n = a.length + b.length) (ha : StpCells w a xs) (hb : StpCells w b ys) : StpSl w u (a ++ b) := by
  subst hn
  rw [List.nil_append] at ho
  refine ⟨xs ++ ys, ha.append hb, ?_⟩
  rw [List.length_append]
  exact Flat.of_owns ho

set_option maxHeartbeats 4000000 in
set_option maxRecDepth 100000 in
theorem lawAppends (l sl ll : List Int) (v0 v1 v2 : Value) (w : World) (hl : IntSl w v0 l) (hs : IntSl w v1 sl) (hlast : IntSl w v2 ll) (hr : ∀ x ∈ l, InI64 x) (hr1 : ∀ x ∈ sl, InI64 x) (hr2 : ∀ x ∈ ll, InI64 x) :
    Calls Try.prog 3 #[v0, v1, v2] w fun e w' => e = .returned (.bool true) ∧ Below w.heap.size w w' := by
  have H9 := Lib.hid (refRun l 11 v0 w hl hr (by omega))
  have Hr1 := Lib.hid hr1
  have Hr2 := Lib.hid hr2
  clear hr hl hr1 hr2
  go_enter Try.func3, Try.ntmps3
  go_wp2_with fail
  refine H9.out.mono ?_
  rintro e w1 ⟨u, run, rfl, hrun, hlen, hok, hB1⟩
  have Ho := Lib.hid (run_ok hlen (by omega) hok)
  clear hok H9
  go_wp2_with fail
  refine (refShuffle sl run _ _ _ (hs.kept hB1 (Nat.le_refl _)) Hr1.out hrun (by omega)).mono ?_
  rintro e w2 ⟨u', run', rfl, hrun', hsw, hB2⟩
  have hB2' := hB1.trans (hB2.mono hB1.size)
  have hlen' : run'.length ≤ 11 := by rw [hsw.length]; exact hlen
  have Hsw := Lib.hid hsw
  clear hsw
  go_wp2_with fail
  refine (refRun ll 1 _ _ (hlast.kept hB2' (Nat.le_refl _)) Hr2.out (by omega)).mono ?_
  rintro e w3 ⟨um, more, rfl, hmore, hlenm, hokm, hB3⟩
  have hB3' := hB2'.trans (hB3.mono hB2'.size)
  have Hom := Lib.hid (run_ok hlenm (by omega) hokm)
  clear hokm
  obtain ⟨xs, hcs, hfl⟩ := (hrun.kept hB2 (Nat.le_refl _)).kept hB3 (Nat.le_refl _)
  obtain ⟨ys, hcs', hfl'⟩ := hrun'.kept hB3 (Nat.le_refl _)
  obtain ⟨zs, hcm, hfm⟩ := hmore
  go_upto_region 5 with (at_builtin; first
    | (refine wpList_appN rfl _ _ rfl w3.heap.size _ 0 [] rfl (owns_of_block (n := 0) (cs := #[]) (heap_alloc_new _ _) (Nat.le_refl _) rfl (by omega)) _ rfl run.length xs (Flat.kept hfl ((Below.refl _ _).alloc (Nat.le_refl _) _) (Nat.le_refl _)) (steps_one hcs) (by omega) (by simp) ?_; intro x1 w4 ho4 hB4)
    | (refine wpList_appN rfl _ _ rfl w3.heap.size _ _ _ rfl ho4 _ rfl more.length zs (Flat.kept hfm (((Below.refl _ _).alloc (Nat.le_refl _) _).trans hB4) (Nat.le_refl _)) (steps_one hcm) (by omega) (Nat.le_trans (by simp) hB4.size) ?_; intro x2 w5 ho5 hB5))
  have hB35 : Below w3.heap.size w3 w5 := (((Below.refl _ _).alloc (Nat.le_refl _) _).trans hB4).trans hB5
  have hx2 : StpSl w5 x2 (run ++ more) := app_sl ho5 (by omega) (hcs.kept hB35 (Nat.le_refl _)) (hcm.kept hB35 (Nat.le_refl _))
  have hfl5' := Flat.kept hfl' hB35 (Nat.le_refl _)
  have hfm5 := Flat.kept hfm hB35 (Nat.le_refl _)
  have hcs5' := hcs'.kept hB35 (Nat.le_refl _)
  have hcm5 := hcm.kept hB35 (Nat.le_refl _)
  have hBw5 := hB3'.trans (hB35.mono hB3'.size)
  clear ho4 ho5 hB4 hB5
  go_upto_region 6 with (at_builtin; first
    | (refine wpList_appN rfl _ _ rfl w5.heap.size _ 0 [] rfl (owns_of_block (n := 0) (cs := #[]) (heap_alloc_new _ _) (Nat.le_refl _) rfl (by omega)) _ rfl run'.length ys (Flat.kept hfl5' ((Below.refl _ _).alloc (Nat.le_refl _) _) (Nat.le_refl _)) (steps_one hcs5') (by omega) (by simp) ?_; intro y1 w6 ho6 hB6)
    | (refine wpList_appN rfl _ _ rfl w5.heap.size _ _ _ rfl ho6 _ rfl more.length zs (Flat.kept hfm5 (((Below.refl _ _).alloc (Nat.le_refl _) _).trans hB6) (Nat.le_refl _)) (steps_one hcm5) (by omega) (Nat.le_trans (by simp) hB6.size) ?_; intro y2 w7 ho7 hB7))
  have hB57 : Below w5.heap.size w5 w7 := (((Below.refl _ _).alloc (Nat.le_refl _) _).trans hB6).trans hB7
  have hy2 : StpSl w7 y2 (run' ++ more) := app_sl ho7 (by omega) (hcs5'.kept hB57 (Nat.le_refl _)) (hcm5.kept hB57 (Nat.le_refl _))
  have hx7 := hx2.kept hB57 (Nat.le_refl _)
  have hBw7 := hBw5.trans (hB57.mono hBw5.size)
  have hsw2 := Hsw.out.append more
  have hok1 := Ho.out.app Hom.out (by omega)
  have heq := trEquivalent (run ++ more) (run' ++ more) x2 y2 w7 hx7 hy2 hok1 (hsw2.ok hok1)
  rw [decide_eq_true hsw2.norm.symm] at heq
  have Heq := Lib.hid heq
  have Hn := Lib.hid fun n => (hsw2.node n).symm
  have Hob := Lib.hid hsw2.obs.symm
  have hl1 : (run ++ more).length ≤ 1000000 := by rw [List.length_append]; omega
  have hl2 : (run' ++ more).length ≤ 1000000 := by rw [List.length_append]; omega
  clear ho6 ho7 hB6 hB7 hok1 hsw2 heq
  go_wp2_with fail
  refine Heq.out.mono ?_
  rintro e w8 ⟨rfl, hB8⟩
  have hBw8 := hBw7.trans (hB8.mono hBw7.size)
  go_wp2_with fail
  refine (refProjections _ _ _ _ _ (hx7.kept hB8 (Nat.le_refl _)) (hy2.kept hB8 (Nat.le_refl _)) hl1 hl2 Hn.out Hob.out).mono ?_
  rintro e w9 ⟨rfl, hB9⟩
  have hBw9 := hBw8.trans (hB9.mono hBw8.size)
  go_wp2_with fail
  refine (lives _).mono ?_
  rintro e w10 ⟨rfl, hB10⟩
  have hBw10 := hBw9.trans (hB10.mono hBw9.size)
  go_wp2_with fail
  go_ret
  exact ⟨rfl, hBw10⟩

end Go.Proofs.Ytaedfidfcoigoaa
