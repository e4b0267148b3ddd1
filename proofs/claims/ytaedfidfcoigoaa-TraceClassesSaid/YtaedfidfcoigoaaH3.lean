/- The library's hash of the word trace and a row of integers. -/
import Derived.Test.YtaedfidfcoigoaaH2
import Derived.Test.YtaedfidfcoigoaaN4
namespace Go.Proofs.Ytaedfidfcoigoaa
open Go.RowKit Go.Shelf
attribute [local go_sem] Oper.semAt_some

def encU (x : Int) : Array Value := #[.int .u64 x]
def traceS : ByteArray := { data := #[116, 114, 97, 99, 101] }

set_option maxHeartbeats 4000000 in
set_option maxRecDepth 100000 in
theorem wordIter (n : Nat) (hn : 1 ≤ n) (tb : Nat) (w0 : World) (hbox : w0.cell? ⟨tb, 0, none⟩ = some (.string { data := #[116, 114, 97, 99, 101] })) :
    SeqStopsK Fence.wide n Try.prog 93 #[.pointer (some ⟨tb, 0, none⟩)] encU (KpP fun b => b = tb) (fun xs => xs = [435459027572]) (fun _ => True) 1 w0 := by
  intro l J Jx W hW hJ hJx hY h0
  have hbl : tb < w0.heap.size := by simpa using World.block_lt_of_cell? _ _ hbox
  have hb0 : W.cell? ⟨tb, 0, none⟩ = some (.string { data := #[116, 114, 97, 99, 101] }) := (hW.cell (p := ⟨tb, 0, none⟩) hbl).trans hbox
  have HY := Lib.hid hY
  have H0 := Lib.hid h0
  clear hY h0
  refine callsIn_of_wp Try.func93 rfl trivial ?_ rfl
  simp only [Try.ntmps93, List.size_toArray, List.length_cons, List.length_nil, Nat.reduceAdd, Nat.reduceSub, Array.replicate_succ, Array.replicate_zero, List.push_toArray, List.append_toArray, List.nil_append, List.cons_append]
  obtain ⟨fn, tmps, assign, body, hy, hR⟩ := HY.out [] 435459027572 W H0.out (by decide)
  dsimp only [encU] at hy
  have hval : (bits BinOp.or IntKind.u64 (bits BinOp.or IntKind.u64 (bits BinOp.or IntKind.u64 (bits BinOp.or IntKind.u64 (bits BinOp.or IntKind.u64 0 (IntKind.u64.wrap (IntKind.u64.wrap ((({ data := #[116, 114, 97, 99, 101] } : ByteArray)[0]'(by decide)).toNat : Int)))) (IntKind.u64.wrap (IntKind.u64.wrap ((({ data := #[116, 114, 97, 99, 101] } : ByteArray)[1]'(by decide)).toNat : Int) * 256))) (IntKind.u64.wrap (IntKind.u64.wrap ((({ data := #[116, 114, 97, 99, 101] } : ByteArray)[2]'(by decide)).toNat : Int) * 65536))) (IntKind.u64.wrap (IntKind.u64.wrap ((({ data := #[116, 114, 97, 99, 101] } : ByteArray)[3]'(by decide)).toNat : Int) * 16777216))) (IntKind.u64.wrap (IntKind.u64.wrap ((({ data := #[116, 114, 97, 99, 101] } : ByteArray)[4]'(by decide)).toNat : Int) * 4294967296))) = 435459027572 := by kernel_rfl
  clear hbox
  gi_wp2
  refine wpIn_loop_rounds 2 ?_
  rw [roundsIn_succ]
  gi_wp2
  refine wpIn_loop_rounds 6 ?_
  rw [roundsIn_succ]
  gi_wp2
  rw [roundsIn_succ]
  gi_wp2
  rw [roundsIn_succ]
  gi_wp2
  rw [roundsIn_succ]
  gi_wp2
  rw [roundsIn_succ]
  gi_wp2
  rw [roundsIn_succ]
  gi_wp2
  refine hR.mono ?_
  rintro e w2 (⟨rfl, hJ2, hk2⟩ | ⟨rfl, hJx2⟩)
  · have hb2 := (hk2 tb 0 rfl).trans hb0
    clear hval
    gi_wp2
    rw [roundsIn_succ]
    gi_wp2
    go_end0
    exact ⟨⟨_, rfl⟩, .inl ⟨_, rfl, hJ2⟩⟩
  · clear hval
    gi_wp2
    refine bodyPost_ret (results_none rfl _ _ _) rfl ?_
    exact ⟨⟨_, rfl⟩, .inr ⟨_, trivial, hJx2⟩⟩

theorem words76 (s : ByteArray) (w : World) : Calls Try.prog 76 #[.string s] w fun e w' => e = .returned (.func (.func 93) #[] #[.pointer (some ⟨w.heap.size, 0, none⟩)]) ∧ w' = w.alloc (.cells #[.string s] 9) := by
  go_enter Try.func76, Try.ntmps76
  go_wp2_with fail
  go_ret
  exact ⟨rfl, rfl⟩

set_option maxHeartbeats 4000000 in
set_option maxRecDepth 100000 in
theorem hashSum (l : List Int) (v : Value) (w : World) (hl : IntSl w v l) (hn : l.length ≤ 100000000) : Calls Try.prog 51 #[.string { data := #[116, 114, 97, 99, 101] }, v] w fun e w' => e = .returned (.int .u64 (sumI l)) ∧ Below w.heap.size w w' := by
  obtain ⟨ka, ca, rfl, hml⟩ := hl.open
  have hw0 : IntKind.u64.wrap (l.length : Int) = (l.length : Int) := u64_in _ ⟨by omega, by omega⟩
  refine (callsIn_wide (n := 5)).1 ?_
  refine callsIn_of_wp_marks Try.func51 rfl trivial ?_ rfl
  simp only [Try.ntmps51, List.size_toArray, List.length_cons, List.length_nil, Nat.reduceAdd, Nat.reduceSub, Array.replicate_succ, Array.replicate_zero, List.push_toArray, List.append_toArray, List.nil_append, List.cons_append]
  refine wpIn_wide.2 ?_
  go_wp2_with fail
  refine (words76 _ _).mono ?_
  rintro e w2 ⟨rfl, hw2⟩
  have hbH : Blk w2 w.heap.size #[.int .u64 0] := by
    rw [hw2]
    first
      | exact (Blk.new w #[.int .u64 0] 42).alloc _
      | exact ((Blk.new w #[.int .u64 0] 42).setCell _ _).alloc _
  have hz2 : w2.heap.size = w.heap.size + 1 + 1 := by rw [hw2]; simp
  have hbS : w2.cell? ⟨w.heap.size + 1, 0, none⟩ = some (.string { data := #[116, 114, 97, 99, 101] }) := by
    rw [hw2]
    simp
  have hBw2 : Below w.heap.size w w2 := by rw [hw2]; exact ((Below.refl _ _).alloc (Nat.le_refl _) _).alloc (by simp) _
  have Hiter := Lib.hid (wordIter (5 - 1) (by omega) (w.heap.size + 1) w2 hbS)
  clear hw2 hbS
  simp only [World.size_alloc]
  go_wp2_with fail
  refine (wpIn_wide (n := 5)).1 ?_
  refine wpIn_rangeFunc_ownF rfl (by omega) (gf := 93) (lb := #[.pointer (some ⟨w.heap.size + 1, 0, none⟩)]) rfl trivial (enters_of Try.func93 (by kernel_rfl) rfl)
    Hiter.out (fun h k => KpP.trans h k) (fun W l o o' hl _ _ _ => KpP.putObj W l o' (fun h => by omega)) (Below.refl _ _) (fun _ => rfl)
    (fun (pre : List Int) W => Blk W w.heap.size #[.int .u64 (pre.foldl mixI 0)] ∧ Below w.heap.size w W)
    (fun _ _ _ => False) (fun pre A B row hs hg hr => ⟨hs.1.ownFrom hg (fun r e => (hr r e).2), hs.2.grown hg hs.2.size (fun k e => by have := (hr k e).1; omega)⟩) (fun _ _ _ _ _ hs _ _ => hs)
    ⟨hbH, hBw2⟩ ?a1 ?assign ?body ?done ?stop
  case assign =>
    intro l x W K hK
    dsimp only [encU]
    gi_wp2
    exact hK
  case body =>
    rintro lk pre x W ⟨hb, hB⟩ _
    obtain ⟨z, hz⟩ : ∃ z, z = pre.foldl mixI 0 := ⟨_, rfl⟩
    rw [← hz] at hb
    have Hz := Lib.hid hz
    have cH : W.cell? ⟨w.heap.size, 0, none⟩ = some (.int .u64 z) := hb.cell 0
    have fH := hb.frozen 0
    clear hz
    gi_wp2
    refine ⟨trivial, ?_⟩
    refine (CallsIn.inRound lk (callsIn_wide.2 (mix77 _ _ _))).mono ?_
    rintro e w3 ⟨rfl, rfl⟩
    gi_wp2
    exact ⟨KeepsOthers.setCell _ _ _, (KpP.refl _ W).set _ _ (fun h => by simp at h), ⟨by rw [List.foldl_append, ← Hz.out]; exact hb.set 0 _, hB.setCell (Nat.le_refl _) _⟩⟩
  case done =>
    rintro D ys W hD rfl ⟨hb, hB⟩ hK
    have hb' : Blk W w.heap.size #[.int .u64 (mixI 0 435459027572)] := hb
    have cH : W.cell? ⟨w.heap.size, 0, none⟩ = some (.int .u64 (mixI 0 435459027572)) := hb'.cell 0
    have fH := hb'.frozen 0
    have HK := Lib.hid hK
    clear hb hK Hiter hbH
    go_wp2_with (go_at_call 77; refine (mix77 _ _ _).mono ?_; rintro e w' ⟨rfl, rfl⟩)
    obtain ⟨h0, hh0⟩ : ∃ h0, h0 = mixI (mixI (mixI 0 435459027572) 5) l.length := ⟨_, rfl⟩
    have hb1 : Blk (W.setCell ⟨w.heap.size, 0, none⟩ (.int .u64 (mixI (mixI (mixI 0 435459027572) 5) l.length))) w.heap.size #[.int .u64 h0] := by
      rw [hh0]
      exact hb'.set 0 _
    have hK1 : (W.setCell ⟨w.heap.size, 0, none⟩ (.int .u64 (mixI (mixI (mixI 0 435459027572) 5) l.length))).heap[D]? = some (.deferred (some [])) := (Below.heap_setCell _ _ _ _ (by simp; omega)).trans HK.out
    have hB1 : Below w.heap.size w (W.setCell ⟨w.heap.size, 0, none⟩ (.int .u64 (mixI (mixI (mixI 0 435459027572) 5) l.length))) := hB.setCell (Nat.le_refl _) _
    have Hh0 := Lib.hid hh0
    obtain ⟨f, hf⟩ : ∃ f : Int → Int → Int, f = fun h x => mixI h (IntKind.u64.wrap x) := ⟨_, rfl⟩
    have Hf := Lib.hid hf
    clear hh0 hf cH fH hb' HK
    go_loopw [26] (fun i wr => ∃ k : Nat, k ≤ l.length ∧ i = .int .i64 k ∧ Blk wr w.heap.size #[.int .u64 ((l.take k).foldl f h0)] ∧ Below w.heap.size w wr ∧ wr.heap[D]? = some (.deferred (some []))) (fun i _ => l.length - (intOf i).toNat)
    case atStart => exact ⟨0, by omega, rfl, hb1, hB1, hK1⟩
    case round =>
      clear hb1 hB1 hK1
      obtain ⟨k, hk, rfl, hb, hB', hK⟩ := hrel
      have HK := Lib.hid hK
      by_cases hlt : k < l.length
      · obtain ⟨x, hx⟩ : ∃ x, l[k]? = some x := ⟨l[k], by simp [hlt]⟩
        obtain ⟨b2, o2, rfl, hcx⟩ := (hl.kept hB' (Nat.le_refl _)).at hx
        have hst : (l.take (k + 1)).foldl f h0 = mixI ((l.take k).foldl f h0) (IntKind.u64.wrap x) := by
          have h1 := List.getElem?_eq_some_iff.1 hx
          rw [List.take_succ_eq_append_getElem hlt, List.foldl_append, h1.2]
          show f _ x = _
          rw [Hf.out]
        obtain ⟨z, hz⟩ : ∃ z, z = (l.take k).foldl f h0 := ⟨_, rfl⟩
        rw [← hz] at hb hst
        have Hst := Lib.hid hst
        have cH : wr.cell? ⟨w.heap.size, 0, none⟩ = some (.int .u64 z) := hb.cell 0
        have fH := hb.frozen 0
        clear hst hx hz hK
        go_wp2_with (go_at_call 77; refine (mix77 _ _ _).mono ?_; rintro e w' ⟨rfl, rfl⟩)
        go_roundw
        case rel => exact ⟨k + 1, by omega, by go_num, by rw [Hst.out]; exact hb.set 0 _, hB'.setCell (Nat.le_refl _) _, (Below.heap_setCell _ _ _ _ (by simp; omega)).trans HK.out⟩
        case measure => simp [intOf]; omega
      · have hfin : mixI ((l.take k).foldl f h0) 0 = sumI l := by
          rw [List.take_of_length_le (by omega), Hf.out, Hh0.out]
          rfl
        obtain ⟨z, hz⟩ : ∃ z, z = (l.take k).foldl f h0 := ⟨_, rfl⟩
        rw [← hz] at hb hfin
        have Hfin := Lib.hid hfin
        have cH : wr.cell? ⟨w.heap.size, 0, none⟩ = some (.int .u64 z) := hb.cell 0
        clear hfin hz hK
        go_wp2_with (go_at_call 77; refine (mix77 _ _ _).mono ?_; rintro e w' ⟨rfl, rfl⟩)
        refine ⟨by simp, .inl ⟨_, _, rfl, run_takeDeferred HK.out, ?_⟩⟩
        refine ⟨_, results_tmp rfl _ _ _, ?_, ?_⟩
        · rw [← Hfin.out]
          rfl
        · exact hB'.trans (belowK_b (w := w) (Nat.le_refl _) wr D _ _ (by omega) HK.out rfl rfl)
  case stop =>
    rintro D c pre W hD _ hf _
    exact hf.elim

end Go.Proofs.Ytaedfidfcoigoaa
