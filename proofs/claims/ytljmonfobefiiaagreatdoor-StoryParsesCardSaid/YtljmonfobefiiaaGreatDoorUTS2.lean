import Derived.Shelf.SlGeneric
import Derived.Shelf.SlLaysH
import Derived.Shelf.SlicesE.DeleteFunc
import Derived.Ground.SlgfProg
import Derived.Test.YtljmonfobefiiaaGreatDoorProg
import Derived.Test.YtljmonfobefiiaaGreatDoorUP5
import Derived.Lib.OwnBridge
/-
  DERIVED: THE SHELF's CONTRACTS AT THIS DUMP, IN PLAIN WORDS (tools/lay-plain.mjs out of 'YtljmonfobefiiaaGreatDoorShelfU.lean', which tools/lay-shelf.mjs wrote): THE SAME DECLARATIONS UNDER THE SAME NAMES: 'import', 'namespace', 'open', 'def', 'theorem' AND NOTHING ELSE: no command of the shelf's: FOR A HAND-IN. Each laying: the table of numbers ('.._ren') and one theorem, a field a fact of the dump's own or the kernel's comparison; each contract: ONE APPLICATION.
-/
namespace Go.Proofs
open Go.Shelf
def Tryz.delQ_ren : Go.Shelf.Ren := ⟨fun | 10 => 72 | 6 => 108 | n => n, fun | 22 => 22 | 23 => 3 | 25 => 133 | 3 => 3 | 4 => 4 | 0 => 0 | n => n, fun | n => n⟩
theorem Tryz.delQ : Go.Proofs.SlLaysH.n10 Tryz.prog Tryz.delQ_ren := {
  mixed := by kernel_rfl
  f6 := ⟨Tryz.f108.name, by decide, Tryz.func108.trans (congrArg some (by kernel_rfl))⟩
  f10 := ⟨Tryz.f72.name, by decide, Tryz.func72.trans (congrArg some (by kernel_rfl))⟩
  t0 := Tryz.underlying0
  a0 := Tryz.isAgg0
  z0 := Tryz.sizeOf0
  v0 := Tryz.zeroValue0
  t3 := Tryz.underlying3
  a3 := Tryz.isAgg3
  z3 := Tryz.sizeOf3
  v3 := Tryz.zeroValue3
  t4 := Tryz.underlying4
  a4 := Tryz.isAgg4
  z4 := Tryz.sizeOf4
  v4 := Tryz.zeroValue4
  t22 := Tryz.underlying22
  a22 := Tryz.isAgg22
  z22 := Tryz.sizeOf22
  v22 := Tryz.zeroValue22
  a23 := Tryz.isAgg3
  z23 := Tryz.sizeOf3
  t25 := Tryz.underlying133
  a25 := Tryz.isAgg133
  z25 := Tryz.sizeOf133
  v25 := Tryz.zeroValue133 }
end Go.Proofs

/- story.Why: the steps on which a step depends, itself included. -/
namespace Go.Proofs.YtljmonfobefiiaaGreatDoor
open Go.RowKit Go.Lib Go.Sort

def whyL (run : List Stp) (i : Nat) : List Nat := (List.range run.length).filter fun k => decide (k = i) || lessB run k i
theorem nv_fin (n : Nat) : (List.finRange n).map (fun k => I (k.val : Int)) = nv (List.range n) := by
  apply List.ext_getElem
  · simp [nv]
  · intro j h1 h2
    simp [nv]
theorem fin_range (n : Nat) : (List.finRange n).map Fin.val = List.range n := by
  apply List.ext_getElem
  · simp
  · intro j h1 h2
    simp

set_option maxHeartbeats 1000000 in
theorem whyLit (n : Nat) (f : Nat → Nat → Bool) (p : Value) (bi bo i k : Nat) (W : World) (hO : OrdRep W p n f) (hi : i < n) (hk : k < n) (h0 : W.cell? ⟨bi, 0, none⟩ = some (I i)) (h1 : W.cell? ⟨bo, 0, none⟩ = some p) :
    FnGives Tryz.prog 73 #[.pointer (some ⟨bi, 0, none⟩), .pointer (some ⟨bo, 0, none⟩)] #[I k] (.bool (!(decide (k = i) || f k i))) W := by
  show Calls Tryz.prog 73 #[I k, .pointer (some ⟨bi, 0, none⟩), .pointer (some ⟨bo, 0, none⟩)] W _
  have Hl := Lib.hid (ordLess p n f k i W hO hk hi)
  by_cases hki : k = i
  · subst hki
    clear hO
    go_enter Tryz.func73, Tryz.ntmps73
    go_wp2_with fail
    go_ret
    exact ⟨by simp, 0, rfl⟩
  · have hki' : ¬ (k : Int) = i := by omega
    have hd : decide (k = i) = false := by simp [hki]
    have hkb := Lib.hid (show ((k : Int) != (i : Int)) = true by simpa using hki')
    rw [hd]
    clear hO hd
    cases hf : f k i with
    | true =>
      rw [hf] at Hl
      clear hf
      go_enter Tryz.func73, Tryz.ntmps73
      go_wp2_with (go_at_call 74; refine Hl.out.mono ?_; rintro e w3 ⟨rfl, rfl⟩)
      go_ret
      exact ⟨rfl, 0, rfl⟩
    | false =>
      rw [hf] at Hl
      clear hf
      go_enter Tryz.func73, Tryz.ntmps73
      go_wp2_with (go_at_call 74; refine Hl.out.mono ?_; rintro e w3 ⟨rfl, rfl⟩)
      go_ret
      exact ⟨by show Ending.returned (Value.bool _) = _; rw [hkb.out]; rfl, 0, rfl⟩

set_option maxHeartbeats 4000000 in
set_option maxRecDepth 100000 in
theorem whyC (run : List Stp) (v : Value) (w : World) (hrun : StpSl w v run) (hn : run.length ≤ 64) (i : Nat) (hi : i < run.length) :
    Calls Tryz.prog 31 #[v, I i] w fun e w' => ∃ u, e = .returned u ∧ IntSl w' u ((whyL run i).map fun k : Nat => (k : Int)) ∧ Below w.heap.size w w' := by
  obtain ⟨ka, ca, rfl, hml⟩ := hrun.open
  have hiI : (i : Int) < run.length := by omega
  have hiI0 : ¬ (i : Int) < 0 := by omega
  have HD := Lib.hid (fun W hW => depOrder run (.slice ka run.length ca) W hW hn)
  have Hrun := Lib.hid hrun
  clear hrun
  go_enter Tryz.func31, Tryz.ntmps31
  go_wp2_with fail
  obtain ⟨w1, hw1⟩ : ∃ w1, w1 = w.alloc (.cells #[I i] 3) := ⟨_, rfl⟩
  have hz1 : w1.heap.size = w.heap.size + 1 := by rw [hw1]; simp
  have hb1 : Blk w1 w.heap.size #[I i] := by rw [hw1]; exact Blk.new _ _ _
  have hB1 : Below w.heap.size w w1 := by rw [hw1]; exact (Below.refl _ _).alloc (Nat.le_refl _) _
  rw [← hw1]
  clear hw1
  refine (HD.out w1 (Hrun.out.kept hB1 (Nat.le_refl _))).mono ?_
  rintro e w2 ⟨p, rfl, hO, hB2⟩
  have hO' := hO
  obtain ⟨_, pg, _, _, rfl, _⟩ := hO'
  have hz2 := hB2.size
  have hb2 := hb1.kept hB2 hb1.lt
  have HB2 := Lib.hid (hB1.trans (hB2.mono (by omega)))
  have HO := Lib.hid hO
  have Hb2 := Lib.hid hb2
  clear hb1 hB1 hB2 hO hb2 HD Hrun
  go_wp2_with fail
  obtain ⟨w3, hw3⟩ : ∃ w3, w3 = w2.alloc (.cells #[.pointer (some ⟨pg, 0, none⟩)] 117) := ⟨_, rfl⟩
  have hz3 : w3.heap.size = w2.heap.size + 1 := by rw [hw3]; simp
  have Hb3 := Lib.hid (show Blk w3 w2.heap.size #[.pointer (some ⟨pg, 0, none⟩)] by rw [hw3]; exact Blk.new _ _ _)
  have HB23 : Hid (Below w2.heap.size w2 w3) := Lib.hid (by rw [hw3]; exact (Below.refl _ _).alloc (Nat.le_refl _) _)
  rw [← hw3]
  clear hw3
  go_loopw [6, 20] (fun vo vi wr => ∃ (k : Nat) (av : Option Addr) (ac : Nat), k ≤ run.length ∧ vo = .slice av k ac ∧ vi = I k ∧ Hid (Below w3.heap.size w3 wr) ∧ Hid (wr.ownsRow w3.heap.size 3 1 (.slice av k ac) k (nv (List.range k)))) (fun _ vi _ => run.length - (intOf vi).toNat)
  case atStart => exact ⟨0, none, 0, by omega, rfl, rfl, Lib.hid (Below.refl _ _), Lib.hid (World.ownsRow_nil _ _ _ _)⟩
  case round =>
    obtain ⟨k, av, ac, hk, rfl, rfl, HB, Hown⟩ := hrel
    have hwz := HB.out.size
    by_cases hlt : k < run.length
    · go_wp2_with (at_builtin; go_must (refine wpList_appB rfl _ _ 22 rfl 3 _ 1 8 Tryz.underlying22 info_int rfl (by omega) (by omega) w3.heap.size (.slice av k ac) k (nv (List.range k)) rfl (Hown.out.alloc _) wr.heap.size 1 1 #[I k] 3 rfl (heap_alloc_new _ _) rfl rfl (by omega) (by omega) (by rw [World.size_alloc]; omega) ?_); intro g5 cap5 w5 hg1 hg2 hg3 ho5 hgr5 hB5)
      go_roundw
      case rel => exact ⟨k + 1, _, cap5, by omega, rfl, by go_num, Lib.hid ((HB.out.alloc hwz _).trans hB5), Lib.hid (by rw [List.range_succ, nv_snoc]; exact ho5)⟩
      case measure => simp [intOf]; omega
    · obtain rfl : k = run.length := by omega
      have hown := Hown.out
      rw [← nv_fin] at hown
      letI : Inhabited (Fin run.length) := ⟨⟨i, hi⟩⟩
      have hne : Value.slice av run.length ac ≠ .slice none 0 0 := by
        intro e
        injection e with _ e _
        omega
      obtain ⟨g, cap, hv, hbg, hgl, hnc, hcm, hzl, hH⟩ := holds_of_ownsRow (enc := fun k : Fin run.length => I (k.val : Int)) hown hne
      injection hv with ea _ ec
      subst ea; subst ec
      have eg : ∀ args w, (callFunc 73 args).run Tryz.prog w = .ok (.enter 73 args) w := enters_of Tryz.func73 (by kernel_rfl) rfl
      have hbi := Hb2.out
      have hB23 := HB23.out
      have hpre : ∀ W : World, Below w3.heap.size w3 W → OrdRep W (.pointer (some ⟨pg, 0, none⟩)) run.length (lessB run) ∧ W.cell? ⟨w.heap.size, 0, none⟩ = some (I i) ∧ W.cell? ⟨w2.heap.size, 0, none⟩ = some (.pointer (some ⟨pg, 0, none⟩)) := fun W hW => by
        refine ⟨HO.out.kept (hB23.trans (hW.mono hB23.size)) (Nat.le_refl _), ?_, ?_⟩
        · exact ((hbi.kept hB23 hbi.lt).kept hW (by have := hbi.lt; omega)).cell 0
        · exact (Hb3.out.kept hW (by omega)).cell 0
      have hcon := AnyE.slices_DeleteFunc Tryz.delQ (fun k : Fin run.length => I (k.val : Int)) (fun _ => rfl) (fun k : Fin run.length => !(decide (k.val = i) || lessB run k.val i)) 73 #[.pointer (some ⟨w.heap.size, 0, none⟩), .pointer (some ⟨w2.heap.size, 0, none⟩)] eg ⟨0, by omega⟩ Tryz.zeroValue3 g 0 ac (List.finRange run.length).toArray wr
        (fun W x hb => by
          obtain ⟨h1, h2, h3⟩ := hpre W (HB.out.trans (hb.mono hwz))
          exact whyLit run.length (lessB run) (.pointer (some ⟨pg, 0, none⟩)) w.heap.size w2.heap.size i x.val W h1 hi x.isLt h2 h3)
        (fun m os dk x _ => by
          have hbw : Below w3.heap.size w3 (sortWorld (fun k : Fin run.length => I (k.val : Int)) wr g 0 m dk os) := by
            have h1 : Below w3.heap.size w3 (putRow (fun k : Fin run.length => I (k.val : Int)) (Sort.ahead wr m) g 0 dk) := below_putRow HB.out hbg
            exact h1.trans ((below_grown _ 0 os).mono h1.size)
          obtain ⟨h1, h2, h3⟩ := hpre _ hbw
          exact whyLit run.length (lessB run) (.pointer (some ⟨pg, 0, none⟩)) w.heap.size w2.heap.size i x.val _ h1 hi x.isLt h2 h3)
        hH (by simp; omega) (by simpa using hnc)
      change Calls Tryz.prog 72 _ _ _ at hcon
      have hlen : (List.finRange run.length).toArray.size = run.length := by simp
      rw [hlen] at hcon
      obtain ⟨r, hr⟩ : ∃ r, r = (List.finRange run.length).toArray.toList.filter (fun k : Fin run.length => !(!(decide (k.val = i) || lessB run k.val i))) := ⟨_, rfl⟩
      rw [← hr] at hcon
      have hrl : r.length ≤ run.length := by
        rw [hr]
        exact Nat.le_trans (List.length_filter_le _ _) (by simp)
      have hrv : r.map (fun k => k.val) = whyL run i := by
        rw [hr]
        unfold whyL
        rw [← fin_range, List.filter_map]
        simp only [Bool.not_not]
        rfl
      have Hcon := Lib.hid hcon
      have Hown2 := Lib.hid hown
      have Hrv := Lib.hid hrv
      clear hcon hown hr hrv hpre hH hne
      go_wp2_with (go_at_call 72; refine Hcon.out.mono ?_; rintro e w5 ⟨rfl, q, rfl⟩)
      go_ret
      have ho := ownsRow_putRow (q := q) Hown2.out (ys := r ++ List.replicate (run.length - r.length) ⟨0, by omega⟩) (k := r.length) (by simp; omega) hrl
      rw [List.take_left' rfl] at ho
      refine ⟨_, rfl, ?_, ?_⟩
      · have := Flat.of_owns ho
        unfold IntSl
        rw [← Hrv.out, List.length_map, List.length_map]
        rw [show iv ((r.map fun k => k.val).map fun k : Nat => (k : Int)) = r.map (fun k => I (k.val : Int)) by simp only [iv, List.map_map]; rfl]
        exact this
      · exact (below_putRow (HB2.out.trans ((hB23.mono (by omega)).trans (HB.out.mono (by omega)))) (by omega))

end Go.Proofs.YtljmonfobefiiaaGreatDoor
