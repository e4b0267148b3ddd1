/- lives: the example of the section. -/
import Derived.Test.YtaedfidfcoigoaaN9
import Derived.Test.YtaedfidfcoigoaaP9
import Derived.Test.YtaedfidfcoigoaaOT
namespace Go.Proofs.Ytaedfidfcoigoaa
open Go.RowKit

/-- A step without asks and messages. -/
def bare (e : Ev) (o : Bool) : Stp := ⟨e, [], o, []⟩
def bareRow (e : Ev) (o : Bool) : Array Value := #[I e.kind, I e.node, I e.arg, I e.msg.node, I e.msg.handler, I e.msg.count, I e.msg.index, I e.msg.copy, .slice none 0 0, .bool o, .slice none 0 0]
theorem bare_cells (w : World) : ∀ l : List (Ev × Bool), StpCells w (l.map fun p => bare p.1 p.2) (l.flatMap fun p => (bareRow p.1 p.2).toList)
  | [] => rfl
  | _ :: l => ⟨.slice none 0 0, .slice none 0 0, _, rfl, Flat.nil _ _ _ _, Flat.nil _ _ _ _, bare_cells w l⟩
theorem bare_sl {w : World} {g : Nat} {cs : Array Value} (h : Blk w g cs) (l : List (Ev × Bool)) (hc : cs.toList = l.flatMap fun p => (bareRow p.1 p.2).toList) (hl : l.length ≤ 1000) :
    StpSl w (.slice (some ⟨g, 0, none⟩) l.length l.length) (l.map fun p => bare p.1 p.2) := by
  refine ⟨_, bare_cells w l, ?_⟩
  have hlen : (l.flatMap fun p => (bareRow p.1 p.2).toList).length = l.length * 11 := length_flat _ 11 (fun _ => rfl) l
  rw [List.length_map]
  refine Flat.of_cells hlen (by omega) fun j u hu => ?_
  rw [Nat.zero_add, h.cell j, ← hu, ← hc]
  simp

def evA : Ev := ⟨4, 1, 0, ⟨0, 0, 0, 0, 0⟩⟩
def evB : Ev := ⟨4, 0, 0, ⟨0, 0, 0, 0, 0⟩⟩
def stA : Stp := bare evA false
def stB : Stp := bare evB false
theorem norm_ab : normS [stA, stB] = [stB, stA] := by decide
theorem norm_eq : normS [stA, stB] = normS [stB, stA] := by decide
theorem norm_ne : normS [stA] ≠ normS [stB] := by decide

theorem ok_ab (l : List (Ev × Bool)) (h : l.length ≤ 2) : RunOk (l.map fun p => bare p.1 p.2) := ⟨by rw [List.length_map]; omega, fun s hs => by
  obtain ⟨p, _, rfl⟩ := List.mem_map.1 hs
  simp [bare], fun s hs => by
  obtain ⟨p, _, rfl⟩ := List.mem_map.1 hs
  simp [bare]⟩

theorem two_new (w : World) (X Y : Array Value) : Blk ((w.alloc (.cells X 55)).alloc (.cells Y 55)).drew w.heap.size X ∧ Blk ((w.alloc (.cells X 55)).alloc (.cells Y 55)).drew (w.heap.size + 1) Y := by
  refine ⟨((Blk.new w X 55).alloc _).drew, ?_⟩
  have := (Blk.new (w.alloc (.cells X 55)) Y 55).drew
  simpa using this
theorem two_new' (w : World) (X Y : Array Value) : Blk ((w.alloc (.cells X 55)).alloc (.cells Y 55)) w.heap.size X ∧ Blk ((w.alloc (.cells X 55)).alloc (.cells Y 55)) (w.heap.size + 1) Y := by
  refine ⟨(Blk.new w X 55).alloc _, ?_⟩
  have := Blk.new (w.alloc (.cells X 55)) Y 55
  simpa using this
theorem eqAB (w : World) (g1 g2 : Nat) (h1 : Blk w g1 #[I 4, I 1, I 0, I 0, I 0, I 0, I 0, I 0, .slice none 0 0, .bool false, .slice none 0 0, I 4, I 0, I 0, I 0, I 0, I 0, I 0, I 0, .slice none 0 0, .bool false, .slice none 0 0]) (h2 : Blk w g2 #[I 4, I 0, I 0, I 0, I 0, I 0, I 0, I 0, .slice none 0 0, .bool false, .slice none 0 0, I 4, I 1, I 0, I 0, I 0, I 0, I 0, I 0, .slice none 0 0, .bool false, .slice none 0 0]) : Calls Try.prog 11 #[.slice (some ⟨g1, 0, none⟩) 2 2, .slice (some ⟨g2, 0, none⟩) 2 2] w fun e w' => e = .returned (.bool true) ∧ Below w.heap.size w w' := by
  have := trEquivalent [stA, stB] [stB, stA] _ _ w (bare_sl h1 [(evA, false), (evB, false)] rfl (by simp)) (bare_sl h2 [(evB, false), (evA, false)] rfl (by simp)) (ok_ab [(evA, false), (evB, false)] (by simp)) (ok_ab [(evB, false), (evA, false)] (by simp))
  rwa [decide_eq_true norm_eq] at this
theorem neAB (w : World) (g1 g2 : Nat) (h1 : Blk w g1 #[I 4, I 1, I 0, I 0, I 0, I 0, I 0, I 0, .slice none 0 0, .bool false, .slice none 0 0]) (h2 : Blk w g2 #[I 4, I 0, I 0, I 0, I 0, I 0, I 0, I 0, .slice none 0 0, .bool false, .slice none 0 0]) : Calls Try.prog 11 #[.slice (some ⟨g1, 0, none⟩) 1 1, .slice (some ⟨g2, 0, none⟩) 1 1] w fun e w' => e = .returned (.bool false) ∧ Below w.heap.size w w' := by
  have := trEquivalent [stA] [stB] _ _ w (bare_sl h1 [(evA, false)] rfl (by simp)) (bare_sl h2 [(evB, false)] rfl (by simp)) (ok_ab [(evA, false)] (by simp)) (ok_ab [(evB, false)] (by simp))
  rwa [decide_eq_false norm_ne] at this

set_option maxHeartbeats 8000000 in
set_option maxRecDepth 100000 in
theorem lives (w : World) : Calls Try.prog 13 #[] w fun e w' => e = .returned (.bool true) ∧ Below w.heap.size w w' := by
  go_enter Try.func13, Try.ntmps13
  go_wp2_with fail
  have hbA : Blk (((w.alloc (.cells #[I 4, I 1, I 0, I 0, I 0, I 0, I 0, I 0, .slice none 0 0, .bool false, .slice none 0 0] 55)).alloc (.cells #[I 4, I 0, I 0, I 0, I 0, I 0, I 0, I 0, .slice none 0 0, .bool false, .slice none 0 0] 55)).alloc (.cells #[I 4, I 1, I 0, I 0, I 0, I 0, I 0, I 0, .slice none 0 0, .bool false, .slice none 0 0, I 4, I 0, I 0, I 0, I 0, I 0, I 0, I 0, .slice none 0 0, .bool false, .slice none 0 0] 55)) w.heap.size #[I 4, I 1, I 0, I 0, I 0, I 0, I 0, I 0, .slice none 0 0, .bool false, .slice none 0 0] := ((Blk.new _ _ _).alloc _).alloc _
  have hbB : Blk (((w.alloc (.cells #[I 4, I 1, I 0, I 0, I 0, I 0, I 0, I 0, .slice none 0 0, .bool false, .slice none 0 0] 55)).alloc (.cells #[I 4, I 0, I 0, I 0, I 0, I 0, I 0, I 0, .slice none 0 0, .bool false, .slice none 0 0] 55)).alloc (.cells #[I 4, I 1, I 0, I 0, I 0, I 0, I 0, I 0, .slice none 0 0, .bool false, .slice none 0 0, I 4, I 0, I 0, I 0, I 0, I 0, I 0, I 0, .slice none 0 0, .bool false, .slice none 0 0] 55)) (w.heap.size + 1) #[I 4, I 0, I 0, I 0, I 0, I 0, I 0, I 0, .slice none 0 0, .bool false, .slice none 0 0] := by
    have := (Blk.new (w.alloc (.cells #[I 4, I 1, I 0, I 0, I 0, I 0, I 0, I 0, .slice none 0 0, .bool false, .slice none 0 0] 55)) #[I 4, I 0, I 0, I 0, I 0, I 0, I 0, I 0, .slice none 0 0, .bool false, .slice none 0 0] 55).alloc (.cells #[I 4, I 1, I 0, I 0, I 0, I 0, I 0, I 0, .slice none 0 0, .bool false, .slice none 0 0, I 4, I 0, I 0, I 0, I 0, I 0, I 0, I 0, .slice none 0 0, .bool false, .slice none 0 0] 55)
    simpa using this
  have hbC : Blk (((w.alloc (.cells #[I 4, I 1, I 0, I 0, I 0, I 0, I 0, I 0, .slice none 0 0, .bool false, .slice none 0 0] 55)).alloc (.cells #[I 4, I 0, I 0, I 0, I 0, I 0, I 0, I 0, .slice none 0 0, .bool false, .slice none 0 0] 55)).alloc (.cells #[I 4, I 1, I 0, I 0, I 0, I 0, I 0, I 0, .slice none 0 0, .bool false, .slice none 0 0, I 4, I 0, I 0, I 0, I 0, I 0, I 0, I 0, .slice none 0 0, .bool false, .slice none 0 0] 55)) (w.heap.size + 1 + 1) #[I 4, I 1, I 0, I 0, I 0, I 0, I 0, I 0, .slice none 0 0, .bool false, .slice none 0 0, I 4, I 0, I 0, I 0, I 0, I 0, I 0, I 0, .slice none 0 0, .bool false, .slice none 0 0] := by
    have := Blk.new ((w.alloc (.cells #[I 4, I 1, I 0, I 0, I 0, I 0, I 0, I 0, .slice none 0 0, .bool false, .slice none 0 0] 55)).alloc (.cells #[I 4, I 0, I 0, I 0, I 0, I 0, I 0, I 0, .slice none 0 0, .bool false, .slice none 0 0] 55)) #[I 4, I 1, I 0, I 0, I 0, I 0, I 0, I 0, .slice none 0 0, .bool false, .slice none 0 0, I 4, I 0, I 0, I 0, I 0, I 0, I 0, I 0, .slice none 0 0, .bool false, .slice none 0 0] 55
    simpa using this
  have hB0 : Below w.heap.size w (((w.alloc (.cells #[I 4, I 1, I 0, I 0, I 0, I 0, I 0, I 0, .slice none 0 0, .bool false, .slice none 0 0] 55)).alloc (.cells #[I 4, I 0, I 0, I 0, I 0, I 0, I 0, I 0, .slice none 0 0, .bool false, .slice none 0 0] 55)).alloc (.cells #[I 4, I 1, I 0, I 0, I 0, I 0, I 0, I 0, .slice none 0 0, .bool false, .slice none 0 0, I 4, I 0, I 0, I 0, I 0, I 0, I 0, I 0, .slice none 0 0, .bool false, .slice none 0 0] 55)) := (((Below.refl _ _).alloc (Nat.le_refl _) _).alloc (by simp) _).alloc (by simp; omega) _
  have hsl : StpSl (((w.alloc (.cells #[I 4, I 1, I 0, I 0, I 0, I 0, I 0, I 0, .slice none 0 0, .bool false, .slice none 0 0] 55)).alloc (.cells #[I 4, I 0, I 0, I 0, I 0, I 0, I 0, I 0, .slice none 0 0, .bool false, .slice none 0 0] 55)).alloc (.cells #[I 4, I 1, I 0, I 0, I 0, I 0, I 0, I 0, .slice none 0 0, .bool false, .slice none 0 0, I 4, I 0, I 0, I 0, I 0, I 0, I 0, I 0, .slice none 0 0, .bool false, .slice none 0 0] 55)) (.slice (some ⟨w.heap.size + 1 + 1, 0, none⟩) 2 2) [stA, stB] := bare_sl hbC [(evA, false), (evB, false)] rfl (by simp)
  have hok := ok_ab [(evA, false), (evB, false)] (by simp)
  refine (trNormal [stA, stB] _ _ hsl hok.len hok.asks hok.sent).mono ?_
  rintro e w3 ⟨u, rfl, hu, hB3⟩
  rw [norm_ab] at hu
  have hbA3 := hbA.kept hB3 hbA.lt
  have hbB3 := hbB.kept hB3 hbB.lt
  have hBw3 : Below w.heap.size w w3 := hB0.trans (hB3.mono hB0.size)
  obtain ⟨ku, cu, hu2, _⟩ := hu.open
  obtain rfl : u = .slice ku 2 cu := hu2
  have Hu := Lib.hid hu
  have HbA := Lib.hid hbA3
  have HbB := Lib.hid hbB3
  have cA0 : w3.cell? ⟨w.heap.size, 0, none⟩ = some (I 4) := hbA3.cell 0
  have cA1 : w3.cell? ⟨w.heap.size, 1, none⟩ = some (I 1) := hbA3.cell 1
  have cA2 : w3.cell? ⟨w.heap.size, 2, none⟩ = some (I 0) := hbA3.cell 2
  have cA3 : w3.cell? ⟨w.heap.size, 3, none⟩ = some (I 0) := hbA3.cell 3
  have cA4 : w3.cell? ⟨w.heap.size, 4, none⟩ = some (I 0) := hbA3.cell 4
  have cA5 : w3.cell? ⟨w.heap.size, 5, none⟩ = some (I 0) := hbA3.cell 5
  have cA6 : w3.cell? ⟨w.heap.size, 6, none⟩ = some (I 0) := hbA3.cell 6
  have cA7 : w3.cell? ⟨w.heap.size, 7, none⟩ = some (I 0) := hbA3.cell 7
  have cA8 : w3.cell? ⟨w.heap.size, 8, none⟩ = some (.slice none 0 0) := hbA3.cell 8
  have cA9 : w3.cell? ⟨w.heap.size, 9, none⟩ = some (.bool false) := hbA3.cell 9
  have cA10 : w3.cell? ⟨w.heap.size, 10, none⟩ = some (.slice none 0 0) := hbA3.cell 10
  have cB0 : w3.cell? ⟨w.heap.size + 1, 0, none⟩ = some (I 4) := hbB3.cell 0
  have cB1 : w3.cell? ⟨w.heap.size + 1, 1, none⟩ = some (I 0) := hbB3.cell 1
  have cB2 : w3.cell? ⟨w.heap.size + 1, 2, none⟩ = some (I 0) := hbB3.cell 2
  have cB3 : w3.cell? ⟨w.heap.size + 1, 3, none⟩ = some (I 0) := hbB3.cell 3
  have cB4 : w3.cell? ⟨w.heap.size + 1, 4, none⟩ = some (I 0) := hbB3.cell 4
  have cB5 : w3.cell? ⟨w.heap.size + 1, 5, none⟩ = some (I 0) := hbB3.cell 5
  have cB6 : w3.cell? ⟨w.heap.size + 1, 6, none⟩ = some (I 0) := hbB3.cell 6
  have cB7 : w3.cell? ⟨w.heap.size + 1, 7, none⟩ = some (I 0) := hbB3.cell 7
  have cB8 : w3.cell? ⟨w.heap.size + 1, 8, none⟩ = some (.slice none 0 0) := hbB3.cell 8
  have cB9 : w3.cell? ⟨w.heap.size + 1, 9, none⟩ = some (.bool false) := hbB3.cell 9
  have cB10 : w3.cell? ⟨w.heap.size + 1, 10, none⟩ = some (.slice none 0 0) := hbB3.cell 10
  have hz3 : w.heap.size + 1 < w3.heap.size := hbB3.lt
  have hz3' : w.heap.size < w3.heap.size := by omega
  clear hbA hbB hbC hB0 hsl hok hB3 hbA3 hbB3 hu
  go_wp2_with fail
  have hbD : Blk (w3.alloc (.cells #[I 4, I 1, I 0, I 0, I 0, I 0, I 0, I 0, .slice none 0 0, .bool false, .slice none 0 0, I 4, I 0, I 0, I 0, I 0, I 0, I 0, I 0, .slice none 0 0, .bool false, .slice none 0 0] 55)) w3.heap.size #[I 4, I 1, I 0, I 0, I 0, I 0, I 0, I 0, .slice none 0 0, .bool false, .slice none 0 0, I 4, I 0, I 0, I 0, I 0, I 0, I 0, I 0, .slice none 0 0, .bool false, .slice none 0 0] := Blk.new _ _ _
  have hsl : StpSl (w3.alloc (.cells #[I 4, I 1, I 0, I 0, I 0, I 0, I 0, I 0, .slice none 0 0, .bool false, .slice none 0 0, I 4, I 0, I 0, I 0, I 0, I 0, I 0, I 0, .slice none 0 0, .bool false, .slice none 0 0] 55)) (.slice (some ⟨w3.heap.size, 0, none⟩) 2 2) [stA, stB] := bare_sl hbD [(evA, false), (evB, false)] rfl (by simp)
  have hok := ok_ab [(evA, false), (evB, false)] (by simp)
  refine (trProject [stA, stB] 1 _ _ hsl (by simp) hok.asks hok.sent).mono ?_
  rintro e w4 ⟨x, rfl, hx, hB4⟩
  have hB34 : Below w3.heap.size w3 w4 := Below.then (w := w3) ((Below.refl _ _).alloc (Nat.le_refl _) _) hB4
  have hfl : ([stA, stB].filter fun s => s.ev.node == 1) = [stA] := by decide
  rw [hfl] at hx
  obtain ⟨kx, cx, hx2, _⟩ := hx.open
  obtain rfl : x = .slice kx 1 cx := hx2
  clear hsl hok hbD hx hfl cA0 cA1 cA2 cA3 cA4 cA5 cA6 cA7 cA8 cA9 cA10 cB0 cB1 cB2 cB3 cB4 cB5 cB6 cB7 cB8 cB9 cB10
  go_wp2_with fail
  have hbA4 := HbA.out.kept hB34 (by omega)
  have hbB4 := HbB.out.kept hB34 (by omega)
  have hu4 := Hu.out.kept hB34 (Nat.le_refl _)
  obtain ⟨kb, ko, va, vs, rfl, _, _, y0, y1, y2, y3, y4, y5, y6, y7, _⟩ := hu4.at (i := 0) (s := stB) rfl
  obtain ⟨kb', ko', va', vs', hab, _, _, z0, z1, z2, z3, z4, z5, z6, z7, _⟩ := hu4.at (i := 1) (s := stA) rfl
  simp at hab
  obtain ⟨rfl, rfl⟩ := hab
  have Y0 : w4.cell? ⟨kb, ko, none⟩ = some (I 4) := by simpa [stB, bare, evB] using y0
  have Y1 : w4.cell? ⟨kb, ko + 1, none⟩ = some (I 0) := by simpa [stB, bare, evB] using y1
  have Y2 : w4.cell? ⟨kb, ko + 2, none⟩ = some (I 0) := by simpa [stB, bare, evB] using y2
  have Y3 : w4.cell? ⟨kb, ko + 3, none⟩ = some (I 0) := by simpa [stB, bare, evB] using y3
  have Y4 : w4.cell? ⟨kb, ko + 4, none⟩ = some (I 0) := by simpa [stB, bare, evB] using y4
  have Y5 : w4.cell? ⟨kb, ko + 5, none⟩ = some (I 0) := by simpa [stB, bare, evB] using y5
  have Y6 : w4.cell? ⟨kb, ko + 6, none⟩ = some (I 0) := by simpa [stB, bare, evB] using y6
  have Y7 : w4.cell? ⟨kb, ko + 7, none⟩ = some (I 0) := by simpa [stB, bare, evB] using y7
  have Z0 : w4.cell? ⟨kb, ko + 11, none⟩ = some (I 4) := by simpa [stA, bare, evA] using z0
  have Z1 : w4.cell? ⟨kb, ko + 11 + 1, none⟩ = some (I 1) := by simpa [stA, bare, evA] using z1
  have Z2 : w4.cell? ⟨kb, ko + 11 + 2, none⟩ = some (I 0) := by simpa [stA, bare, evA] using z2
  have Z3 : w4.cell? ⟨kb, ko + 11 + 3, none⟩ = some (I 0) := by simpa [stA, bare, evA] using z3
  have Z4 : w4.cell? ⟨kb, ko + 11 + 4, none⟩ = some (I 0) := by simpa [stA, bare, evA] using z4
  have Z5 : w4.cell? ⟨kb, ko + 11 + 5, none⟩ = some (I 0) := by simpa [stA, bare, evA] using z5
  have Z6 : w4.cell? ⟨kb, ko + 11 + 6, none⟩ = some (I 0) := by simpa [stA, bare, evA] using z6
  have Z7 : w4.cell? ⟨kb, ko + 11 + 7, none⟩ = some (I 0) := by simpa [stA, bare, evA] using z7
  clear y0 z0 y1 z1 y2 z2 y3 z3 y4 z4 y5 z5 y6 z6 y7 z7
  have cA0 : w4.cell? ⟨w.heap.size, 0, none⟩ = some (I 4) := hbA4.cell 0
  have cA1 : w4.cell? ⟨w.heap.size, 1, none⟩ = some (I 1) := hbA4.cell 1
  have cA2 : w4.cell? ⟨w.heap.size, 2, none⟩ = some (I 0) := hbA4.cell 2
  have cA3 : w4.cell? ⟨w.heap.size, 3, none⟩ = some (I 0) := hbA4.cell 3
  have cA4 : w4.cell? ⟨w.heap.size, 4, none⟩ = some (I 0) := hbA4.cell 4
  have cA5 : w4.cell? ⟨w.heap.size, 5, none⟩ = some (I 0) := hbA4.cell 5
  have cA6 : w4.cell? ⟨w.heap.size, 6, none⟩ = some (I 0) := hbA4.cell 6
  have cA7 : w4.cell? ⟨w.heap.size, 7, none⟩ = some (I 0) := hbA4.cell 7
  have cA8 : w4.cell? ⟨w.heap.size, 8, none⟩ = some (.slice none 0 0) := hbA4.cell 8
  have cA9 : w4.cell? ⟨w.heap.size, 9, none⟩ = some (.bool false) := hbA4.cell 9
  have cA10 : w4.cell? ⟨w.heap.size, 10, none⟩ = some (.slice none 0 0) := hbA4.cell 10
  have cB0 : w4.cell? ⟨w.heap.size + 1, 0, none⟩ = some (I 4) := hbB4.cell 0
  have cB1 : w4.cell? ⟨w.heap.size + 1, 1, none⟩ = some (I 0) := hbB4.cell 1
  have cB2 : w4.cell? ⟨w.heap.size + 1, 2, none⟩ = some (I 0) := hbB4.cell 2
  have cB3 : w4.cell? ⟨w.heap.size + 1, 3, none⟩ = some (I 0) := hbB4.cell 3
  have cB4 : w4.cell? ⟨w.heap.size + 1, 4, none⟩ = some (I 0) := hbB4.cell 4
  have cB5 : w4.cell? ⟨w.heap.size + 1, 5, none⟩ = some (I 0) := hbB4.cell 5
  have cB6 : w4.cell? ⟨w.heap.size + 1, 6, none⟩ = some (I 0) := hbB4.cell 6
  have cB7 : w4.cell? ⟨w.heap.size + 1, 7, none⟩ = some (I 0) := hbB4.cell 7
  have cB8 : w4.cell? ⟨w.heap.size + 1, 8, none⟩ = some (.slice none 0 0) := hbB4.cell 8
  have cB9 : w4.cell? ⟨w.heap.size + 1, 9, none⟩ = some (.bool false) := hbB4.cell 9
  have cB10 : w4.cell? ⟨w.heap.size + 1, 10, none⟩ = some (.slice none 0 0) := hbB4.cell 10
  have hkb : kb < w4.heap.size := by simpa using World.block_lt_of_cell? _ _ Y0
  have hl1 : w.heap.size < w4.heap.size := hbA4.lt
  have hl2 : w.heap.size + 1 < w4.heap.size := hbB4.lt
  have hBw4 : Below w.heap.size w w4 := hBw3.trans (hB34.mono (by omega))
  clear hbA4 hbB4 hu4 hB34
  refine wp_region_T 30 (.take 0 (.take 1 (.take 2 (.take 3 (.take 4 (.take 5 (.take 6 (.take 7 (.take 8 (.take 9 (.take 10 (.take 11 (.take 12 (.take 13 (.take 14 (.take 15 (.take 16 (.take 17 (.take 18 (.take 20 (.take 21 (.fork 19 22 (.move 22 (.move 23 (.take 24 (.take 25 (.take 26 (.take 28 (.fork 27 29 (.move 29 .nil) (.move 27 .nil)))))))) (.move 19 (.move 23 (.take 24 (.take 25 (.take 26 (.take 28 (.fork 27 29 (.move 29 .nil) (.move 27 .nil)))))))))))))))))))))))))))))) (fun w' => ∀ b o, b < w4.heap.size → w'.cell? ⟨b, o, none⟩ = w4.cell? ⟨b, o, none⟩) (by kernel_rfl) rfl (by kernel_rfl) (fun _ _ _ => rfl) ?_
  iterate 17 (refine wpT_take rfl ?_ (by rfl) ?_ ?_; rotate_left; (intro w hSw; (try dsimp only at hSw); go_simp; try with_reducible rfl); (try simp only [Act.put, List.setIfInBounds_toArray, List.set_cons_zero, List.set_cons_succ]))
  iterate 4 (refine wpT_take rfl ?_ (by rfl) ?_ ?_; rotate_left; (intro w hSw; (try dsimp only at hSw); go_simp; try with_reducible rfl); (try simp only [Act.put, List.setIfInBounds_toArray, List.set_cons_zero, List.set_cons_succ]))
  have hw4w : w.heap.size ≤ w4.heap.size := by omega
  refine wpT_fork ?_ ?_
  · (refine wpT_move rfl (fun K hK => ?_); go_simp; refine hK.out _ _ ?_ ?_)
    · intro b o hb
      exact (show Below w4.heap.size w4 _ from (by repeat (first | exact Below.refl _ _ | assumption | refine Below.drew ?_ | refine below_drewN ?_ _ | refine Below.alloc ?_ (by simp <;> omega) _ | refine Below.setCell ?_ (by simp <;> omega) _))).cell (p := ⟨b, o, none⟩) hb
    clear hK K
    (try simp only [Act.put, List.setIfInBounds_toArray, List.set_cons_zero, List.set_cons_succ])
    (refine wpT_move rfl (fun K hK => ?_); go_simp; refine hK.out _ _ ?_ ?_)
    · intro b o hb
      exact (show Below w4.heap.size w4 _ from (by repeat (first | exact Below.refl _ _ | assumption | refine Below.drew ?_ | refine below_drewN ?_ _ | refine Below.alloc ?_ (by simp <;> omega) _ | refine Below.setCell ?_ (by simp <;> omega) _))).cell (p := ⟨b, o, none⟩) hb
    clear hK K
    (try simp only [Act.put, List.setIfInBounds_toArray, List.set_cons_zero, List.set_cons_succ])
    refine wpT_move rfl (fun K hK => ?_)
    go_simp
    refine (eqAB _ _ _ (two_new w4 _ _).1 (two_new w4 _ _).2).mono ?_
    rintro e w5 ⟨rfl, hB5⟩
    have hB45 : Below w4.heap.size w4 w5 := Below.then (w := w4) (by repeat (first | exact Below.refl _ _ | assumption | refine Below.drew ?_ | refine below_drewN ?_ _ | refine Below.alloc ?_ (by simp <;> omega) _ | refine Below.setCell ?_ (by simp <;> omega) _)) hB5
    refine hK.out _ _ (fun b o hb => hB45.cell (p := ⟨b, o, none⟩) hb) ?_
    have hz5 := hB45.size
    clear hK K
    (try simp only [Act.put, List.setIfInBounds_toArray, List.set_cons_zero, List.set_cons_succ])
    iterate 4 (refine wpT_take rfl ?_ (by rfl) ?_ ?_; rotate_left; (intro w hSw; (try dsimp only at hSw); go_simp; try with_reducible rfl); (try simp only [Act.put, List.setIfInBounds_toArray, List.set_cons_zero, List.set_cons_succ]))
    refine wpT_fork ?_ ?_
    · (refine wpT_move rfl (fun K hK => ?_); go_simp; refine hK.out _ _ ?_ ?_)
      · intro b o hb
        exact (show Below w4.heap.size w4 _ from hB45.trans ((show Below w5.heap.size w5 _ from (by repeat (first | exact Below.refl _ _ | assumption | refine Below.drew ?_ | refine below_drewN ?_ _ | refine Below.alloc ?_ (by simp <;> omega) _ | refine Below.setCell ?_ (by simp <;> omega) _))).mono (by omega))).cell (p := ⟨b, o, none⟩) hb
      clear hK K
      (try simp only [Act.put, List.setIfInBounds_toArray, List.set_cons_zero, List.set_cons_succ])
      (refine wpT_move rfl (fun K hK => ?_); go_simp; refine hK.out _ _ ?_ ?_)
      · intro b o hb
        exact (show Below w4.heap.size w4 _ from hB45.trans ((show Below w5.heap.size w5 _ from (by repeat (first | exact Below.refl _ _ | assumption | refine Below.drew ?_ | refine below_drewN ?_ _ | refine Below.alloc ?_ (by simp <;> omega) _ | refine Below.setCell ?_ (by simp <;> omega) _))).mono (by omega))).cell (p := ⟨b, o, none⟩) hb
      clear hK K
      (try simp only [Act.put, List.setIfInBounds_toArray, List.set_cons_zero, List.set_cons_succ])
      refine wpT_nil ?_
      go_wp2_with fail
      refine (neAB _ _ _ (two_new' w5 _ _).1 (two_new' w5 _ _).2).mono ?_
      rintro e w6 ⟨rfl, hB6⟩
      have hB46 : Below w.heap.size w w6 := (hBw4.trans (hB45.mono hBw4.size)).trans ((Below.then (w := w5) (by repeat (first | exact Below.refl _ _ | assumption | refine Below.drew ?_ | refine below_drewN ?_ _ | refine Below.alloc ?_ (by simp <;> omega) _ | refine Below.setCell ?_ (by simp <;> omega) _)) hB6).mono (by omega))
      go_wp2_with fail
      refine NoPanic.normal ?_
      go_wp2_with fail
      go_ret
      exact ⟨rfl, hB46⟩
    · (refine wpT_move rfl (fun K hK => ?_); go_simp; refine hK.out _ _ ?_ ?_)
      · intro b o hb
        exact (show Below w4.heap.size w4 _ from hB45.trans ((show Below w5.heap.size w5 _ from (by repeat (first | exact Below.refl _ _ | assumption | refine Below.drew ?_ | refine below_drewN ?_ _ | refine Below.alloc ?_ (by simp <;> omega) _ | refine Below.setCell ?_ (by simp <;> omega) _))).mono (by omega))).cell (p := ⟨b, o, none⟩) hb
      clear hK K
      (try simp only [Act.put, List.setIfInBounds_toArray, List.set_cons_zero, List.set_cons_succ])
      (refine wpT_move rfl (fun K hK => ?_); go_simp; refine hK.out _ _ ?_ ?_)
      · intro b o hb
        exact (show Below w4.heap.size w4 _ from hB45.trans ((show Below w5.heap.size w5 _ from (by repeat (first | exact Below.refl _ _ | assumption | refine Below.drew ?_ | refine below_drewN ?_ _ | refine Below.alloc ?_ (by simp <;> omega) _ | refine Below.setCell ?_ (by simp <;> omega) _))).mono (by omega))).cell (p := ⟨b, o, none⟩) hb
      clear hK K
      (try simp only [Act.put, List.setIfInBounds_toArray, List.set_cons_zero, List.set_cons_succ])
      refine wpT_nil ?_
      go_wp2_with fail
      refine (neAB _ _ _ (two_new' w5 _ _).2 (two_new' w5 _ _).1).mono ?_
      rintro e w6 ⟨rfl, hB6⟩
      have hB46 : Below w.heap.size w w6 := (hBw4.trans (hB45.mono hBw4.size)).trans ((Below.then (w := w5) (by repeat (first | exact Below.refl _ _ | assumption | refine Below.drew ?_ | refine below_drewN ?_ _ | refine Below.alloc ?_ (by simp <;> omega) _ | refine Below.setCell ?_ (by simp <;> omega) _)) hB6).mono (by omega))
      go_wp2_with fail
      refine NoPanic.normal ?_
      go_wp2_with fail
      go_ret
      exact ⟨rfl, hB46⟩
  · (refine wpT_move rfl (fun K hK => ?_); go_simp; refine hK.out _ _ ?_ ?_)
    · intro b o hb
      exact (show Below w4.heap.size w4 _ from (by repeat (first | exact Below.refl _ _ | assumption | refine Below.drew ?_ | refine below_drewN ?_ _ | refine Below.alloc ?_ (by simp <;> omega) _ | refine Below.setCell ?_ (by simp <;> omega) _))).cell (p := ⟨b, o, none⟩) hb
    clear hK K
    (try simp only [Act.put, List.setIfInBounds_toArray, List.set_cons_zero, List.set_cons_succ])
    (refine wpT_move rfl (fun K hK => ?_); go_simp; refine hK.out _ _ ?_ ?_)
    · intro b o hb
      exact (show Below w4.heap.size w4 _ from (by repeat (first | exact Below.refl _ _ | assumption | refine Below.drew ?_ | refine below_drewN ?_ _ | refine Below.alloc ?_ (by simp <;> omega) _ | refine Below.setCell ?_ (by simp <;> omega) _))).cell (p := ⟨b, o, none⟩) hb
    clear hK K
    (try simp only [Act.put, List.setIfInBounds_toArray, List.set_cons_zero, List.set_cons_succ])
    refine wpT_move rfl (fun K hK => ?_)
    go_simp
    refine (eqAB _ _ _ (two_new w4 _ _).2 (two_new w4 _ _).1).mono ?_
    rintro e w5 ⟨rfl, hB5⟩
    have hB45 : Below w4.heap.size w4 w5 := Below.then (w := w4) (by repeat (first | exact Below.refl _ _ | assumption | refine Below.drew ?_ | refine below_drewN ?_ _ | refine Below.alloc ?_ (by simp <;> omega) _ | refine Below.setCell ?_ (by simp <;> omega) _)) hB5
    refine hK.out _ _ (fun b o hb => hB45.cell (p := ⟨b, o, none⟩) hb) ?_
    have hz5 := hB45.size
    clear hK K
    (try simp only [Act.put, List.setIfInBounds_toArray, List.set_cons_zero, List.set_cons_succ])
    iterate 4 (refine wpT_take rfl ?_ (by rfl) ?_ ?_; rotate_left; (intro w hSw; (try dsimp only at hSw); go_simp; try with_reducible rfl); (try simp only [Act.put, List.setIfInBounds_toArray, List.set_cons_zero, List.set_cons_succ]))
    refine wpT_fork ?_ ?_
    · (refine wpT_move rfl (fun K hK => ?_); go_simp; refine hK.out _ _ ?_ ?_)
      · intro b o hb
        exact (show Below w4.heap.size w4 _ from hB45.trans ((show Below w5.heap.size w5 _ from (by repeat (first | exact Below.refl _ _ | assumption | refine Below.drew ?_ | refine below_drewN ?_ _ | refine Below.alloc ?_ (by simp <;> omega) _ | refine Below.setCell ?_ (by simp <;> omega) _))).mono (by omega))).cell (p := ⟨b, o, none⟩) hb
      clear hK K
      (try simp only [Act.put, List.setIfInBounds_toArray, List.set_cons_zero, List.set_cons_succ])
      (refine wpT_move rfl (fun K hK => ?_); go_simp; refine hK.out _ _ ?_ ?_)
      · intro b o hb
        exact (show Below w4.heap.size w4 _ from hB45.trans ((show Below w5.heap.size w5 _ from (by repeat (first | exact Below.refl _ _ | assumption | refine Below.drew ?_ | refine below_drewN ?_ _ | refine Below.alloc ?_ (by simp <;> omega) _ | refine Below.setCell ?_ (by simp <;> omega) _))).mono (by omega))).cell (p := ⟨b, o, none⟩) hb
      clear hK K
      (try simp only [Act.put, List.setIfInBounds_toArray, List.set_cons_zero, List.set_cons_succ])
      refine wpT_nil ?_
      go_wp2_with fail
      refine (neAB _ _ _ (two_new' w5 _ _).1 (two_new' w5 _ _).2).mono ?_
      rintro e w6 ⟨rfl, hB6⟩
      have hB46 : Below w.heap.size w w6 := (hBw4.trans (hB45.mono hBw4.size)).trans ((Below.then (w := w5) (by repeat (first | exact Below.refl _ _ | assumption | refine Below.drew ?_ | refine below_drewN ?_ _ | refine Below.alloc ?_ (by simp <;> omega) _ | refine Below.setCell ?_ (by simp <;> omega) _)) hB6).mono (by omega))
      go_wp2_with fail
      refine NoPanic.normal ?_
      go_wp2_with fail
      go_ret
      exact ⟨rfl, hB46⟩
    · (refine wpT_move rfl (fun K hK => ?_); go_simp; refine hK.out _ _ ?_ ?_)
      · intro b o hb
        exact (show Below w4.heap.size w4 _ from hB45.trans ((show Below w5.heap.size w5 _ from (by repeat (first | exact Below.refl _ _ | assumption | refine Below.drew ?_ | refine below_drewN ?_ _ | refine Below.alloc ?_ (by simp <;> omega) _ | refine Below.setCell ?_ (by simp <;> omega) _))).mono (by omega))).cell (p := ⟨b, o, none⟩) hb
      clear hK K
      (try simp only [Act.put, List.setIfInBounds_toArray, List.set_cons_zero, List.set_cons_succ])
      (refine wpT_move rfl (fun K hK => ?_); go_simp; refine hK.out _ _ ?_ ?_)
      · intro b o hb
        exact (show Below w4.heap.size w4 _ from hB45.trans ((show Below w5.heap.size w5 _ from (by repeat (first | exact Below.refl _ _ | assumption | refine Below.drew ?_ | refine below_drewN ?_ _ | refine Below.alloc ?_ (by simp <;> omega) _ | refine Below.setCell ?_ (by simp <;> omega) _))).mono (by omega))).cell (p := ⟨b, o, none⟩) hb
      clear hK K
      (try simp only [Act.put, List.setIfInBounds_toArray, List.set_cons_zero, List.set_cons_succ])
      refine wpT_nil ?_
      go_wp2_with fail
      refine (neAB _ _ _ (two_new' w5 _ _).2 (two_new' w5 _ _).1).mono ?_
      rintro e w6 ⟨rfl, hB6⟩
      have hB46 : Below w.heap.size w w6 := (hBw4.trans (hB45.mono hBw4.size)).trans ((Below.then (w := w5) (by repeat (first | exact Below.refl _ _ | assumption | refine Below.drew ?_ | refine below_drewN ?_ _ | refine Below.alloc ?_ (by simp <;> omega) _ | refine Below.setCell ?_ (by simp <;> omega) _)) hB6).mono (by omega))
      go_wp2_with fail
      refine NoPanic.normal ?_
      go_wp2_with fail
      go_ret
      exact ⟨rfl, hB46⟩

end Go.Proofs.Ytaedfidfcoigoaa
