import Derived.Test.YtljmonfobefiiaaGreatDoorQTF4
import Derived.Test.YtljmonfobefiiaaGreatDoorQTG11
/- lives: the example of the section. -/
namespace Go.Proofs.YtljmonfobefiiaaGreatDoor
open Go.RowKit Go.Maps

def q0 : Qn := ⟨0, 0, 0, 1, 0⟩
def ev0 : Ev := ⟨7, 0, 0, ⟨0, 0, 0, 0, 0⟩⟩
theorem q0_ok : q0.ok := by intro n hn; simp [Qn.ints, q0] at hn; unfold InI64; omega
theorem ev0_ok : ev0.ok := by intro n hn; simp [Ev.ints, ev0] at hn; unfold InI64; omega
theorem normT : normA [⟨q0, 2⟩, ⟨q0, 0⟩] = [] := by decide
theorem normU : normA [⟨q0, 2⟩, ⟨q0, 0⟩, ⟨q0, 3⟩] = [⟨q0, 3⟩] := by decide
theorem normU' : normA [⟨q0, 3⟩] = [⟨q0, 3⟩] := by decide
theorem decU : decP (encP [ev0] [⟨q0, 3⟩]) = (([ev0], [⟨q0, 3⟩]), 0) := dec_enc (fun e he => by simp at he; subst he; exact ev0_ok) (fun a ha => by
  simp at ha
  subst ha
  exact ⟨q0_ok, show InI64 3 by unfold InI64; omega⟩) (by simp) (fun a ha => by simp at ha; subst ha; decide) (by simp) (by simp)
theorem encP_byte {evs : List Ev} {r : List Ans} : ∀ c ∈ encP evs r, IsByte c := by
  intro c hc
  unfold encP at hc
  simp only [List.mem_append, List.mem_flatMap] at hc
  have hi : ∀ (l : List Int), c ∈ l.flatMap encI → IsByte c := fun l h => by
    obtain ⟨n, _, h⟩ := List.mem_flatMap.1 h
    exact encU_byte _ c h
  rcases hc with h | ⟨e, _, h⟩ | h | ⟨e, _, h⟩
  · exact encU_byte _ c h
  · exact hi _ h
  · exact encU_byte _ c h
  · exact hi _ h

theorem run_field26 (a b : Value) (w : World) : (Instr.field 32 (.agg #[a, b]) 1).run Tryz.prog w = .ok b w := by
  simp [Instr.field, part, go_sem, asAgg]
theorem ansok3 : ∀ a ∈ ([⟨q0, 3⟩] : List Ans), a.ok := by
  intro a ha
  simp at ha
  subst ha
  exact ⟨q0_ok, show InI64 3 by unfold InI64; omega⟩
theorem encP_length {evs : List Ev} {r : List Ans} (he : ∀ e ∈ evs, e.ok) (hr : ∀ a ∈ r, a.ok) (h1 : evs.length ≤ 1000000) (h2 : r.length ≤ 1000000) : (encP evs r).length ≤ 20 + evs.length * 80 + r.length * 60 := by
  have a1 : (encU evs.length).length ≤ 10 := encU_length _ 9 (by omega)
  have a2 : (encU r.length).length ≤ 10 := encU_length _ 9 (by omega)
  have a3 := encEvs_length evs he
  have a4 := encAs_length r hr
  unfold encP
  rw [List.length_append, List.length_append, List.length_append]
  omega
theorem encP_len : (encP [ev0] [⟨q0, 3⟩]).length ≤ 1000000 := by
  have := encP_length (evs := [ev0]) (fun e he => by simp at he; subst he; exact ev0_ok) ansok3 (by simp) (by simp)
  simp at this
  omega
theorem ansok : ∀ a ∈ ([⟨q0, 2⟩, ⟨q0, 0⟩] ++ [⟨q0, 3⟩] : List Ans), a.ok := by
  intro a ha
  simp at ha
  rcases ha with rfl | rfl | rfl
  · exact ⟨q0_ok, show InI64 2 by unfold InI64; omega⟩
  · exact ⟨q0_ok, show InI64 0 by unfold InI64; omega⟩
  · exact ⟨q0_ok, show InI64 3 by unfold InI64; omega⟩

end Go.Proofs.YtljmonfobefiiaaGreatDoor
