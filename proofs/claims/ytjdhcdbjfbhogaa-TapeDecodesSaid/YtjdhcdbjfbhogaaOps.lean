/- Equality of structs of integers, as one step of the walk each. -/
import Derived.Test.YtjdhcdbjfbhogaaBase
import Derived.Test.YtjdhcdbjfbhogaaProg
import Derived.WalkLawsBesides
namespace Go.Proofs.Ytjdhcdbjfbhogaa
open Go.RowKit
/-- Lists of integers are equal: a plain name, which the walk does not open. -/
def eqL (a b : List Int) : Bool := decide (a = b)
theorem eqL_true {a b : List Int} (h : a = b) : eqL a b = true := by simp [eqL, h]
theorem eqL_false {a b : List Int} (h : a ≠ b) : eqL a b = false := by simp [eqL, h]

theorem run_eql_52 (a0 a1 a2 b0 b1 b2 : Int) (w : World) : (binOp .eql 52 (.agg #[I a0, I a1, I a2]) (.agg #[I b0, I b1, I b2])).run Try.prog w = .ok (.bool (eqL [a0, a1, a2] [b0, b1, b2])) w := by
  simp [go_sem, eqL]
  repeat' split
  all_goals simp_all
attribute [go_sem high] run_eql_52

theorem run_neq_52 (a0 a1 a2 b0 b1 b2 : Int) (w : World) : (binOp .neq 52 (.agg #[I a0, I a1, I a2]) (.agg #[I b0, I b1, I b2])).run Try.prog w = .ok (.bool (!eqL [a0, a1, a2] [b0, b1, b2])) w := by
  simp [go_sem, eqL]
  repeat' split
  all_goals simp_all
attribute [go_sem high] run_neq_52

theorem run_eql_54 (a0 a1 a2 a3 a4 b0 b1 b2 b3 b4 : Int) (w : World) : (binOp .eql 54 (.agg #[I a0, I a1, I a2, I a3, I a4]) (.agg #[I b0, I b1, I b2, I b3, I b4])).run Try.prog w = .ok (.bool (eqL [a0, a1, a2, a3, a4] [b0, b1, b2, b3, b4])) w := by
  simp [go_sem, eqL]
  repeat' split
  all_goals simp_all
attribute [go_sem high] run_eql_54

theorem run_neq_54 (a0 a1 a2 a3 a4 b0 b1 b2 b3 b4 : Int) (w : World) : (binOp .neq 54 (.agg #[I a0, I a1, I a2, I a3, I a4]) (.agg #[I b0, I b1, I b2, I b3, I b4])).run Try.prog w = .ok (.bool (!eqL [a0, a1, a2, a3, a4] [b0, b1, b2, b3, b4])) w := by
  simp [go_sem, eqL]
  repeat' split
  all_goals simp_all
attribute [go_sem high] run_neq_54

theorem run_eql_56 (a0 a1 a2 a3 a4 a5 a6 a7 b0 b1 b2 b3 b4 b5 b6 b7 : Int) (w : World) : (binOp .eql 56 (.agg #[I a0, I a1, I a2, I a3, I a4, I a5, I a6, I a7]) (.agg #[I b0, I b1, I b2, I b3, I b4, I b5, I b6, I b7])).run Try.prog w = .ok (.bool (eqL [a0, a1, a2, a3, a4, a5, a6, a7] [b0, b1, b2, b3, b4, b5, b6, b7])) w := by
  simp [go_sem, eqL]
  repeat' split
  all_goals simp_all
attribute [go_sem high] run_eql_56

theorem run_neq_56 (a0 a1 a2 a3 a4 a5 a6 a7 b0 b1 b2 b3 b4 b5 b6 b7 : Int) (w : World) : (binOp .neq 56 (.agg #[I a0, I a1, I a2, I a3, I a4, I a5, I a6, I a7]) (.agg #[I b0, I b1, I b2, I b3, I b4, I b5, I b6, I b7])).run Try.prog w = .ok (.bool (!eqL [a0, a1, a2, a3, a4, a5, a6, a7] [b0, b1, b2, b3, b4, b5, b6, b7])) w := by
  simp [go_sem, eqL]
  repeat' split
  all_goals simp_all
attribute [go_sem high] run_neq_56

theorem run_eql_66 (a0 a1 a2 a3 a4 b0 b1 b2 b3 b4 : Int) (w : World) : (binOp .eql 66 (.agg #[I a0, I a1, I a2, I a3, I a4]) (.agg #[I b0, I b1, I b2, I b3, I b4])).run Try.prog w = .ok (.bool (eqL [a0, a1, a2, a3, a4] [b0, b1, b2, b3, b4])) w := by
  simp [go_sem, eqL]
  repeat' split
  all_goals simp_all
attribute [go_sem high] run_eql_66

theorem run_neq_66 (a0 a1 a2 a3 a4 b0 b1 b2 b3 b4 : Int) (w : World) : (binOp .neq 66 (.agg #[I a0, I a1, I a2, I a3, I a4]) (.agg #[I b0, I b1, I b2, I b3, I b4])).run Try.prog w = .ok (.bool (!eqL [a0, a1, a2, a3, a4] [b0, b1, b2, b3, b4])) w := by
  simp [go_sem, eqL]
  repeat' split
  all_goals simp_all
attribute [go_sem high] run_neq_66

theorem run_eql_111 (a0 a1 a2 a3 a4 a5 a6 b0 b1 b2 b3 b4 b5 b6 : Int) (w : World) : (binOp .eql 111 (.agg #[I a0, I a1, I a2, I a3, I a4, I a5, I a6]) (.agg #[I b0, I b1, I b2, I b3, I b4, I b5, I b6])).run Try.prog w = .ok (.bool (eqL [a0, a1, a2, a3, a4, a5, a6] [b0, b1, b2, b3, b4, b5, b6])) w := by
  simp [go_sem, eqL]
  repeat' split
  all_goals simp_all
attribute [go_sem high] run_eql_111

theorem run_neq_111 (a0 a1 a2 a3 a4 a5 a6 b0 b1 b2 b3 b4 b5 b6 : Int) (w : World) : (binOp .neq 111 (.agg #[I a0, I a1, I a2, I a3, I a4, I a5, I a6]) (.agg #[I b0, I b1, I b2, I b3, I b4, I b5, I b6])).run Try.prog w = .ok (.bool (!eqL [a0, a1, a2, a3, a4, a5, a6] [b0, b1, b2, b3, b4, b5, b6])) w := by
  simp [go_sem, eqL]
  repeat' split
  all_goals simp_all
attribute [go_sem high] run_neq_111


/-- What the tables say of the element types. -/
theorem info3 : (Try.prog.info? 3).map (fun i => (i.zero, i.size, i.bytes)) = some (some (.int .i64 0), 1, 8) := by kernel_rfl
theorem info54 : (Try.prog.info? 54).map (fun i => (i.zero, i.size, i.bytes)) = some (some (.agg #[.int .i64 0, .int .i64 0, .int .i64 0, .int .i64 0, .int .i64 0]), 5, 40) := by kernel_rfl
theorem info111 : (Try.prog.info? 111).map (fun i => (i.zero, i.size, i.bytes)) = some (some (.agg #[.int .i64 0, .int .i64 0, .int .i64 0, .int .i64 0, .int .i64 0, .int .i64 0, .int .i64 0]), 7, 56) := by kernel_rfl
theorem info60 : (Try.prog.info? 60).map (fun i => (i.zero, i.size, i.bytes)) = some (some (.agg #[.int .i64 0, .int .i64 0, .int .i64 0, .int .i64 0, .int .i64 0, .int .i64 0, .int .i64 0, .int .i64 0, .slice none 0 0, .bool false, .slice none 0 0]), 11, 120) := by kernel_rfl
end Go.Proofs.Ytjdhcdbjfbhogaa
