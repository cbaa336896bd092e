/- The six laws of chapter 18 (audit), walked over the given program; no condition but what stands in each theorem: part B. -/
import Derived.Test.YtdfgedkjilpcgaaDoorRA
set_option linter.unusedVariables false
set_option linter.unusedSimpArgs false
set_option maxRecDepth 100000
set_option maxHeartbeats 8000000
namespace Go.Proofs.YtdfgedkjilpcgaaDoor
open Go Go.Sl Go.RowKit Go.Extern.Stop Go.Stop Go.Extern Go.Shelf
theorem eqin_Lab (d : Nat) (a b : Lab) (w : World) : (Op.equalIn (d + 2) 26 (.agg #[.int .i64 a.lv, .int .u64 (a.cs : Int), .int .i64 a.ig]) (.agg #[.int .i64 b.lv, .int .u64 (b.cs : Int), .int .i64 b.ig])).run Tryd.prog w = .ok (decide (a = b)) w := by
  have hS : Tryd.prog.underlying 26 = some (.struct (Tryd.prog.fieldsOf 26)) := by kernel_rfl
  have hp : Tryd.prog.stoodInHeld 26 = false := by kernel_rfl
  rw [run_equalIn_agg w (d + 1) 26 _ _ hS hp]
  simp only [Program.fieldsOf, Tryd.underlying26]
  have u0 := Tryd.underlying3
  have a0 := Tryd.isAgg3
  have z0 := Tryd.sizeOf3
  have u1 := Tryd.underlying24
  have a1 := Tryd.isAgg24
  have z1 := Tryd.sizeOf24
  obtain ⟨p0, p1, p2⟩ := a
  obtain ⟨q0, q1, q2⟩ := b
  go_simp
  by_cases h0 : p0 = q0
  · by_cases h1 : p1 = q1
    · by_cases h2 : p2 = q2
      · simp [h0, h1, h2]
      · simp [h0, h1, h2]
    · have : ¬ ((p1 : Int) = (q1 : Int)) := by omega
      simp [h0, h1, this]
  · simp [h0]
theorem eq_Lab {x y : Operand} (a b : Lab) (w : World) : (do eqGuard .eql 26 x y (.agg #[.int .i64 a.lv, .int .u64 (a.cs : Int), .int .i64 a.ig]) (.agg #[.int .i64 b.lv, .int .u64 (b.cs : Int), .int .i64 b.ig]); binOp .eql 26 (.agg #[.int .i64 a.lv, .int .u64 (a.cs : Int), .int .i64 a.ig]) (.agg #[.int .i64 b.lv, .int .u64 (b.cs : Int), .int .i64 b.ig]) : Sem Value).run Tryd.prog w = .ok (.bool (decide (a = b))) w := by
  have h := eqin_Lab 9998 a b w
  rw [Sem.run_bind, run_eqGuard_agg w .eql 26 x y _ _ (by kernel_rfl), Result.andThen_ok, run_eql_struct]
  simp only [show 9998 + 2 = 10000 from rfl] at h
  rw [h]
  rfl
theorem eq_Labn {x y : Operand} (a b : Lab) (w : World) : (do eqGuard .neq 26 x y (.agg #[.int .i64 a.lv, .int .u64 (a.cs : Int), .int .i64 a.ig]) (.agg #[.int .i64 b.lv, .int .u64 (b.cs : Int), .int .i64 b.ig]); binOp .neq 26 (.agg #[.int .i64 a.lv, .int .u64 (a.cs : Int), .int .i64 a.ig]) (.agg #[.int .i64 b.lv, .int .u64 (b.cs : Int), .int .i64 b.ig]) : Sem Value).run Tryd.prog w = .ok (.bool (!decide (a = b))) w := by
  have h := eqin_Lab 9998 a b w
  rw [Sem.run_bind, run_eqGuard_agg w .neq 26 x y _ _ (by kernel_rfl), Result.andThen_ok, run_neq_struct]
  simp only [show 9998 + 2 = 10000 from rfl] at h
  rw [h]
  rfl
theorem eqin_Rec (d : Nat) (a b : Rec) (w : World) : (Op.equalIn (d + 3) 28 (.agg #[.int .i64 a.st, .int .i64 a.who, .int .i64 a.op, .int .i64 a.e, .int .i64 a.lab.lv, .int .u64 (a.lab.cs : Int), .int .i64 a.lab.ig]) (.agg #[.int .i64 b.st, .int .i64 b.who, .int .i64 b.op, .int .i64 b.e, .int .i64 b.lab.lv, .int .u64 (b.lab.cs : Int), .int .i64 b.lab.ig])).run Tryd.prog w = .ok (decide (a = b)) w := by
  have hS : Tryd.prog.underlying 28 = some (.struct (Tryd.prog.fieldsOf 28)) := by kernel_rfl
  have hp : Tryd.prog.stoodInHeld 28 = false := by kernel_rfl
  rw [run_equalIn_agg w (d + 2) 28 _ _ hS hp]
  simp only [Program.fieldsOf, Tryd.underlying28]
  have u0 := Tryd.underlying3
  have a0 := Tryd.isAgg3
  have z0 := Tryd.sizeOf3
  have u1 := Tryd.underlying23
  have a1 := Tryd.isAgg23
  have z1 := Tryd.sizeOf23
  have a2 := Tryd.isAgg26
  have z2 := Tryd.sizeOf26
  have e4 := fun (w : World) => eqin_Lab (d + 0) a.lab b.lab w
  obtain ⟨p0, p1, p2, p3, p4⟩ := a
  obtain ⟨q0, q1, q2, q3, q4⟩ := b
  go_simp
  try simp only [e4]
  by_cases h0 : p0 = q0
  · by_cases h1 : p1 = q1
    · by_cases h2 : p2 = q2
      · by_cases h3 : p3 = q3
        · by_cases h4 : p4 = q4
          · simp [h0, h1, h2, h3, h4]
          · simp [h0, h1, h2, h3, h4]
        · simp [h0, h1, h2, h3]
      · simp [h0, h1, h2]
    · simp [h0, h1]
  · simp [h0]
theorem eq_Rec {x y : Operand} (a b : Rec) (w : World) : (do eqGuard .eql 28 x y (.agg #[.int .i64 a.st, .int .i64 a.who, .int .i64 a.op, .int .i64 a.e, .int .i64 a.lab.lv, .int .u64 (a.lab.cs : Int), .int .i64 a.lab.ig]) (.agg #[.int .i64 b.st, .int .i64 b.who, .int .i64 b.op, .int .i64 b.e, .int .i64 b.lab.lv, .int .u64 (b.lab.cs : Int), .int .i64 b.lab.ig]); binOp .eql 28 (.agg #[.int .i64 a.st, .int .i64 a.who, .int .i64 a.op, .int .i64 a.e, .int .i64 a.lab.lv, .int .u64 (a.lab.cs : Int), .int .i64 a.lab.ig]) (.agg #[.int .i64 b.st, .int .i64 b.who, .int .i64 b.op, .int .i64 b.e, .int .i64 b.lab.lv, .int .u64 (b.lab.cs : Int), .int .i64 b.lab.ig]) : Sem Value).run Tryd.prog w = .ok (.bool (decide (a = b))) w := by
  have h := eqin_Rec 9997 a b w
  rw [Sem.run_bind, run_eqGuard_agg w .eql 28 x y _ _ (by kernel_rfl), Result.andThen_ok, run_eql_struct]
  simp only [show 9997 + 3 = 10000 from rfl] at h
  rw [h]
  rfl
theorem eq_Recn {x y : Operand} (a b : Rec) (w : World) : (do eqGuard .neq 28 x y (.agg #[.int .i64 a.st, .int .i64 a.who, .int .i64 a.op, .int .i64 a.e, .int .i64 a.lab.lv, .int .u64 (a.lab.cs : Int), .int .i64 a.lab.ig]) (.agg #[.int .i64 b.st, .int .i64 b.who, .int .i64 b.op, .int .i64 b.e, .int .i64 b.lab.lv, .int .u64 (b.lab.cs : Int), .int .i64 b.lab.ig]); binOp .neq 28 (.agg #[.int .i64 a.st, .int .i64 a.who, .int .i64 a.op, .int .i64 a.e, .int .i64 a.lab.lv, .int .u64 (a.lab.cs : Int), .int .i64 a.lab.ig]) (.agg #[.int .i64 b.st, .int .i64 b.who, .int .i64 b.op, .int .i64 b.e, .int .i64 b.lab.lv, .int .u64 (b.lab.cs : Int), .int .i64 b.lab.ig]) : Sem Value).run Tryd.prog w = .ok (.bool (!decide (a = b))) w := by
  have h := eqin_Rec 9997 a b w
  rw [Sem.run_bind, run_eqGuard_agg w .neq 28 x y _ _ (by kernel_rfl), Result.andThen_ok, run_neq_struct]
  simp only [show 9997 + 3 = 10000 from rfl] at h
  rw [h]
  rfl
end Go.Proofs.YtdfgedkjilpcgaaDoor
