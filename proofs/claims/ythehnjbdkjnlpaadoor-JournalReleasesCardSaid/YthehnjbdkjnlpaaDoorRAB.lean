/- The laws of chapter 15 (journal), walked over the given program; no condition but what stands in each theorem: part AB. -/
import Derived.Test.YthehnjbdkjnlpaaDoorRA
set_option linter.unusedVariables false
set_option linter.unusedSimpArgs false
set_option maxRecDepth 100000
set_option maxHeartbeats 8000000
namespace Go.Proofs.YthehnjbdkjnlpaaDoor
open Go Go.Sl Go.RowKit Go.Extern.Stop Go.Stop Go.Extern
theorem eqin_Lab (d : Nat) (a b : Lab) (w : World) : (Op.equalIn (d + 2) 26 (.agg #[.int .i64 a.lv, .int .u64 (a.cs : Int), .int .i64 a.ig]) (.agg #[.int .i64 b.lv, .int .u64 (b.cs : Int), .int .i64 b.ig])).run Tryd.prog w = .ok (decide (a = b)) w := by
  have hS : Tryd.prog.underlying 26 = some (.struct (Tryd.prog.fieldsOf 26)) := by kernel_rfl
  have hp : Tryd.prog.stoodInHeld 26 = false := by kernel_rfl
  rw [run_equalIn_agg w (d + 1) 26 _ _ hS hp]
  simp only [Program.fieldsOf, Tryd.underlying26]
  have u0 := Tryd.underlying3
  have a0 := Tryd.isAgg3
  have z0 := Tryd.sizeOf3
  have u1 := Tryd.underlying24
  have a1 := Tryd.isAgg24
  have z1 := Tryd.sizeOf24
  obtain ⟨p0, p1, p2⟩ := a
  obtain ⟨q0, q1, q2⟩ := b
  go_simp
  by_cases h0 : p0 = q0
  · by_cases h1 : p1 = q1
    · by_cases h2 : p2 = q2
      · simp [h0, h1, h2]
      · simp [h0, h1, h2]
    · have : ¬ ((p1 : Int) = (q1 : Int)) := by omega
      simp [h0, h1, this]
  · simp [h0]
theorem eq_Lab {x y : Operand} (a b : Lab) (w : World) : (do eqGuard .eql 26 x y (.agg #[.int .i64 a.lv, .int .u64 (a.cs : Int), .int .i64 a.ig]) (.agg #[.int .i64 b.lv, .int .u64 (b.cs : Int), .int .i64 b.ig]); binOp .eql 26 (.agg #[.int .i64 a.lv, .int .u64 (a.cs : Int), .int .i64 a.ig]) (.agg #[.int .i64 b.lv, .int .u64 (b.cs : Int), .int .i64 b.ig]) : Sem Value).run Tryd.prog w = .ok (.bool (decide (a = b))) w := by
  have h := eqin_Lab 9998 a b w
  rw [Sem.run_bind, run_eqGuard_agg w .eql 26 x y _ _ (by kernel_rfl), Result.andThen_ok, run_eql_struct]
  simp only [show 9998 + 2 = 10000 from rfl] at h
  rw [h]
  rfl
theorem eq_Labn {x y : Operand} (a b : Lab) (w : World) : (do eqGuard .neq 26 x y (.agg #[.int .i64 a.lv, .int .u64 (a.cs : Int), .int .i64 a.ig]) (.agg #[.int .i64 b.lv, .int .u64 (b.cs : Int), .int .i64 b.ig]); binOp .neq 26 (.agg #[.int .i64 a.lv, .int .u64 (a.cs : Int), .int .i64 a.ig]) (.agg #[.int .i64 b.lv, .int .u64 (b.cs : Int), .int .i64 b.ig]) : Sem Value).run Tryd.prog w = .ok (.bool (!decide (a = b))) w := by
  have h := eqin_Lab 9998 a b w
  rw [Sem.run_bind, run_eqGuard_agg w .neq 26 x y _ _ (by kernel_rfl), Result.andThen_ok, run_neq_struct]
  simp only [show 9998 + 2 = 10000 from rfl] at h
  rw [h]
  rfl
theorem eqin_Fil (d : Nat) (a b : Fil) (w : World) : (Op.equalIn (d + 2) 39 (.agg #[.int .i64 a.kd, .int .i64 a.mx, .string a.fm]) (.agg #[.int .i64 b.kd, .int .i64 b.mx, .string b.fm])).run Tryd.prog w = .ok (decide (a = b)) w := by
  have hS : Tryd.prog.underlying 39 = some (.struct (Tryd.prog.fieldsOf 39)) := by kernel_rfl
  have hp : Tryd.prog.stoodInHeld 39 = false := by kernel_rfl
  rw [run_equalIn_agg w (d + 1) 39 _ _ hS hp]
  simp only [Program.fieldsOf, Tryd.underlying39]
  have u0 := Tryd.underlying3
  have a0 := Tryd.isAgg3
  have z0 := Tryd.sizeOf3
  have u1 := Tryd.underlying9
  have a1 := Tryd.isAgg9
  have z1 := Tryd.sizeOf9
  obtain ⟨p0, p1, p2⟩ := a
  obtain ⟨q0, q1, q2⟩ := b
  go_simp
  by_cases h0 : p0 = q0
  · by_cases h1 : p1 = q1
    · by_cases h2 : p2 = q2
      · simp [h0, h1, h2]
      · have : ¬ (p2.toList = q2.toList) := fun h => h2 (str_inj h)
        simp [h0, h1, h2, this]
    · simp [h0, h1]
  · simp [h0]
theorem eq_Fil {x y : Operand} (a b : Fil) (w : World) : (do eqGuard .eql 39 x y (.agg #[.int .i64 a.kd, .int .i64 a.mx, .string a.fm]) (.agg #[.int .i64 b.kd, .int .i64 b.mx, .string b.fm]); binOp .eql 39 (.agg #[.int .i64 a.kd, .int .i64 a.mx, .string a.fm]) (.agg #[.int .i64 b.kd, .int .i64 b.mx, .string b.fm]) : Sem Value).run Tryd.prog w = .ok (.bool (decide (a = b))) w := by
  have h := eqin_Fil 9998 a b w
  rw [Sem.run_bind, run_eqGuard_agg w .eql 39 x y _ _ (by kernel_rfl), Result.andThen_ok, run_eql_struct]
  simp only [show 9998 + 2 = 10000 from rfl] at h
  rw [h]
  rfl
theorem eq_Filn {x y : Operand} (a b : Fil) (w : World) : (do eqGuard .neq 39 x y (.agg #[.int .i64 a.kd, .int .i64 a.mx, .string a.fm]) (.agg #[.int .i64 b.kd, .int .i64 b.mx, .string b.fm]); binOp .neq 39 (.agg #[.int .i64 a.kd, .int .i64 a.mx, .string a.fm]) (.agg #[.int .i64 b.kd, .int .i64 b.mx, .string b.fm]) : Sem Value).run Tryd.prog w = .ok (.bool (!decide (a = b))) w := by
  have h := eqin_Fil 9998 a b w
  rw [Sem.run_bind, run_eqGuard_agg w .neq 39 x y _ _ (by kernel_rfl), Result.andThen_ok, run_neq_struct]
  simp only [show 9998 + 2 = 10000 from rfl] at h
  rw [h]
  rfl
theorem eqin_Rul (d : Nat) (a b : Rul) (w : World) : (Op.equalIn (d + 3) 41 (.agg #[.int .i64 a.id, .int .i64 a.fr.lv, .int .u64 (a.fr.cs : Int), .int .i64 a.fr.ig, .int .i64 a.to.lv, .int .u64 (a.to.cs : Int), .int .i64 a.to.ig, .int .i64 a.bu, .int .i64 a.wh.kd, .int .i64 a.wh.mx, .string a.wh.fm]) (.agg #[.int .i64 b.id, .int .i64 b.fr.lv, .int .u64 (b.fr.cs : Int), .int .i64 b.fr.ig, .int .i64 b.to.lv, .int .u64 (b.to.cs : Int), .int .i64 b.to.ig, .int .i64 b.bu, .int .i64 b.wh.kd, .int .i64 b.wh.mx, .string b.wh.fm])).run Tryd.prog w = .ok (decide (a = b)) w := by
  have hS : Tryd.prog.underlying 41 = some (.struct (Tryd.prog.fieldsOf 41)) := by kernel_rfl
  have hp : Tryd.prog.stoodInHeld 41 = false := by kernel_rfl
  rw [run_equalIn_agg w (d + 2) 41 _ _ hS hp]
  simp only [Program.fieldsOf, Tryd.underlying41]
  have u0 := Tryd.underlying3
  have a0 := Tryd.isAgg3
  have z0 := Tryd.sizeOf3
  have a1 := Tryd.isAgg26
  have z1 := Tryd.sizeOf26
  have a2 := Tryd.isAgg39
  have z2 := Tryd.sizeOf39
  have e1 := fun (w : World) => eqin_Lab (d + 0) a.fr b.fr w
  have e2 := fun (w : World) => eqin_Lab (d + 0) a.to b.to w
  have e4 := fun (w : World) => eqin_Fil (d + 0) a.wh b.wh w
  obtain ⟨p0, p1, p2, p3, p4⟩ := a
  obtain ⟨q0, q1, q2, q3, q4⟩ := b
  go_simp
  try simp only [e1, e2, e4]
  by_cases h0 : p0 = q0
  · by_cases h1 : p1 = q1
    · by_cases h2 : p2 = q2
      · by_cases h3 : p3 = q3
        · by_cases h4 : p4 = q4
          · simp [h0, h1, h2, h3, h4]
          · simp [h0, h1, h2, h3, h4]
        · simp [h0, h1, h2, h3]
      · simp [h0, h1, h2]
    · simp [h0, h1]
  · simp [h0]
theorem eq_Rul {x y : Operand} (a b : Rul) (w : World) : (do eqGuard .eql 41 x y (.agg #[.int .i64 a.id, .int .i64 a.fr.lv, .int .u64 (a.fr.cs : Int), .int .i64 a.fr.ig, .int .i64 a.to.lv, .int .u64 (a.to.cs : Int), .int .i64 a.to.ig, .int .i64 a.bu, .int .i64 a.wh.kd, .int .i64 a.wh.mx, .string a.wh.fm]) (.agg #[.int .i64 b.id, .int .i64 b.fr.lv, .int .u64 (b.fr.cs : Int), .int .i64 b.fr.ig, .int .i64 b.to.lv, .int .u64 (b.to.cs : Int), .int .i64 b.to.ig, .int .i64 b.bu, .int .i64 b.wh.kd, .int .i64 b.wh.mx, .string b.wh.fm]); binOp .eql 41 (.agg #[.int .i64 a.id, .int .i64 a.fr.lv, .int .u64 (a.fr.cs : Int), .int .i64 a.fr.ig, .int .i64 a.to.lv, .int .u64 (a.to.cs : Int), .int .i64 a.to.ig, .int .i64 a.bu, .int .i64 a.wh.kd, .int .i64 a.wh.mx, .string a.wh.fm]) (.agg #[.int .i64 b.id, .int .i64 b.fr.lv, .int .u64 (b.fr.cs : Int), .int .i64 b.fr.ig, .int .i64 b.to.lv, .int .u64 (b.to.cs : Int), .int .i64 b.to.ig, .int .i64 b.bu, .int .i64 b.wh.kd, .int .i64 b.wh.mx, .string b.wh.fm]) : Sem Value).run Tryd.prog w = .ok (.bool (decide (a = b))) w := by
  have h := eqin_Rul 9997 a b w
  rw [Sem.run_bind, run_eqGuard_agg w .eql 41 x y _ _ (by kernel_rfl), Result.andThen_ok, run_eql_struct]
  simp only [show 9997 + 3 = 10000 from rfl] at h
  rw [h]
  rfl
theorem eq_Ruln {x y : Operand} (a b : Rul) (w : World) : (do eqGuard .neq 41 x y (.agg #[.int .i64 a.id, .int .i64 a.fr.lv, .int .u64 (a.fr.cs : Int), .int .i64 a.fr.ig, .int .i64 a.to.lv, .int .u64 (a.to.cs : Int), .int .i64 a.to.ig, .int .i64 a.bu, .int .i64 a.wh.kd, .int .i64 a.wh.mx, .string a.wh.fm]) (.agg #[.int .i64 b.id, .int .i64 b.fr.lv, .int .u64 (b.fr.cs : Int), .int .i64 b.fr.ig, .int .i64 b.to.lv, .int .u64 (b.to.cs : Int), .int .i64 b.to.ig, .int .i64 b.bu, .int .i64 b.wh.kd, .int .i64 b.wh.mx, .string b.wh.fm]); binOp .neq 41 (.agg #[.int .i64 a.id, .int .i64 a.fr.lv, .int .u64 (a.fr.cs : Int), .int .i64 a.fr.ig, .int .i64 a.to.lv, .int .u64 (a.to.cs : Int), .int .i64 a.to.ig, .int .i64 a.bu, .int .i64 a.wh.kd, .int .i64 a.wh.mx, .string a.wh.fm]) (.agg #[.int .i64 b.id, .int .i64 b.fr.lv, .int .u64 (b.fr.cs : Int), .int .i64 b.fr.ig, .int .i64 b.to.lv, .int .u64 (b.to.cs : Int), .int .i64 b.to.ig, .int .i64 b.bu, .int .i64 b.wh.kd, .int .i64 b.wh.mx, .string b.wh.fm]) : Sem Value).run Tryd.prog w = .ok (.bool (!decide (a = b))) w := by
  have h := eqin_Rul 9997 a b w
  rw [Sem.run_bind, run_eqGuard_agg w .neq 41 x y _ _ (by kernel_rfl), Result.andThen_ok, run_neq_struct]
  simp only [show 9997 + 3 = 10000 from rfl] at h
  rw [h]
  rfl
theorem eqin_Jen (d : Nat) (a b : Jen) (w : World) : (Op.equalIn (d + 3) 46 (.agg #[.int .i64 a.st, .int .i64 a.ru, .int .i64 a.to.lv, .int .u64 (a.to.cs : Int), .int .i64 a.to.ig, .string a.da]) (.agg #[.int .i64 b.st, .int .i64 b.ru, .int .i64 b.to.lv, .int .u64 (b.to.cs : Int), .int .i64 b.to.ig, .string b.da])).run Tryd.prog w = .ok (decide (a = b)) w := by
  have hS : Tryd.prog.underlying 46 = some (.struct (Tryd.prog.fieldsOf 46)) := by kernel_rfl
  have hp : Tryd.prog.stoodInHeld 46 = false := by kernel_rfl
  rw [run_equalIn_agg w (d + 2) 46 _ _ hS hp]
  simp only [Program.fieldsOf, Tryd.underlying46]
  have u0 := Tryd.underlying3
  have a0 := Tryd.isAgg3
  have z0 := Tryd.sizeOf3
  have u1 := Tryd.underlying9
  have a1 := Tryd.isAgg9
  have z1 := Tryd.sizeOf9
  have a2 := Tryd.isAgg26
  have z2 := Tryd.sizeOf26
  have e2 := fun (w : World) => eqin_Lab (d + 0) a.to b.to w
  obtain ⟨p0, p1, p2, p3⟩ := a
  obtain ⟨q0, q1, q2, q3⟩ := b
  go_simp
  try simp only [e2]
  by_cases h0 : p0 = q0
  · by_cases h1 : p1 = q1
    · by_cases h2 : p2 = q2
      · by_cases h3 : p3 = q3
        · simp [h0, h1, h2, h3]
        · have : ¬ (p3.toList = q3.toList) := fun h => h3 (str_inj h)
          simp [h0, h1, h2, h3, this]
      · simp [h0, h1, h2]
    · simp [h0, h1]
  · simp [h0]
theorem eq_Jen {x y : Operand} (a b : Jen) (w : World) : (do eqGuard .eql 46 x y (.agg #[.int .i64 a.st, .int .i64 a.ru, .int .i64 a.to.lv, .int .u64 (a.to.cs : Int), .int .i64 a.to.ig, .string a.da]) (.agg #[.int .i64 b.st, .int .i64 b.ru, .int .i64 b.to.lv, .int .u64 (b.to.cs : Int), .int .i64 b.to.ig, .string b.da]); binOp .eql 46 (.agg #[.int .i64 a.st, .int .i64 a.ru, .int .i64 a.to.lv, .int .u64 (a.to.cs : Int), .int .i64 a.to.ig, .string a.da]) (.agg #[.int .i64 b.st, .int .i64 b.ru, .int .i64 b.to.lv, .int .u64 (b.to.cs : Int), .int .i64 b.to.ig, .string b.da]) : Sem Value).run Tryd.prog w = .ok (.bool (decide (a = b))) w := by
  have h := eqin_Jen 9997 a b w
  rw [Sem.run_bind, run_eqGuard_agg w .eql 46 x y _ _ (by kernel_rfl), Result.andThen_ok, run_eql_struct]
  simp only [show 9997 + 3 = 10000 from rfl] at h
  rw [h]
  rfl
theorem eq_Jenn {x y : Operand} (a b : Jen) (w : World) : (do eqGuard .neq 46 x y (.agg #[.int .i64 a.st, .int .i64 a.ru, .int .i64 a.to.lv, .int .u64 (a.to.cs : Int), .int .i64 a.to.ig, .string a.da]) (.agg #[.int .i64 b.st, .int .i64 b.ru, .int .i64 b.to.lv, .int .u64 (b.to.cs : Int), .int .i64 b.to.ig, .string b.da]); binOp .neq 46 (.agg #[.int .i64 a.st, .int .i64 a.ru, .int .i64 a.to.lv, .int .u64 (a.to.cs : Int), .int .i64 a.to.ig, .string a.da]) (.agg #[.int .i64 b.st, .int .i64 b.ru, .int .i64 b.to.lv, .int .u64 (b.to.cs : Int), .int .i64 b.to.ig, .string b.da]) : Sem Value).run Tryd.prog w = .ok (.bool (!decide (a = b))) w := by
  have h := eqin_Jen 9997 a b w
  rw [Sem.run_bind, run_eqGuard_agg w .neq 46 x y _ _ (by kernel_rfl), Result.andThen_ok, run_neq_struct]
  simp only [show 9997 + 3 = 10000 from rfl] at h
  rw [h]
  rfl
end Go.Proofs.YthehnjbdkjnlpaaDoor
