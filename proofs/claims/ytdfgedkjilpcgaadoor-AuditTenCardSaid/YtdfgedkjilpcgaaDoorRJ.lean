/- The six laws of chapter 18 (audit), walked over the given program; no condition but what stands in each theorem: part J. -/
import Derived.Test.YtdfgedkjilpcgaaDoorRH
set_option linter.unusedVariables false
set_option linter.unusedSimpArgs false
set_option maxRecDepth 100000
set_option maxHeartbeats 8000000
namespace Go.Proofs.YtdfgedkjilpcgaaDoor
open Go Go.Sl Go.RowKit Go.Extern.Stop Go.Stop Go.Extern Go.Shelf
def lays156_ren : Go.Shelf.Ren := ⟨fun | 156 => 34 | 165 => 48 | 166 => 49 | 169 => 50 | 240 => 58 | 241 => 59 | 276 => 62 | 277 => 63 | n => n, fun | 31 => 35 | 9 => 9 | 3 => 3 | 4 => 4 | 0 => 0 | 20 => 20 | 72 => 74 | 76 => 76 | 70 => 71 | 37 => 72 | 75 => 53 | 127 => 90 | 164 => 103 | 5 => 5 | 80 => 78 | n => n, fun | n => n⟩
theorem lays156 : Go.Proofs.Lays.n156 Tryd.prog lays156_ren := {
  mixed := by kernel_rfl
  f156 := Tryd.func34.trans (congrArg some (by kernel_rfl))
  f165 := Tryd.func48.trans (congrArg some (by kernel_rfl))
  f166 := Tryd.func49.trans (congrArg some (by kernel_rfl))
  f169 := Tryd.func50.trans (congrArg some (by kernel_rfl))
  f240 := Tryd.func58.trans (congrArg some (by kernel_rfl))
  f241 := Tryd.func59.trans (congrArg some (by kernel_rfl))
  f276 := Tryd.func62.trans (congrArg some (by kernel_rfl))
  f277 := Tryd.func63.trans (congrArg some (by kernel_rfl))
  t0 := Tryd.underlying0
  a0 := Tryd.isAgg0
  z0 := Tryd.sizeOf0
  v0 := Tryd.zeroValue0
  t3 := Tryd.underlying3
  a3 := Tryd.isAgg3
  z3 := Tryd.sizeOf3
  v3 := Tryd.zeroValue3
  t4 := Tryd.underlying4
  a4 := Tryd.isAgg4
  z4 := Tryd.sizeOf4
  v4 := Tryd.zeroValue4
  t9 := Tryd.underlying9
  a9 := Tryd.isAgg9
  z9 := Tryd.sizeOf9
  v9 := Tryd.zeroValue9
  t20 := Tryd.underlying20
  a20 := Tryd.isAgg20
  z20 := Tryd.sizeOf20
  v20 := Tryd.zeroValue20
  t31 := Tryd.underlying35
  a31 := Tryd.isAgg35
  z31 := Tryd.sizeOf35
  v31 := Tryd.zeroValue35
  t37 := Tryd.underlying72
  a37 := Tryd.isAgg72
  z37 := Tryd.sizeOf72
  v37 := Tryd.zeroValue72
  t70 := Tryd.underlying71
  a70 := Tryd.isAgg71
  z70 := Tryd.sizeOf71
  v70 := Tryd.zeroValue71
  t72 := Tryd.underlying74
  a72 := Tryd.isAgg74
  z72 := Tryd.sizeOf74
  v72 := Tryd.zeroValue74
  t75 := Tryd.underlying53
  a75 := Tryd.isAgg53
  z75 := Tryd.sizeOf53
  v75 := Tryd.zeroValue53
  t76 := Tryd.underlying76
  a76 := Tryd.isAgg76
  z76 := Tryd.sizeOf76
  v76 := Tryd.zeroValue76
  t127 := Tryd.underlying90
  a127 := Tryd.isAgg90
  z127 := Tryd.sizeOf90
  v127 := Tryd.zeroValue90
  t164 := Tryd.underlying103
  a164 := Tryd.isAgg103
  z164 := Tryd.sizeOf103
  v164 := Tryd.zeroValue103 }
theorem Builder_Extra_156 : Builder.Extra Tryd.prog lays156_ren := {
  sizeBuilder := by kernel_rfl
  liesBuilder := by kernel_rfl
  t5 := Tryd.underlying5
  a5 := Tryd.isAgg5
  z5 := Tryd.sizeOf5
  v5 := Tryd.zeroValue5
  infoByte := by kernel_rfl
  cellsByte := by kernel_rfl
  sizeByte := by kernel_rfl
  neB5 := by decide }
theorem strings_Join_none (a : Option Addr) (c : Nat) (sep : ByteArray) (w : World) :
    Calls Tryd.prog 34 #[.slice a 0 c, .string sep] w fun e w' => e = .returned (.string ⟨#[]⟩) ∧ w' = w := Any.strings_Join_none lays156 Builder_Extra_156 a c sep w
theorem strings_Join (bk o c : Nat) (xs : List ByteArray) (sep : ByteArray) (w : World) (hcells : ∀ (j : Nat) x, xs[j]? = some x → w.cell? ⟨bk, o + j, none⟩ = some (.string x)) (hbk : bk < w.heap.size) (hN : xs.length ≤ 140737488355328) (hcap : xs.length ≤ c) (hlen : (Lib.join (xs.map (·.data.toList)) sep.data.toList).length ≤ 140737488355328) :
    Calls Tryd.prog 34 #[.slice (some ⟨bk, o, none⟩) xs.length c, .string sep] w fun e w' => e = .returned (.string ⟨(Lib.join (xs.map (·.data.toList)) sep.data.toList).toArray⟩) ∧ Below w.heap.size w w' := Any.strings_Join lays156 Builder_Extra_156 bk o c xs sep w hcells hbk hN hcap hlen
def joinF (l : List ByteArray) (sep : ByteArray) : ByteArray := ⟨(Lib.join (l.map (·.data.toList)) sep.data.toList).toArray⟩
theorem join_ (A : Option Addr) (c : Nat) (l : List ByteArray) (sep : ByteArray) (hl : l.length ≤ 140737488355328) (hj : (joinF l sep).size ≤ 140737488355328) : Con Tryd.prog 34 [.slice A l.length c, .string sep] [] [rd strTy A c l] (fun v L' I' => v = .string (joinF l sep) ∧ L' = [] ∧ I' = []) :=
  con_below ⟨_, Tryd.func34, by kernel_rfl, by kernel_rfl⟩ (fun w C o => by
    obtain ⟨h1, hle, g⟩ := o.fact (A := rd strTy A c l) (by simp)
    obtain ⟨q1, q2, q3⟩ := g h1 (le.refl _)
    cases l with
    | nil => exact (strings_Join_none A c sep w).mono fun e w' ⟨he, hw⟩ => ⟨he, hw ▸ Below.refl _ _⟩
    | cons x r =>
      obtain ⟨b, off, rfl, hc⟩ := q3 (by simp)
      have hcells : ∀ (j : Nat) y, (x :: r)[j]? = some y → w.cell? ⟨b, off + j, none⟩ = some (.string y) := fun j y hy => by
        refine hc.cell hle ?_
        have e1 : ∀ l : List ByteArray, strTy.cells l = l.map fun s => Value.string s := fun l => by
          induction l with
          | nil => rfl
          | cons s r ih => unfold Ty.cells at *; rw [List.flatMap_cons, ih]; rfl
        rw [e1, List.getElem?_map, hy]; rfl
      have hb : b < w.heap.size := by
        obtain ⟨cur, T, fr, hb, _⟩ := hc
        exact (Array.getElem?_eq_some_iff.1 (hle _ _ hb)).1
      have hj2 : (Lib.join ((x :: r).map (·.data.toList)) sep.data.toList).length ≤ 140737488355328 := by
        have : (joinF (x :: r) sep).size = (Lib.join ((x :: r).map (·.data.toList)) sep.data.toList).length := by show (Lib.join ((x :: r).map (·.data.toList)) sep.data.toList).toArray.size = _; simp
        omega
      exact strings_Join b off c (x :: r) sep w hcells hb hl q1 hj2)
theorem join4 (a b c d s : ByteArray) : joinF [a, b, c, d] s = a ++ s ++ b ++ s ++ c ++ s ++ d := by
  apply bytes_ext
  simp [joinF, Lib.join]
theorem line_join (x : Rec) : joinF [digF x.st, digF x.who, digF x.op, digF x.e] sp1 = lineF x := by rw [join4]; rfl
theorem lineF_size {x : Rec} (h : recSm x) : (lineF x).size ≤ 79 := by
  obtain ⟨h1, h2, h3, h4, _⟩ := h
  have a := digF_size h1
  have b := digF_size h2
  have c := digF_size h3
  have d := digF_size h4
  have e : sp1.size = 1 := rfl
  simp only [lineF, ByteArray.size_append]
  omega
theorem join4_size {x : Rec} (h : recSm x) : (joinF [digF x.st, digF x.who, digF x.op, digF x.e] (⟨#[32]⟩ : ByteArray)).size ≤ 140737488355328 := by
  have := lineF_size h
  rw [show (⟨#[32]⟩ : ByteArray) = sp1 from rfl, line_join]; omega
theorem Line_ (x : Rec) (hx : recSm x) : Con Tryd.prog 16 [.agg #[.int .i64 x.st, .int .i64 x.who, .int .i64 x.op, .int .i64 x.e, .int .i64 x.lab.lv, .int .u64 (x.lab.cs : Int), .int .i64 x.lab.ig]] [] [] (fun v L' I' => v = .string (lineF x) ∧ L' = [] ∧ I' = []) := by
  have hq := hx
  obtain ⟨q1, q2, q3, q4, q5⟩ := hq
  refine fn_of Tryd.func16 rfl Tryd.ntmps16 (by kernel_rfl) rfl (fun C => ?_)
  refine c_seq ?_
  refine c_region ?_
  refine st rfl (o_box (cs := [.int .i64 x.st, .int .i64 x.who, .int .i64 x.op, .int .i64 x.e, .int .i64 x.lab.lv, .int .u64 (x.lab.cs : Int), .int .i64 x.lab.ig]) (T := 28) rfl rfl rfl rfl (fun _ => by kernel_rfl) (fun b1 => ?_))
  refine st rfl (o_y (v := .string (⟨#[]⟩ : ByteArray)) (y_as rfl) rfl rfl rfl ?_)
  refine s_nil ?_
  refine q_then ?_
  refine c_seq ?_
  refine c_draw (l := ticked 15 0) [(⟨b1, 0, none⟩, .int .i64 x.st), (⟨b1, 1, none⟩, .int .i64 x.who), (⟨b1, 2, none⟩, .int .i64 x.op), (⟨b1, 3, none⟩, .int .i64 x.e)] [] (by kernel_rfl) rfl rfl ?_
  refine a_y (i := 0) (v := .pointer (some ⟨b1, 0, none⟩)) (ticked 15 1) rfl (by as_aux_lemma => kernel_rfl) rfl rfl rfl (by exact y_k rfl rfl (fun _ => by kernel_rfl)) ?_
  refine a_y (i := 3) (v := .pointer (some ⟨b1, 1, none⟩)) (ticked 15 9) rfl (by as_aux_lemma => kernel_rfl) rfl rfl rfl (by exact y_k rfl rfl (fun _ => by kernel_rfl)) ?_
  refine a_y (i := 6) (v := .pointer (some ⟨b1, 2, none⟩)) (ticked 15 73) rfl (by as_aux_lemma => kernel_rfl) rfl rfl rfl (by exact y_k rfl rfl (fun _ => by kernel_rfl)) ?_
  refine a_y (i := 9) (v := .pointer (some ⟨b1, 3, none⟩)) (ticked 15 585) rfl (by as_aux_lemma => kernel_rfl) rfl rfl rfl (by exact y_k rfl rfl (fun _ => by kernel_rfl)) ?_
  refine a_held (i := 1) (ticked 15 587) rfl (by as_aux_lemma => kernel_rfl) rfl rfl rfl (held_pt 0 rfl rfl (held_pt 0 rfl rfl (held_pt 0 rfl rfl (held_pt 0 rfl rfl held_nil)))) (h_ld 0 rfl rfl Tryd.underlying3 rfl) ?_
  refine a_held (i := 4) (ticked 15 603) rfl (by as_aux_lemma => kernel_rfl) rfl rfl rfl (held_pt 0 rfl rfl (held_pt 0 rfl rfl (held_pt 0 rfl rfl (held_pt 0 rfl rfl held_nil)))) (h_ld 1 rfl rfl Tryd.underlying3 rfl) ?_
  refine a_held (i := 7) (ticked 15 731) rfl (by as_aux_lemma => kernel_rfl) rfl rfl rfl (held_pt 0 rfl rfl (held_pt 0 rfl rfl (held_pt 0 rfl rfl (held_pt 0 rfl rfl held_nil)))) (h_ld 2 rfl rfl Tryd.underlying3 rfl) ?_
  refine a_held (i := 10) (ticked 15 1755) rfl (by as_aux_lemma => kernel_rfl) rfl rfl rfl (held_pt 0 rfl rfl (held_pt 0 rfl rfl (held_pt 0 rfl rfl (held_pt 0 rfl rfl held_nil)))) (h_ld 3 rfl rfl Tryd.underlying23 rfl) ?_
  refine a_each (rs := [2]) (by as_aux_lemma => kernel_rfl) (.cons (ticked 15 1759) rfl rfl rfl (o_call [] [] (Digits_ x.st (by first | assumption | omega)) rfl rfl rfl rfl rfl rfl (fun v L' I' hq1 => ?_)) .nil) (List.cons_ne_nil _ _)
  obtain ⟨rfl, rfl, rfl⟩ := hq1
  refine a_and (held_pt 0 rfl rfl (held_pt 0 rfl rfl (held_pt 0 rfl rfl (held_pt 0 rfl rfl held_nil)))) ?_
  refine a_each (rs := [5]) (by as_aux_lemma => kernel_rfl) (.cons (ticked 15 1791) rfl rfl rfl (o_call [] [] (Digits_ x.who (by first | assumption | omega)) rfl rfl rfl rfl rfl rfl (fun v L' I' hq2 => ?_)) .nil) (List.cons_ne_nil _ _)
  obtain ⟨rfl, rfl, rfl⟩ := hq2
  refine a_and (held_pt 0 rfl rfl (held_pt 0 rfl rfl (held_pt 0 rfl rfl (held_pt 0 rfl rfl held_nil)))) ?_
  refine a_each (rs := [8]) (by as_aux_lemma => kernel_rfl) (.cons (ticked 15 2047) rfl rfl rfl (o_call [] [] (Digits_ x.op (by first | assumption | omega)) rfl rfl rfl rfl rfl rfl (fun v L' I' hq3 => ?_)) .nil) (List.cons_ne_nil _ _)
  obtain ⟨rfl, rfl, rfl⟩ := hq3
  refine a_and (held_pt 0 rfl rfl (held_pt 0 rfl rfl (held_pt 0 rfl rfl (held_pt 0 rfl rfl held_nil)))) ?_
  refine a_each (rs := [11]) (by as_aux_lemma => kernel_rfl) (.cons (ticked 15 4095) rfl rfl rfl (o_call [] [] (Digits_ x.e (by first | assumption | omega)) rfl rfl rfl rfl rfl rfl (fun v L' I' hq4 => ?_)) .nil) (List.cons_ne_nil _ _)
  obtain ⟨rfl, rfl, rfl⟩ := hq4
  refine a_and (held_pt 0 rfl rfl (held_pt 0 rfl rfl (held_pt 0 rfl rfl (held_pt 0 rfl rfl held_nil)))) ?_
  refine a_each (rs := [12]) (by as_aux_lemma => kernel_rfl) (.cons (ticked 15 8191) rfl rfl rfl (o_lit (cs := [.string (digF x.st), .string (digF x.who), .string (digF x.op), .string (digF x.e)]) (T := 9) (m := 4) rfl rfl rfl rfl (fun _ => by kernel_rfl) (fun b2 => ?_)) .nil) (List.cons_ne_nil _ _)
  refine a_and (held_pt 1 rfl rfl (held_pt 1 rfl rfl (held_pt 1 rfl rfl (held_pt 1 rfl rfl held_nil)))) ?_
  refine e_calm 0 rfl ?_
  refine e_lit strTy [digF x.st, digF x.who, digF x.op, digF x.e] 0 rfl rfl (by simp) ?_
  refine a_each (rs := [13]) (by as_aux_lemma => kernel_rfl) (.cons (ticked 15 16383) rfl rfl rfl (o_call [] [0] (join_ (some ⟨b2, 0, none⟩) 4 [digF x.st, digF x.who, digF x.op, digF x.e] (⟨#[32]⟩ : ByteArray) (by first | omega | (simp; done)) (by first | exact join4_size (by assumption) | omega)) rfl rfl rfl rfl rfl rfl (fun v L' I' hq5 => ?_)) .nil) (List.cons_ne_nil _ _)
  obtain ⟨rfl, rfl, rfl⟩ := hq5
  refine a_and (held_pt 0 rfl rfl (held_pt 0 rfl rfl (held_pt 0 rfl rfl (held_pt 0 rfl rfl held_nil)))) ?_
  refine a_y (i := 14) (v := .string (joinF [digF x.st, digF x.who, digF x.op, digF x.e] (⟨#[32]⟩ : ByteArray))) (ticked 15 32767) rfl (by as_aux_lemma => kernel_rfl) rfl rfl rfl (by exact y_as rfl) ?_
  refine a_done (by as_aux_lemma => kernel_rfl) ?_
  refine q_then ?_
  refine c_ret ?_
  refine c_fin (I' := []) [] [] rfl (.tmp rfl .nil) rfl rfl rfl ?_
  exact ⟨congrArg Value.string (line_join x), rfl, rfl⟩
theorem rLine_ (x : Rec) (hx : recSm x) : Con Tryd.prog 27 [.agg #[.int .i64 x.st, .int .i64 x.who, .int .i64 x.op, .int .i64 x.e, .int .i64 x.lab.lv, .int .u64 (x.lab.cs : Int), .int .i64 x.lab.ig]] [] [] (fun v L' I' => v = .string (lineF x) ∧ L' = [] ∧ I' = []) := by
  have hq := hx
  obtain ⟨q1, q2, q3, q4, q5⟩ := hq
  have s1 := digF_size q1
  have s2 := digF_size q2
  have s3 := digF_size q3
  have s4 := digF_size q4
  have s5 : (⟨#[32]⟩ : ByteArray).size = 1 := rfl
  refine fn_of Tryd.func27 rfl Tryd.ntmps27 (by kernel_rfl) rfl (fun C => ?_)
  refine c_seq ?_
  refine c_region ?_
  refine st rfl (o_box (cs := [.int .i64 x.st, .int .i64 x.who, .int .i64 x.op, .int .i64 x.e, .int .i64 x.lab.lv, .int .u64 (x.lab.cs : Int), .int .i64 x.lab.ig]) (T := 28) rfl rfl rfl rfl (fun _ => by kernel_rfl) (fun b1 => ?_))
  refine st rfl (o_y (v := .string (⟨#[]⟩ : ByteArray)) (y_as rfl) rfl rfl rfl ?_)
  refine s_nil ?_
  refine q_then ?_
  refine c_seq ?_
  refine c_draw (l := ticked 19 0) [(⟨b1, 0, none⟩, .int .i64 x.st), (⟨b1, 1, none⟩, .int .i64 x.who), (⟨b1, 2, none⟩, .int .i64 x.op), (⟨b1, 3, none⟩, .int .i64 x.e)] [] (by kernel_rfl) rfl rfl ?_
  refine a_y (i := 0) (v := .pointer (some ⟨b1, 0, none⟩)) (ticked 19 1) rfl (by as_aux_lemma => kernel_rfl) rfl rfl rfl (by exact y_k rfl rfl (fun _ => by kernel_rfl)) ?_
  refine a_y (i := 4) (v := .pointer (some ⟨b1, 1, none⟩)) (ticked 19 17) rfl (by as_aux_lemma => kernel_rfl) rfl rfl rfl (by exact y_k rfl rfl (fun _ => by kernel_rfl)) ?_
  refine a_y (i := 9) (v := .pointer (some ⟨b1, 2, none⟩)) (ticked 19 529) rfl (by as_aux_lemma => kernel_rfl) rfl rfl rfl (by exact y_k rfl rfl (fun _ => by kernel_rfl)) ?_
  refine a_y (i := 14) (v := .pointer (some ⟨b1, 3, none⟩)) (ticked 19 16913) rfl (by as_aux_lemma => kernel_rfl) rfl rfl rfl (by exact y_k rfl rfl (fun _ => by kernel_rfl)) ?_
  refine a_held (i := 1) (ticked 19 16915) rfl (by as_aux_lemma => kernel_rfl) rfl rfl rfl (held_pt 0 rfl rfl (held_pt 0 rfl rfl (held_pt 0 rfl rfl (held_pt 0 rfl rfl held_nil)))) (h_ld 0 rfl rfl Tryd.underlying3 rfl) ?_
  refine a_held (i := 5) (ticked 19 16947) rfl (by as_aux_lemma => kernel_rfl) rfl rfl rfl (held_pt 0 rfl rfl (held_pt 0 rfl rfl (held_pt 0 rfl rfl (held_pt 0 rfl rfl held_nil)))) (h_ld 1 rfl rfl Tryd.underlying3 rfl) ?_
  refine a_held (i := 10) (ticked 19 17971) rfl (by as_aux_lemma => kernel_rfl) rfl rfl rfl (held_pt 0 rfl rfl (held_pt 0 rfl rfl (held_pt 0 rfl rfl (held_pt 0 rfl rfl held_nil)))) (h_ld 2 rfl rfl Tryd.underlying3 rfl) ?_
  refine a_held (i := 15) (ticked 19 50739) rfl (by as_aux_lemma => kernel_rfl) rfl rfl rfl (held_pt 0 rfl rfl (held_pt 0 rfl rfl (held_pt 0 rfl rfl (held_pt 0 rfl rfl held_nil)))) (h_ld 3 rfl rfl Tryd.underlying23 rfl) ?_
  refine a_each (rs := [2]) (by as_aux_lemma => kernel_rfl) (.cons (ticked 19 50743) rfl rfl rfl (o_call [] [] (rDigits_ x.st (by first | assumption | omega)) rfl rfl rfl rfl rfl rfl (fun v L' I' hq1 => ?_)) .nil) (List.cons_ne_nil _ _)
  obtain ⟨rfl, rfl, rfl⟩ := hq1
  refine a_and (held_pt 0 rfl rfl (held_pt 0 rfl rfl (held_pt 0 rfl rfl (held_pt 0 rfl rfl held_nil)))) ?_
  refine a_y (i := 3) (v := .string ((digF x.st) ++ (⟨#[32]⟩ : ByteArray))) (ticked 19 50751) rfl (by as_aux_lemma => kernel_rfl) rfl rfl rfl (by exact y_cat (s := digF x.st) (u := (⟨#[32]⟩ : ByteArray)) rfl rfl (by first | omega | (simp only [ByteArray.size_append]; omega))) ?_
  refine a_each (rs := [6]) (by as_aux_lemma => kernel_rfl) (.cons (ticked 19 50815) rfl rfl rfl (o_call [] [] (rDigits_ x.who (by first | assumption | omega)) rfl rfl rfl rfl rfl rfl (fun v L' I' hq2 => ?_)) .nil) (List.cons_ne_nil _ _)
  obtain ⟨rfl, rfl, rfl⟩ := hq2
  refine a_and (held_pt 0 rfl rfl (held_pt 0 rfl rfl (held_pt 0 rfl rfl (held_pt 0 rfl rfl held_nil)))) ?_
  refine a_y (i := 7) (v := .string (((digF x.st) ++ (⟨#[32]⟩ : ByteArray)) ++ (digF x.who))) (ticked 19 50943) rfl (by as_aux_lemma => kernel_rfl) rfl rfl rfl (by exact y_cat (s := (digF x.st) ++ (⟨#[32]⟩ : ByteArray)) (u := digF x.who) rfl rfl (by first | omega | (simp only [ByteArray.size_append]; omega))) ?_
  refine a_y (i := 8) (v := .string ((((digF x.st) ++ (⟨#[32]⟩ : ByteArray)) ++ (digF x.who)) ++ (⟨#[32]⟩ : ByteArray))) (ticked 19 51199) rfl (by as_aux_lemma => kernel_rfl) rfl rfl rfl (by exact y_cat (s := ((digF x.st) ++ (⟨#[32]⟩ : ByteArray)) ++ (digF x.who)) (u := (⟨#[32]⟩ : ByteArray)) rfl rfl (by first | omega | (simp only [ByteArray.size_append]; omega))) ?_
  refine a_each (rs := [11]) (by as_aux_lemma => kernel_rfl) (.cons (ticked 19 53247) rfl rfl rfl (o_call [] [] (rDigits_ x.op (by first | assumption | omega)) rfl rfl rfl rfl rfl rfl (fun v L' I' hq3 => ?_)) .nil) (List.cons_ne_nil _ _)
  obtain ⟨rfl, rfl, rfl⟩ := hq3
  refine a_and (held_pt 0 rfl rfl (held_pt 0 rfl rfl (held_pt 0 rfl rfl (held_pt 0 rfl rfl held_nil)))) ?_
  refine a_y (i := 12) (v := .string (((((digF x.st) ++ (⟨#[32]⟩ : ByteArray)) ++ (digF x.who)) ++ (⟨#[32]⟩ : ByteArray)) ++ (digF x.op))) (ticked 19 57343) rfl (by as_aux_lemma => kernel_rfl) rfl rfl rfl (by exact y_cat (s := (((digF x.st) ++ (⟨#[32]⟩ : ByteArray)) ++ (digF x.who)) ++ (⟨#[32]⟩ : ByteArray)) (u := digF x.op) rfl rfl (by first | omega | (simp only [ByteArray.size_append]; omega))) ?_
  refine a_y (i := 13) (v := .string ((((((digF x.st) ++ (⟨#[32]⟩ : ByteArray)) ++ (digF x.who)) ++ (⟨#[32]⟩ : ByteArray)) ++ (digF x.op)) ++ (⟨#[32]⟩ : ByteArray))) (ticked 19 65535) rfl (by as_aux_lemma => kernel_rfl) rfl rfl rfl (by exact y_cat (s := ((((digF x.st) ++ (⟨#[32]⟩ : ByteArray)) ++ (digF x.who)) ++ (⟨#[32]⟩ : ByteArray)) ++ (digF x.op)) (u := (⟨#[32]⟩ : ByteArray)) rfl rfl (by first | omega | (simp only [ByteArray.size_append]; omega))) ?_
  refine a_each (rs := [16]) (by as_aux_lemma => kernel_rfl) (.cons (ticked 19 131071) rfl rfl rfl (o_call [] [] (rDigits_ x.e (by first | assumption | omega)) rfl rfl rfl rfl rfl rfl (fun v L' I' hq4 => ?_)) .nil) (List.cons_ne_nil _ _)
  obtain ⟨rfl, rfl, rfl⟩ := hq4
  refine a_and (held_pt 0 rfl rfl (held_pt 0 rfl rfl (held_pt 0 rfl rfl (held_pt 0 rfl rfl held_nil)))) ?_
  refine a_y (i := 17) (v := .string (((((((digF x.st) ++ (⟨#[32]⟩ : ByteArray)) ++ (digF x.who)) ++ (⟨#[32]⟩ : ByteArray)) ++ (digF x.op)) ++ (⟨#[32]⟩ : ByteArray)) ++ (digF x.e))) (ticked 19 262143) rfl (by as_aux_lemma => kernel_rfl) rfl rfl rfl (by exact y_cat (s := (((((digF x.st) ++ (⟨#[32]⟩ : ByteArray)) ++ (digF x.who)) ++ (⟨#[32]⟩ : ByteArray)) ++ (digF x.op)) ++ (⟨#[32]⟩ : ByteArray)) (u := digF x.e) rfl rfl (by first | omega | (simp only [ByteArray.size_append]; omega))) ?_
  refine a_y (i := 18) (v := .string (((((((digF x.st) ++ (⟨#[32]⟩ : ByteArray)) ++ (digF x.who)) ++ (⟨#[32]⟩ : ByteArray)) ++ (digF x.op)) ++ (⟨#[32]⟩ : ByteArray)) ++ (digF x.e))) (ticked 19 524287) rfl (by as_aux_lemma => kernel_rfl) rfl rfl rfl (by exact y_as rfl) ?_
  refine a_done (by as_aux_lemma => kernel_rfl) ?_
  refine q_then ?_
  refine c_ret ?_
  refine c_fin (I' := []) [] [] rfl (.tmp rfl .nil) rfl rfl rfl ?_
  exact ⟨rfl, rfl, rfl⟩
end Go.Proofs.YtdfgedkjilpcgaaDoor
