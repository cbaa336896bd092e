/- The laws of chapter 17 (call), walked over the given program; no condition but what stands in each theorem: part CN. -/
import Derived.Test.YtcnncdniibkjkaaGreatDoorRCE
set_option linter.unusedVariables false
set_option linter.unusedSimpArgs false
set_option maxRecDepth 100000
set_option maxHeartbeats 8000000
namespace Go.Proofs.YtcnncdniibkjkaaGreatDoor
open Go Go.Sl Go.RowKit Go.Extern.Stop Go.Stop Go.Extern

abbrev Wb := ByteArray × Ec
def numB (w n : Int) (x : Wb) : Wb := (x.1 ++ (putF w (u64 n)).1, addQ x.2 (numE w n))
def txtB (x : Wb) (t : ByteArray) : Wb := (x.1 ++ (ptextF t).1, addQ x.2 (ptextF t).2)
def labZ (a : Lab) (x : Wb) : Wb := (x.1 ++ (putL a).1, addQ x.2 (putL a).2)
def txsB (l : List ByteArray) (x : Wb) : Wb := l.foldl txtB (numB 1 (l.length : Int) x)
def datB (d : ByteArray) (x : Wb) : Wb := (x.1 ++ d, x.2)
def repX (e n : Int) (d : ByteArray) (l : List ByteArray) (a : Lab) : Wb := labZ a (txsB l (datB d (numB 2 (d.size : Int) (numB 4 n (numB 2 e (⟨#[]⟩, none))))))
def repPut (e n : Int) (d : ByteArray) (l : List ByteArray) (a : Lab) : ByteArray × Int := if (repX e n d l a).2 = none ∧ (repX e n d l a).1.size ≤ 2000 then ((repX e n d l a).1, 0) else (⟨#[]⟩, 171)
theorem rp_ok {e n : Int} {d : ByteArray} {l : List ByteArray} {a : Lab} {x : Wb} (hx : x = repX e n d l a) (h1 : x.2 = none) (h2 : x.1.size ≤ 2000) : repPut e n d l a = (x.1, 0) := by
  unfold repPut; rw [← hx, if_pos ⟨h1, h2⟩]
theorem rp_no {e n : Int} {d : ByteArray} {l : List ByteArray} {a : Lab} {x : Wb} (hx : x = repX e n d l a) (h : ¬ x.2 = none ∨ ¬ x.1.size ≤ 2000) : repPut e n d l a = (⟨#[]⟩, 171) := by
  unfold repPut; rw [← hx, if_neg]
  rintro ⟨q1, q2⟩
  rcases h with h | h
  · exact h q1
  · exact h q2
theorem txs_step {l : List ByteArray} {k : Nat} {t : ByteArray} {x x0 y : Wb} (hx : x = (l.take k).foldl txtB x0) (ht : l[k]? = some t) (hy : y = txtB x t) : y = (l.take (k + 1)).foldl txtB x0 := by
  rw [hy, hx, List.take_add_one, ht]; simp
theorem txs_end {l : List ByteArray} {k : Nat} {x x0 y0 : Wb} (hx : x = (l.take k).foldl txtB y0) (hy : y0 = numB 1 (l.length : Int) x0) (hk : l.length ≤ k) : txsB l x0 = x := by
  rw [hx, List.take_of_length_le hk, hy]; rfl
theorem txtB_size (x : Wb) (t : ByteArray) : (txtB x t).1.size ≤ x.1.size + 201 := by
  have := ptextF_size t
  show (x.1 ++ _ : ByteArray).size ≤ _
  rw [ByteArray.size_append]; omega
theorem numB_size (w n : Int) (x : Wb) : (numB w n x).1.size ≤ x.1.size + 8 := by
  have := putF_size w (u64 n)
  show (x.1 ++ _ : ByteArray).size ≤ _
  rw [ByteArray.size_append]; omega
theorem txts_size : ∀ (l : List ByteArray) (x : Wb), (l.foldl txtB x).1.size ≤ x.1.size + 201 * l.length
  | [], x => by simp
  | t :: l, x => by
    have h1 := txts_size l (txtB x t)
    have h2 := txtB_size x t
    rw [List.foldl_cons, List.length_cons]; omega
theorem txsB_size (l : List ByteArray) (x : Wb) : (txsB l x).1.size ≤ x.1.size + 8 + 201 * l.length := by
  have h1 := txts_size l (numB 1 (l.length : Int) x)
  have h2 := numB_size 1 (l.length : Int) x
  unfold txsB; omega
theorem bnumY_ (b : Nat) (r : ByteArray) (q : Ec) (w : Int) (n : Int) (ea : Addr) (em : Addr) (ef : Addr) (el : Addr) (h12 : ea ≠ em) (h13 : ea ≠ ef) (h23 : em ≠ ef) (hr : r.size ≤ 1000000) : Con Tryz.prog 23 [.pointer (some ⟨b, 0, none⟩), .int .i64 w, .int .i64 n] [pt b [.string r, cwV q] 50] [cellsAt 2 0 [.iface 180 (.pointer (some ea))], cellsAt 3 0 [.iface 180 (.pointer (some em))], cellsAt 1 0 [.iface 180 (.pointer (some ef))], errAt ea, errAt em, errAt ef, cellsAt 4 0 [.iface 180 (.pointer (some el))], errAt el, cellsAt 0 0 [.iface 147 (.agg #[.pointer (some ⟨5, 48, none⟩)])]] (fun v L' I' => ∃ y : Wb, (y = numB w n (r, q)) ∧ (y.1.size ≤ r.size + 8) ∧ v = .tuple #[] ∧ L' = [pt b [.string y.1, cwV y.2] 50] ∧ I' = []) :=
  (bnumber_ b r q w n ea em ef el h12 h13 h23 hr).mono (fun v L' I' h => by
    obtain ⟨rfl, rfl, rfl⟩ := h
    exact ⟨numB w n (r, q), rfl, numB_size _ _ _, rfl, rfl, rfl⟩)
theorem btxtY_ (b : Nat) (r : ByteArray) (q : Ec) (t : ByteArray) (ea : Addr) (em : Addr) (ef : Addr) (el : Addr) (h12 : ea ≠ em) (h13 : ea ≠ ef) (h23 : em ≠ ef) (hr : r.size ≤ 1000000) (ht : t.size ≤ 100000) : Con Tryz.prog 54 [.pointer (some ⟨b, 0, none⟩), .string t] [pt b [.string r, cwV q] 50] [cellsAt 2 0 [.iface 180 (.pointer (some ea))], cellsAt 3 0 [.iface 180 (.pointer (some em))], cellsAt 1 0 [.iface 180 (.pointer (some ef))], errAt ea, errAt em, errAt ef, cellsAt 4 0 [.iface 180 (.pointer (some el))], errAt el, cellsAt 0 0 [.iface 147 (.agg #[.pointer (some ⟨5, 48, none⟩)])]] (fun v L' I' => ∃ y : Wb, (y = txtB (r, q) t) ∧ (y.1.size ≤ r.size + 201) ∧ v = .tuple #[] ∧ L' = [pt b [.string y.1, cwV y.2] 50] ∧ I' = []) :=
  (btext_ b r q t ea em ef el h12 h13 h23 hr ht).mono (fun v L' I' h => by
    obtain ⟨rfl, rfl, rfl⟩ := h
    exact ⟨txtB (r, q) t, rfl, txtB_size _ _, rfl, rfl, rfl⟩)
theorem blabY_ (b : Nat) (r : ByteArray) (q : Ec) (a : Lab) (ea : Addr) (em : Addr) (ef : Addr) (el : Addr) (h12 : ea ≠ em) (h13 : ea ≠ ef) (h23 : em ≠ ef) (hr : r.size ≤ 1000000) (h6a : lab64 a) : Con Tryz.prog 34 [.pointer (some ⟨b, 0, none⟩), .agg #[.int .i64 a.lv, .int .u64 (a.cs : Int), .int .i64 a.ig]] [pt b [.string r, cwV q] 50] [cellsAt 2 0 [.iface 180 (.pointer (some ea))], cellsAt 3 0 [.iface 180 (.pointer (some em))], cellsAt 1 0 [.iface 180 (.pointer (some ef))], errAt ea, errAt em, errAt ef, cellsAt 4 0 [.iface 180 (.pointer (some el))], errAt el, cellsAt 0 0 [.iface 147 (.agg #[.pointer (some ⟨5, 48, none⟩)])]] (fun v L' I' => ∃ y : Wb, (y = labZ a (r, q)) ∧ (y.1.size ≤ r.size + 1000000) ∧ v = .tuple #[] ∧ L' = [pt b [.string y.1, cwV y.2] 50] ∧ I' = []) :=
  (blabel_ b r q a ea em ef el h12 h13 h23 hr h6a).mono (fun v L' I' h => by
    obtain ⟨rfl, rfl, rfl⟩ := h
    exact ⟨labZ a (r, q), rfl, (by have := putL_size h6a; show (r ++ (putL a).1).size ≤ _; rw [ByteArray.size_append]; omega), rfl, rfl, rfl⟩)
theorem btexts_ (b : Nat) (r : ByteArray) (q : Ec) (A : Option Addr) (c : Nat) (l : List ByteArray) (ea : Addr) (em : Addr) (ef : Addr) (el : Addr) (h12 : ea ≠ em) (h13 : ea ≠ ef) (h23 : em ≠ ef) (hr : r.size ≤ 30000) (hl : l.length ≤ 300) (ht : ∀ t ∈ l, t.size ≤ 100000) : Con Tryz.prog 33 [.pointer (some ⟨b, 0, none⟩), .slice A l.length c] [pt b [.string r, cwV q] 50] [rd strTy A c l, cellsAt 2 0 [.iface 180 (.pointer (some ea))], cellsAt 3 0 [.iface 180 (.pointer (some em))], cellsAt 1 0 [.iface 180 (.pointer (some ef))], errAt ea, errAt em, errAt ef, cellsAt 4 0 [.iface 180 (.pointer (some el))], errAt el, cellsAt 0 0 [.iface 147 (.agg #[.pointer (some ⟨5, 48, none⟩)])]] (fun v L' I' => ∃ y : Wb, (y = txsB l (r, q)) ∧ (y.1.size ≤ r.size + 8 + 201 * l.length) ∧ v = .tuple #[] ∧ L' = [pt b [.string y.1, cwV y.2] 50] ∧ I' = []) := by
 refine fn_of Tryz.func33 rfl Tryz.ntmps33 (by kernel_rfl) rfl (fun C => ?_)
 refine c_seq (c_region ?_)
 refine s_y rfl (v := .pointer (some ⟨b, 0, none⟩)) (y_mv rfl) rfl ?_
 refine s_y rfl (v := .slice A l.length c) (y_mv rfl) rfl ?_
 refine s_y rfl (v := .int .i64 (l.length : Int)) (y_k rfl rfl (fun _ => by kernel_rfl)) rfl ?_
 refine st rfl (o_call [0] [1, 2, 3, 4, 5, 6, 7, 8, 9] (bnumY_ b r q (1 : Int) (l.length : Int) ea em ef el (by assumption) (by assumption) (by assumption) (by first | omega | assumption | decide)) rfl rfl rfl rfl rfl rfl (fun v L' I' hq1 => ?_))
 obtain ⟨y1, h24, h25, rfl, rfl, rfl⟩ := hq1
 refine s_nil (q_then (c_seq (c_region ?_)))
 refine s_y rfl (v := .slice A l.length c) (y_mv rfl) rfl ?_
 refine s_y rfl (v := .int .i64 (l.length : Int)) (y_k rfl rfl (fun _ => by kernel_rfl)) rfl ?_
 refine s_y rfl (v := .int .i64 0) (y_mv rfl) rfl ?_
 refine s_nil (q_then (c_block ?_))
 refine c_loopn (ι := Nat × Wb) (fun (k, x) => (k ≤ l.length) ∧ (x = (l.take k).foldl txtB y1) ∧ (x.1.size ≤ r.size + 8 + 201 * k)) (fun (k, x) => [(0, .pointer (some ⟨b, 0, none⟩)), (10, .slice A l.length c), (11, .int .i64 (l.length : Int)), (12, .int .i64 (k : Int))]) (fun (k, x) => [pt b [.string x.1, cwV x.2] 50]) (fun (k, x) => [rd strTy A c l, cellsAt 2 0 [.iface 180 (.pointer (some ea))], cellsAt 3 0 [.iface 180 (.pointer (some em))], cellsAt 1 0 [.iface 180 (.pointer (some ef))], errAt ea, errAt em, errAt ef, cellsAt 4 0 [.iface 180 (.pointer (some el))], errAt el, cellsAt 0 0 [.iface 147 (.agg #[.pointer (some ⟨5, 48, none⟩)])]]) (fun (k, x) => l.length - k) (0, y1) [0] [0, 1, 2, 3, 4, 5, 6, 7, 8, 9] (show (0 ≤ l.length) ∧ (y1 = (l.take 0).foldl txtB y1) ∧ (y1.1.size ≤ r.size + 8 + 201 * 0) from ⟨by first | omega | simp_all | (simp; done), rfl, by omega⟩) ((.cons rfl rfl (.cons rfl rfl (.cons rfl rfl (.cons rfl rfl .nil))))) rfl rfl ?_
 rintro ⟨k, x⟩ ⟨hk, hx, hz⟩
 show Ent 20 C [(0, .pointer (some ⟨b, 0, none⟩)), (10, .slice A l.length c), (11, .int .i64 (l.length : Int)), (12, .int .i64 (k : Int))] [] [pt b [.string x.1, cwV x.2] 50] [rd strTy A c l, cellsAt 2 0 [.iface 180 (.pointer (some ea))], cellsAt 3 0 [.iface 180 (.pointer (some em))], cellsAt 1 0 [.iface 180 (.pointer (some ef))], errAt ea, errAt em, errAt ef, cellsAt 4 0 [.iface 180 (.pointer (some el))], errAt el, cellsAt 0 0 [.iface 147 (.agg #[.pointer (some ⟨5, 48, none⟩)])]] _
 refine c_seq (c_region ?_)
 refine e_by ((k : Int) < (l.length : Int)) (fun h26 => ?_) (fun h26 => ?_)
 ·
  refine s_y rfl (v := .bool true) (y_t (y_k (v := .bool (decide ((k : Int) < (l.length : Int)))) rfl rfl (fun _ => by kernel_rfl)) h26) rfl ?_
  refine s_nil (q_then (c_seq (c_true rfl (c_skip (q_then (c_seq (c_block (c_seq (c_region ?_)))))))))
  refine e_at 0 k rfl (by omega) (fun b1 o1 x1 hA1 hx1 => ?_)
  refine s_y rfl (v := .pointer (some ⟨b1, o1 + k * 1, none⟩)) (y_at (d := strTy) (l := l) k hA1 rfl rfl rfl (rfl) (List.getElem?_eq_some_iff.1 hx1).1 Tryz.underlying37 (by kernel_rfl) (by kernel_rfl)) rfl ?_
  refine st rfl (o_ldf 0 0 rfl rfl rfl Tryz.underlying9 rfl rfl ?_)
  refine s_y rfl (v := .string x1) (y_as rfl) rfl ?_
  refine s_nil (q_then (c_region ?_))
  refine s_y rfl (v := .pointer (some ⟨b, 0, none⟩)) (y_mv rfl) rfl ?_
  refine s_y rfl (v := .string x1) (y_mv rfl) rfl ?_
  refine st rfl (o_call [0] [2, 3, 4, 5, 6, 7, 8, 9, 10] (btxtY_ b x.1 x.2 x1 ea em ef el (by assumption) (by assumption) (by assumption) (by omega) (ht _ (List.mem_of_getElem? (by assumption)))) rfl rfl rfl rfl rfl rfl (fun v L' I' hq2 => ?_))
  obtain ⟨y2, h27, h28, rfl, rfl, rfl⟩ := hq2
  refine s_nil (q_block (q_then (c_region ?_)))
  refine s_y rfl (v := .int .i64 ((k : Int) + 1)) (y_add (r := (k : Int) + 1) rfl rfl rfl (by omega)) rfl ?_
  refine s_y rfl (v := .int .i64 ((k : Int) + 1)) (y_mv rfl) rfl ?_
  refine s_nil (q_then ?_)
  refine c_next [0] [1, 2, 3, 4, 5, 6, 7, 8, 9, 10] (k + 1, y2) ?_ ?_ ?_ (by rfl) (by rfl)
  · exact (show ((k + 1) ≤ l.length) ∧ (y2 = (l.take (k + 1)).foldl txtB y1) ∧ (y2.1.size ≤ r.size + 8 + 201 * (k + 1)) from ⟨by first | omega | simp_all | (simp; done), txs_step hx hx1 h27, by omega⟩)
  · show l.length - (k + 1) < l.length - k; omega
  · exact (.cons rfl rfl (.cons rfl rfl (.cons rfl rfl (.cons rfl (show (.int .i64 ((k : Int) + 1) : Value) = .int .i64 ((k + 1) : Int) from by first | rfl | (congr 1; omega) | (congr 1; simp; done) | (congr 1; simp; omega)) .nil))))
 ·
  refine s_y rfl (v := .bool false) (y_f (y_k (v := .bool (decide ((k : Int) < (l.length : Int)))) rfl rfl (fun _ => by kernel_rfl)) h26) rfl ?_
  refine s_nil (q_then (c_seq (c_false rfl ?_)))
  refine c_exit ?_
  refine q_then_exit ?_
  refine q_then_exit ?_
  refine q_block_here ?_
  refine c_fin_end (I' := []) [0] [0, 1, 2, 3, 4, 5, 6, 7, 8, 9] rfl .nil rfl rfl rfl ?_
  exact ⟨x, (txs_end hx h24 (by omega)).symm, by omega, rfl, rfl, rfl⟩
theorem repPut_ (e : Int) (n : Int) (d : ByteArray) (A : Option Addr) (c : Nat) (l : List ByteArray) (a : Lab) (ea : Addr) (em : Addr) (ef : Addr) (el : Addr) (h12 : ea ≠ em) (h13 : ea ≠ ef) (h23 : em ≠ ef) (hd : d.size ≤ 10000) (hl : l.length ≤ 300) (ht : ∀ t ∈ l, t.size ≤ 100000) (h6a : lab64 a) : Con Tryz.prog 15 [.agg #[.int .i64 e, .int .i64 n, .string d, .slice A l.length c, .int .i64 a.lv, .int .u64 (a.cs : Int), .int .i64 a.ig]] [] [rd strTy A c l, cellsAt 2 0 [.iface 180 (.pointer (some ea))], cellsAt 3 0 [.iface 180 (.pointer (some em))], cellsAt 1 0 [.iface 180 (.pointer (some ef))], errAt ea, errAt em, errAt ef, cellsAt 4 0 [.iface 180 (.pointer (some el))], errAt el, cellsAt 0 0 [.iface 147 (.agg #[.pointer (some ⟨5, 48, none⟩)])]] (fun v L' I' => v = .tuple #[.string ((repPut e n d l a).1), .int .i64 ((repPut e n d l a).2)] ∧ L' = [] ∧ I' = []) := by
 have z0 : (⟨#[]⟩ : ByteArray).size = 0 := rfl
 refine fn_of Tryz.func15 rfl Tryz.ntmps15 (by kernel_rfl) rfl (fun C => ?_)
 refine c_seq (c_region ?_)
 refine st rfl (o_box (cs := [.int .i64 e, .int .i64 n, .string d, .slice A l.length c, .int .i64 a.lv, .int .u64 (a.cs : Int), .int .i64 a.ig]) (T := 39) rfl rfl rfl rfl (fun _ => by kernel_rfl) (fun b1 => ?_))
 refine s_y rfl (v := .string (⟨#[]⟩ : ByteArray)) (y_as rfl) rfl ?_
 refine s_y rfl (v := .int .i64 0) (y_as rfl) rfl ?_
 refine s_nil (q_then (c_seq (c_region ?_)))
 refine s_y rfl (v := .agg #[.string (⟨#[]⟩ : ByteArray), .nilIface]) (y_k rfl rfl (fun _ => by kernel_rfl)) rfl ?_
 refine st rfl (o_box (cs := [.string (⟨#[]⟩ : ByteArray), .nilIface]) (T := 50) rfl rfl rfl rfl (fun _ => by kernel_rfl) (fun b2 => ?_))
 refine s_y rfl (v := .pointer (some ⟨b2, 0, none⟩)) (y_as rfl) rfl ?_
 refine s_nil (q_then (c_seq (c_region ?_)))
 refine s_y rfl (v := .pointer (some ⟨b2, 0, none⟩)) (y_mv rfl) rfl ?_
 refine s_y rfl (v := .pointer (some ⟨b1, 0, none⟩)) (y_k rfl rfl (fun _ => by kernel_rfl)) rfl ?_
 refine st rfl (o_ld 1 rfl rfl rfl Tryz.underlying29 rfl rfl ?_)
 show Ent _ _ _ _ [pt b2 [.string (⟨#[]⟩ : ByteArray), cwV none] 50, pt b1 [.int .i64 e, .int .i64 n, .string d, .slice A l.length c, .int .i64 a.lv, .int .u64 (a.cs : Int), .int .i64 a.ig] 39] _ _
 refine st rfl (o_call [0] [1, 2, 3, 4, 5, 6, 7, 8, 9] (bnumY_ b2 (⟨#[]⟩ : ByteArray) none (2 : Int) e ea em ef el (by assumption) (by assumption) (by assumption) (by first | omega | (simp only [ByteArray.size_append] at *; omega))) rfl rfl rfl rfl rfl rfl (fun v L' I' hq1 => ?_))
 obtain ⟨y1, h24, h25, rfl, rfl, rfl⟩ := hq1
 refine s_nil (q_then (c_seq (c_region ?_)))
 refine s_y rfl (v := .pointer (some ⟨b2, 0, none⟩)) (y_mv rfl) rfl ?_
 refine s_y rfl (v := .pointer (some ⟨b1, 1, none⟩)) (y_k rfl rfl (fun _ => by kernel_rfl)) rfl ?_
 refine st rfl (o_ld 1 rfl rfl rfl Tryz.underlying3 rfl rfl ?_)
 refine st rfl (o_call [0] [1, 2, 3, 4, 5, 6, 7, 8, 9] (bnumY_ b2 y1.1 y1.2 (4 : Int) n ea em ef el (by assumption) (by assumption) (by assumption) (by first | omega | (simp only [ByteArray.size_append] at *; omega))) rfl rfl rfl rfl rfl rfl (fun v L' I' hq2 => ?_))
 obtain ⟨y2, h26, h27, rfl, rfl, rfl⟩ := hq2
 refine s_nil (q_then (c_seq (c_region ?_)))
 refine s_y rfl (v := .pointer (some ⟨b2, 0, none⟩)) (y_mv rfl) rfl ?_
 refine s_y rfl (v := .pointer (some ⟨b1, 2, none⟩)) (y_k rfl rfl (fun _ => by kernel_rfl)) rfl ?_
 refine st rfl (o_ld 1 rfl rfl rfl Tryz.underlying9 rfl rfl ?_)
 refine s_y rfl (v := .int .i64 (d.size : Int)) (y_k rfl rfl (fun _ => by kernel_rfl)) rfl ?_
 refine st rfl (o_call [0] [1, 2, 3, 4, 5, 6, 7, 8, 9] (bnumY_ b2 y2.1 y2.2 (2 : Int) (d.size : Int) ea em ef el (by assumption) (by assumption) (by assumption) (by first | omega | (simp only [ByteArray.size_append] at *; omega))) rfl rfl rfl rfl rfl rfl (fun v L' I' hq3 => ?_))
 obtain ⟨y3, h28, h29, rfl, rfl, rfl⟩ := hq3
 refine s_nil (q_then (c_seq ?_))
 refine c_draw (l := ticked 10 0) [(⟨b2, 0, none⟩, .string y3.1), (⟨b1, 2, none⟩, .string d)] [9] (by kernel_rfl) rfl rfl ?_
 refine b_y (i := 0) (v := .pointer (some ⟨b2, 0, none⟩)) (ticked 10 1) rfl rfl (by exact y_mv rfl) ?_
 refine b_y (i := 1) (v := .pointer (some ⟨b2, 0, none⟩)) (ticked 10 3) rfl rfl (by exact y_k rfl rfl (fun _ => by kernel_rfl)) ?_
 refine b_y (i := 2) (v := .pointer (some ⟨b2, 0, none⟩)) (ticked 10 7) rfl rfl (by exact y_k rfl rfl (fun _ => by kernel_rfl)) ?_
 refine b_y (i := 4) (v := .pointer (some ⟨b1, 2, none⟩)) (ticked 10 23) rfl rfl (by exact y_k rfl rfl (fun _ => by kernel_rfl)) ?_
 refine a_held (i := 3) (ticked 10 31) rfl (by as_aux_lemma => kernel_rfl) rfl rfl rfl (held_pt 0 rfl rfl (held_pt 1 rfl rfl held_nil)) (h_ld 0 rfl rfl Tryz.underlying9 rfl) ?_
 refine a_held (i := 5) (ticked 10 63) rfl (by as_aux_lemma => kernel_rfl) rfl rfl rfl (held_pt 0 rfl rfl (held_pt 1 rfl rfl held_nil)) (h_ld 1 rfl rfl Tryz.underlying9 rfl) ?_
 refine b_y (i := 6) (v := .string (y3.1 ++ d)) (ticked 10 127) rfl rfl (by exact y_cat (s := y3.1) (u := d) rfl rfl (by omega)) ?_
 refine b_y (i := 7) (v := .pointer (some ⟨b2, 0, none⟩)) (ticked 10 255) rfl rfl (by exact y_k rfl rfl (fun _ => by kernel_rfl)) ?_
 refine b_y (i := 8) (v := .pointer (some ⟨b2, 0, none⟩)) (ticked 10 511) rfl rfl (by exact y_k rfl rfl (fun _ => by kernel_rfl)) ?_
 refine a_each (rs := [9]) (by as_aux_lemma => kernel_rfl) (.last (ticked 10 1023) rfl rfl rfl rfl (o_st 0 rfl rfl rfl rfl rfl (by kernel_rfl) (by kernel_rfl) rfl ?_) .nil) (List.cons_ne_nil _ _)
 refine a_done (by as_aux_lemma => kernel_rfl) ?_
 refine q_then (c_seq (c_region ?_))
 refine s_y rfl (v := .pointer (some ⟨b2, 0, none⟩)) (y_mv rfl) rfl ?_
 refine s_y rfl (v := .pointer (some ⟨b1, 3, none⟩)) (y_k rfl rfl (fun _ => by kernel_rfl)) rfl ?_
 refine st rfl (o_ld 1 rfl rfl rfl Tryz.underlying37 rfl rfl ?_)
 refine st rfl (o_call [0] [0, 1, 2, 3, 4, 5, 6, 7, 8, 9] (btexts_ b2 (y3.1 ++ d) y3.2 A c l ea em ef el (by assumption) (by assumption) (by assumption) (by first | omega | (simp only [ByteArray.size_append] at *; omega)) (by first | omega | assumption) (by assumption)) rfl rfl rfl rfl rfl rfl (fun v L' I' hq4 => ?_))
 obtain ⟨y4, h30, h31, rfl, rfl, rfl⟩ := hq4
 refine s_nil (q_then (c_seq (c_region ?_)))
 refine s_y rfl (v := .pointer (some ⟨b2, 0, none⟩)) (y_mv rfl) rfl ?_
 refine s_y rfl (v := .pointer (some ⟨b1, 4, none⟩)) (y_k rfl rfl (fun _ => by kernel_rfl)) rfl ?_
 refine st rfl (o_ldn 1 3 rfl rfl rfl rfl Tryz.underlying24 rfl (by kernel_rfl) (by kernel_rfl) rfl ?_)
 refine st rfl (o_call [0] [1, 2, 3, 4, 5, 6, 7, 8, 9] (blabY_ b2 y4.1 y4.2 a ea em ef el (by assumption) (by assumption) (by assumption) (by first | omega | (simp only [ByteArray.size_append] at *; omega)) (by first | assumption | decide)) rfl rfl rfl rfl rfl rfl (fun v L' I' hq5 => ?_))
 obtain ⟨y5, h32, h33, rfl, rfl, rfl⟩ := hq5
 refine s_nil (q_then (c_seq (c_seq (c_region ?_))))
 refine s_y rfl (v := .pointer (some ⟨b2, 0, none⟩)) (y_mv rfl) rfl ?_
 refine s_y rfl (v := .pointer (some ⟨b2, 0, none⟩)) (y_k rfl rfl (fun _ => by kernel_rfl)) rfl ?_
 refine s_y rfl (v := .pointer (some ⟨b2, 1, none⟩)) (y_k rfl rfl (fun _ => by kernel_rfl)) rfl ?_
 refine st rfl (o_ld 0 rfl rfl rfl Tryz.underlying48 rfl rfl ?_)
 refine e_by (y5.2 = none) (fun h34 => ?_) (fun h34 => ?_)
 ·
  refine s_y rfl (v := .bool false) (y_nt (y_bin rfl rfl (fun w => cw_ne y5.2 _ w)) h34) rfl ?_
  refine s_y rfl (v := .bool false) (y_mv rfl) rfl ?_
  refine st_on 42 rfl rfl rfl (o_y (v := .pointer (some ⟨b2, 0, none⟩)) (y_mv rfl) rfl rfl rfl ?_)
  refine st_on 42 rfl rfl rfl (o_y (v := .pointer (some ⟨b2, 0, none⟩)) (y_k rfl rfl (fun _ => by kernel_rfl)) rfl rfl rfl ?_)
  refine st_on 42 rfl rfl rfl (o_y (v := .pointer (some ⟨b2, 0, none⟩)) (y_k rfl rfl (fun _ => by kernel_rfl)) rfl rfl rfl ?_)
  refine st_on 42 rfl rfl rfl (o_ld 0 rfl rfl rfl Tryz.underlying9 rfl rfl ?_)
  refine st_on 42 rfl rfl rfl (o_y (v := .int .i64 (y5.1.size : Int)) (y_k rfl rfl (fun _ => by kernel_rfl)) rfl rfl rfl ?_)
  refine e_by ((y5.1.size : Int) > 2000) (fun h35 => ?_) (fun h35 => ?_)
  ·
   refine st_on 42 rfl rfl rfl (o_y (v := .bool true) (y_t (y_k (v := .bool (decide ((y5.1.size : Int) > 2000))) rfl rfl (fun _ => by kernel_rfl)) h35) rfl rfl rfl ?_)
   refine s_y rfl (v := .bool true) (y_pick rfl rfl) rfl ?_
   refine s_nil (q_then (c_true rfl (c_seq (c_region ?_))))
   refine s_y rfl (v := .agg #[.int .i64 0]) (y_k rfl rfl (fun _ => by kernel_rfl)) rfl ?_
   refine s_y rfl (v := .iface 64 (.agg #[.int .i64 0])) (y_k rfl rfl (fun _ => by kernel_rfl)) rfl ?_
   refine st rfl (o_call [] [9] (ctold_ (0 : Int) (171 : Int)) rfl rfl rfl rfl rfl rfl (fun v L' I' hq6 => ?_))
   obtain ⟨rfl, rfl, rfl⟩ := hq6
   refine s_y rfl (v := .string (⟨#[]⟩ : ByteArray)) (y_as rfl) rfl ?_
   refine s_y rfl (v := .int .i64 (171 : Int)) (y_as rfl) rfl ?_
   refine s_nil (q_then (c_ret (q_then_ret ?_)))
   have hp : repPut e n d l a = ((⟨#[]⟩ : ByteArray), (171 : Int)) := by first | exact rp_ok (show y5 = repX e n d l a by rw [h32, h30, h28, h26, h24]; rfl) (by assumption) (by omega) | exact rp_no (show y5 = repX e n d l a by rw [h32, h30, h28, h26, h24]; rfl) (by first | exact .inl (by assumption) | exact .inr (by omega))
   refine c_fin (I' := []) [] [0, 1, 2, 3, 4, 5, 6, 7, 8, 9] rfl (.tmp rfl (.tmp rfl .nil)) rfl rfl rfl ?_
   rw [hp]
   exact ⟨rfl, rfl, rfl⟩
  ·
   refine st_on 42 rfl rfl rfl (o_y (v := .bool false) (y_f (y_k (v := .bool (decide ((y5.1.size : Int) > 2000))) rfl rfl (fun _ => by kernel_rfl)) h35) rfl rfl rfl ?_)
   refine s_y rfl (v := .bool false) (y_pick rfl rfl) rfl ?_
   refine s_nil (q_then (c_false rfl (c_skip (q_then (c_seq (c_region ?_))))))
   refine s_y rfl (v := .pointer (some ⟨b2, 0, none⟩)) (y_mv rfl) rfl ?_
   refine s_y rfl (v := .pointer (some ⟨b2, 0, none⟩)) (y_k rfl rfl (fun _ => by kernel_rfl)) rfl ?_
   refine s_y rfl (v := .pointer (some ⟨b2, 0, none⟩)) (y_k rfl rfl (fun _ => by kernel_rfl)) rfl ?_
   refine st rfl (o_ld 0 rfl rfl rfl Tryz.underlying9 rfl rfl ?_)
   refine s_y rfl (v := .string y5.1) (y_as rfl) rfl ?_
   refine s_y rfl (v := .int .i64 0) (y_as rfl) rfl ?_
   refine s_nil (q_then (c_ret ?_))
   have hp : repPut e n d l a = (y5.1, 0) := by first | exact rp_ok (show y5 = repX e n d l a by rw [h32, h30, h28, h26, h24]; rfl) (by assumption) (by omega) | exact rp_no (show y5 = repX e n d l a by rw [h32, h30, h28, h26, h24]; rfl) (by first | exact .inl (by assumption) | exact .inr (by omega))
   refine c_fin (I' := []) [] [0, 1, 2, 3, 4, 5, 6, 7, 8, 9] rfl (.tmp rfl (.tmp rfl .nil)) rfl rfl rfl ?_
   rw [hp]
   exact ⟨rfl, rfl, rfl⟩
 ·
  refine s_y rfl (v := .bool true) (y_nf (y_bin rfl rfl (fun w => cw_ne y5.2 _ w)) h34) rfl ?_
  refine s_y rfl (v := .bool true) (y_mv rfl) rfl ?_
  refine st_off 42 rfl rfl rfl rfl rfl rfl ?_
  refine st_off 42 rfl rfl rfl rfl rfl rfl ?_
  refine st_off 42 rfl rfl rfl rfl rfl rfl ?_
  refine st_off 42 rfl rfl rfl rfl rfl rfl ?_
  refine st_off 42 rfl rfl rfl rfl rfl rfl ?_
  refine st_off 42 rfl rfl rfl rfl rfl rfl ?_
  refine s_y rfl (v := .bool true) (y_pick rfl rfl) rfl ?_
  refine s_nil (q_then (c_true rfl (c_seq (c_region ?_))))
  refine s_y rfl (v := .agg #[.int .i64 0]) (y_k rfl rfl (fun _ => by kernel_rfl)) rfl ?_
  refine s_y rfl (v := .iface 64 (.agg #[.int .i64 0])) (y_k rfl rfl (fun _ => by kernel_rfl)) rfl ?_
  refine st rfl (o_call [] [9] (ctold_ (0 : Int) (171 : Int)) rfl rfl rfl rfl rfl rfl (fun v L' I' hq7 => ?_))
  obtain ⟨rfl, rfl, rfl⟩ := hq7
  refine s_y rfl (v := .string (⟨#[]⟩ : ByteArray)) (y_as rfl) rfl ?_
  refine s_y rfl (v := .int .i64 (171 : Int)) (y_as rfl) rfl ?_
  refine s_nil (q_then (c_ret (q_then_ret ?_)))
  have hp : repPut e n d l a = ((⟨#[]⟩ : ByteArray), (171 : Int)) := by first | exact rp_ok (show y5 = repX e n d l a by rw [h32, h30, h28, h26, h24]; rfl) (by assumption) (by omega) | exact rp_no (show y5 = repX e n d l a by rw [h32, h30, h28, h26, h24]; rfl) (by first | exact .inl (by assumption) | exact .inr (by omega))
  refine c_fin (I' := []) [] [0, 1, 2, 3, 4, 5, 6, 7, 8, 9] rfl (.tmp rfl (.tmp rfl .nil)) rfl rfl rfl ?_
  rw [hp]
  exact ⟨rfl, rfl, rfl⟩
end Go.Proofs.YtcnncdniibkjkaaGreatDoor
