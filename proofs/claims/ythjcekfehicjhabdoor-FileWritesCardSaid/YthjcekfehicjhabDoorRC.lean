/- The laws of chapter 9 (file), walked over the given program; no condition but what stands in each theorem: part C. -/
import Derived.Test.YthjcekfehicjhabDoorRA
set_option linter.unusedVariables false
set_option linter.unusedSimpArgs false
set_option maxRecDepth 100000
set_option maxHeartbeats 8000000
namespace Go.Proofs.YthjcekfehicjhabDoor
open Go Go.Sl Go.RowKit Go.Extern.Stop Go.Stop Go.Extern
/-- What is wrong, behind some tests. -/
def errV (r : List Bool) (e : Value) : Value := if r.all id = true then e else .iface 49 (.agg #[])
theorem errV_step {r : List Bool} {k : Nat} {x : Bool} {e : Value} (hx : r[k]? = some x) (h : x = true) : errV (r.take (k + 1)) e = errV (r.take k) e := by
  unfold errV; rw [List.take_add_one, hx, h]; simp
theorem errV_not {r : List Bool} {k : Nat} {x : Bool} {e : Value} (hx : r[k]? = some x) (h : x = false) : errV (r.take (k + 1)) e = .iface 49 (.agg #[]) := by
  unfold errV; rw [List.take_add_one, hx, h]; simp
theorem must_ (b : Nat) (A : Option Addr) (c : Nat) (l : List UInt8) (e0 : Value) (B : Option Addr) (d : Nat) (r : List Bool) (hs : r.length ≤ 1000) : Con Tryd.prog 17 [.pointer (some ⟨b, 0, none⟩), .slice B r.length d] [pt b [.slice A l.length c, e0] 44] [rd boolTy B d r] (fun v L' I' => v = .tuple #[] ∧ L' = [pt b [.slice A l.length c, (errV r e0)] 44] ∧ I' = []) := by
  refine fn_of Tryd.func17 rfl Tryd.ntmps17 (by kernel_rfl) rfl (fun C => ?_)
  refine c_seq ?_
  refine c_region ?_
  refine st rfl (o_y (v := .slice B r.length d) (y_mv rfl) rfl rfl rfl ?_)
  refine st rfl (o_y (v := .int .i64 (r.length : Int)) (y_k rfl rfl (fun _ => by kernel_rfl)) rfl rfl rfl ?_)
  refine st rfl (o_y (v := .int .i64 0) (y_mv rfl) rfl rfl rfl ?_)
  refine s_nil ?_
  refine q_then ?_
  refine c_block ?_
  refine c_loopn (ι := Nat × Value) (fun (k, ev) => (k ≤ r.length) ∧ (ev = errV (r.take k) e0)) (fun (k, ev) => [(0, .pointer (some ⟨b, 0, none⟩)), (6, .slice B r.length d), (7, .int .i64 (r.length : Int)), (8, .int .i64 (k : Int))]) (fun (k, ev) => [pt b [.slice A l.length c, ev] 44]) (fun (k, ev) => [rd boolTy B d r]) (fun (k, ev) => r.length - k) (0, e0) [0] [0] (show (0 ≤ r.length) ∧ (e0 = errV (r.take 0) e0) from ⟨by first | omega | simp_all | (simp; done), by simp [errV]⟩) ((.cons rfl rfl (.cons rfl rfl (.cons rfl rfl (.cons rfl rfl .nil))))) rfl rfl ?_
  rintro ⟨k, ev⟩ ⟨hk, hev⟩
  show Ent 20 C [(0, .pointer (some ⟨b, 0, none⟩)), (6, .slice B r.length d), (7, .int .i64 (r.length : Int)), (8, .int .i64 (k : Int))] [] [pt b [.slice A l.length c, ev] 44] [rd boolTy B d r] _
  refine c_seq ?_
  refine c_region ?_
  refine e_by ((k : Int) < (r.length : Int)) (fun h1 => ?_) (fun h1 => ?_)
  ·
    refine st rfl (o_y (v := .bool true) (y_t (y_k (v := .bool (decide ((k : Int) < (r.length : Int)))) rfl rfl (fun _ => by kernel_rfl)) h1) rfl rfl rfl ?_)
    refine s_nil ?_
    refine q_then ?_
    refine c_seq ?_
    refine c_true rfl ?_
    refine c_skip ?_
    refine q_then ?_
    refine c_seq ?_
    refine c_block ?_
    refine c_seq ?_
    refine c_region ?_
    refine e_at 0 k rfl (by first | omega | (simp only [List.length_append, List.length_map, List.length_take, List.length_drop]; omega)) (fun b1 o1 x1 hA1 hx1 => ?_)
    refine st rfl (o_y (v := .pointer (some ⟨b1, o1 + k * 1, none⟩)) (y_at (d := boolTy) (l := r) k hA1 rfl rfl rfl (rfl) (List.getElem?_eq_some_iff.1 hx1).1 Tryd.underlying47 (by kernel_rfl) (by kernel_rfl)) rfl rfl rfl ?_)
    refine st rfl (o_ldf 0 0 rfl rfl rfl Tryd.underlying4 rfl rfl ?_)
    refine st rfl (o_y (v := .bool x1) (y_as rfl) rfl rfl rfl ?_)
    refine s_nil ?_
    refine q_then ?_
    refine c_seq ?_
    refine c_region ?_
    refine st rfl (o_y (v := .bool x1) (y_mv rfl) rfl rfl rfl ?_)
    refine st rfl (o_y (v := .bool (!x1)) (y_k rfl rfl (fun _ => by kernel_rfl)) rfl rfl rfl ?_)
    refine s_nil ?_
    refine q_then ?_
    refine c_bool rfl (fun h2 => ?_) (fun h2 => ?_)
    ·
      refine c_region ?_
      refine st rfl (o_y (v := .pointer (some ⟨b, 0, none⟩)) (y_mv rfl) rfl rfl rfl ?_)
      refine st rfl (o_y (v := .agg #[]) (y_k rfl rfl (fun _ => by kernel_rfl)) rfl rfl rfl ?_)
      refine st rfl (o_y (v := .iface 49 (.agg #[])) (y_k rfl rfl (fun _ => by kernel_rfl)) rfl rfl rfl ?_)
      refine st rfl (o_y (v := .pointer (some ⟨b, 0, none⟩)) (y_k rfl rfl (fun _ => by kernel_rfl)) rfl rfl rfl ?_)
      refine st rfl (o_y (v := .pointer (some ⟨b, 1, none⟩)) (y_k rfl rfl (fun _ => by kernel_rfl)) rfl rfl rfl ?_)
      refine st rfl (o_st 0 rfl rfl rfl rfl rfl (by kernel_rfl) (by kernel_rfl) rfl ?_)
      refine s_nil ?_
      refine q_block ?_
      refine q_then ?_
      refine c_region ?_
      refine st rfl (o_y (v := .int .i64 ((k : Int) + 1)) (y_add (r := (k : Int) + 1) rfl rfl rfl (by omega)) rfl rfl rfl ?_)
      refine st rfl (o_y (v := .int .i64 ((k : Int) + 1)) (y_mv rfl) rfl rfl rfl ?_)
      refine s_nil ?_
      refine q_then ?_
      refine c_next [0] [1] (k + 1, (.iface 49 (.agg #[]))) ?_ ?_ ?_ (by rfl) (by rfl)
      · exact (show ((k + 1) ≤ r.length) ∧ ((.iface 49 (.agg #[])) = errV (r.take (k + 1)) e0) from ⟨by first | omega | simp_all | (simp; done), by first | (rw [errV_step hx1 (by simpa using (by assumption : (!x1) = false))]; exact hev) | (rw [errV_not hx1 (by simpa using (by assumption : (!x1) = true))])⟩)
      · show r.length - (k + 1) < r.length - k; omega
      · exact (.cons rfl rfl (.cons rfl rfl (.cons rfl rfl (.cons rfl (show (.int .i64 ((k : Int) + 1) : Value) = .int .i64 ((k + 1) : Int) from by first | rfl | (congr 1; omega) | (congr 1; simp; done) | (congr 1; simp; omega)) .nil))))
    ·
      refine c_skip ?_
      refine q_block ?_
      refine q_then ?_
      refine c_region ?_
      refine st rfl (o_y (v := .int .i64 ((k : Int) + 1)) (y_add (r := (k : Int) + 1) rfl rfl rfl (by omega)) rfl rfl rfl ?_)
      refine st rfl (o_y (v := .int .i64 ((k : Int) + 1)) (y_mv rfl) rfl rfl rfl ?_)
      refine s_nil ?_
      refine q_then ?_
      refine c_next [0] [1] (k + 1, ev) ?_ ?_ ?_ (by rfl) (by rfl)
      · exact (show ((k + 1) ≤ r.length) ∧ (ev = errV (r.take (k + 1)) e0) from ⟨by first | omega | simp_all | (simp; done), by first | (rw [errV_step hx1 (by simpa using (by assumption : (!x1) = false))]; exact hev) | (rw [errV_not hx1 (by simpa using (by assumption : (!x1) = true))])⟩)
      · show r.length - (k + 1) < r.length - k; omega
      · exact (.cons rfl rfl (.cons rfl rfl (.cons rfl rfl (.cons rfl (show (.int .i64 ((k : Int) + 1) : Value) = .int .i64 ((k + 1) : Int) from by first | rfl | (congr 1; omega) | (congr 1; simp; done) | (congr 1; simp; omega)) .nil))))
  ·
    refine st rfl (o_y (v := .bool false) (y_f (y_k (v := .bool (decide ((k : Int) < (r.length : Int)))) rfl rfl (fun _ => by kernel_rfl)) h1) rfl rfl rfl ?_)
    refine s_nil ?_
    refine q_then ?_
    refine c_seq ?_
    refine c_false rfl ?_
    refine c_exit ?_
    refine q_then_exit ?_
    refine q_then_exit ?_
    refine q_block_here ?_
    have e0' : ev = errV r e0 := by rw [hev, List.take_of_length_le (by omega)]
    subst e0'
    refine c_fin_end (I' := []) [0] [0] rfl .nil rfl rfl rfl ?_
    exact ⟨rfl, rfl, rfl⟩
theorem must1_ (b : Nat) (A : Option Addr) (c : Nat) (l : List UInt8) (e0 : Value) (B : Option Addr) (d : Nat) (p : Prop) [Decidable p] : Con Tryd.prog 17 [.pointer (some ⟨b, 0, none⟩), .slice B [decide (p)].length d] [pt b [.slice A l.length c, e0] 44] [rd boolTy B d [decide (p)]] (fun v L' I' => ((p) ∧ v = .tuple #[] ∧ L' = [pt b [.slice A l.length c, e0] 44] ∧ I' = []) ∨ ((¬ (p)) ∧ v = .tuple #[] ∧ L' = [pt b [.slice A l.length c, .iface 49 (.agg #[])] 44] ∧ I' = [])) :=
  (must_ b A c l e0 B d [decide (p)] (by simp)).mono (fun v L' I' h => by
    obtain ⟨rfl, rfl, rfl⟩ := h
    by_cases hh : p
    · exact .inl ⟨hh, rfl, by simp [errV, hh], rfl⟩
    · refine .inr ⟨hh, rfl, ?_, rfl⟩
      have : ¬ ([decide (p)].all id = true) := by simpa using hh
      unfold errV; rw [if_neg this])
theorem must2_ (b : Nat) (A : Option Addr) (c : Nat) (l : List UInt8) (e0 : Value) (B : Option Addr) (d : Nat) (p : Prop) (q : Prop) [Decidable p] [Decidable q] : Con Tryd.prog 17 [.pointer (some ⟨b, 0, none⟩), .slice B [decide (p), decide (q)].length d] [pt b [.slice A l.length c, e0] 44] [rd boolTy B d [decide (p), decide (q)]] (fun v L' I' => ((p ∧ q) ∧ v = .tuple #[] ∧ L' = [pt b [.slice A l.length c, e0] 44] ∧ I' = []) ∨ ((¬ (p ∧ q)) ∧ v = .tuple #[] ∧ L' = [pt b [.slice A l.length c, .iface 49 (.agg #[])] 44] ∧ I' = [])) :=
  (must_ b A c l e0 B d [decide (p), decide (q)] (by simp)).mono (fun v L' I' h => by
    obtain ⟨rfl, rfl, rfl⟩ := h
    by_cases hh : p ∧ q
    · exact .inl ⟨hh, rfl, by simp [errV, hh], rfl⟩
    · refine .inr ⟨hh, rfl, ?_, rfl⟩
      have : ¬ ([decide (p), decide (q)].all id = true) := by simpa using hh
      unfold errV; rw [if_neg this])
theorem isOffset_ (b : Nat) (A : Option Addr) (c : Nat) (l : List UInt8) (e0 : Value) (at_ : Int) : Con Tryd.prog 18 [.pointer (some ⟨b, 0, none⟩), .int .i64 at_] [pt b [.slice A l.length c, e0] 44] [] (fun v L' I' => v = .bool (decide (0 ≤ at_ ∧ at_ ≤ (l.length : Int))) ∧ L' = [pt b [.slice A l.length c, e0] 44] ∧ I' = []) := by
  refine fn_of Tryd.func18 rfl Tryd.ntmps18 (by kernel_rfl) rfl (fun C => ?_)
  refine c_seq ?_
  refine c_region ?_
  refine st rfl (o_y (v := .bool false) (y_as rfl) rfl rfl rfl ?_)
  refine s_nil ?_
  refine q_then ?_
  refine c_seq ?_
  refine c_region ?_
  refine st rfl (o_y (v := .int .i64 at_) (y_mv rfl) rfl rfl rfl ?_)
  refine e_by (at_ ≥ 0) (fun h1 => ?_) (fun h1 => ?_)
  ·
    refine st rfl (o_y (v := .bool true) (y_t (y_k (v := .bool (decide (at_ ≥ 0))) rfl rfl (fun _ => by kernel_rfl)) h1) rfl rfl rfl ?_)
    refine st rfl (o_y (v := .bool true) (y_mv rfl) rfl rfl rfl ?_)
    refine st_on 7 rfl rfl rfl (o_y (v := .int .i64 at_) (y_mv rfl) rfl rfl rfl ?_)
    refine st_on 7 rfl rfl rfl (o_y (v := .pointer (some ⟨b, 0, none⟩)) (y_mv rfl) rfl rfl rfl ?_)
    refine st_on 7 rfl rfl rfl (o_y (v := .pointer (some ⟨b, 0, none⟩)) (y_k rfl rfl (fun _ => by kernel_rfl)) rfl rfl rfl ?_)
    refine st_on 7 rfl rfl rfl (o_y (v := .pointer (some ⟨b, 0, none⟩)) (y_k rfl rfl (fun _ => by kernel_rfl)) rfl rfl rfl ?_)
    refine st_on 7 rfl rfl rfl (o_y (v := .pointer (some ⟨b, 0, none⟩)) (y_k rfl rfl (fun _ => by kernel_rfl)) rfl rfl rfl ?_)
    refine st_on 7 rfl rfl rfl (o_ld 0 rfl rfl rfl Tryd.underlying38 rfl rfl ?_)
    refine st_on 7 rfl rfl rfl (o_y (v := .int .i64 (l.length : Int)) (y_k rfl rfl (fun _ => by kernel_rfl)) rfl rfl rfl ?_)
    refine e_by (at_ ≤ (l.length : Int)) (fun h2 => ?_) (fun h2 => ?_)
    ·
      refine st_on 7 rfl rfl rfl (o_y (v := .bool true) (y_t (y_k (v := .bool (decide (at_ ≤ (l.length : Int)))) rfl rfl (fun _ => by kernel_rfl)) h2) rfl rfl rfl ?_)
      refine st rfl (o_y (v := .bool true) (y_pick rfl rfl) rfl rfl rfl ?_)
      refine st rfl (o_y (v := .bool true) (y_as rfl) rfl rfl rfl ?_)
      refine s_nil ?_
      refine q_then ?_
      refine c_ret ?_
      refine c_fin (I' := []) [0] [] rfl (.tmp rfl .nil) rfl rfl rfl ?_
      exact ⟨by show Value.bool _ = Value.bool _; congr 1; symm; first | exact decide_eq_true (by omega) | exact decide_eq_false (by omega), rfl, rfl⟩
    ·
      refine st_on 7 rfl rfl rfl (o_y (v := .bool false) (y_f (y_k (v := .bool (decide (at_ ≤ (l.length : Int)))) rfl rfl (fun _ => by kernel_rfl)) h2) rfl rfl rfl ?_)
      refine st rfl (o_y (v := .bool false) (y_pick rfl rfl) rfl rfl rfl ?_)
      refine st rfl (o_y (v := .bool false) (y_as rfl) rfl rfl rfl ?_)
      refine s_nil ?_
      refine q_then ?_
      refine c_ret ?_
      refine c_fin (I' := []) [0] [] rfl (.tmp rfl .nil) rfl rfl rfl ?_
      exact ⟨by show Value.bool _ = Value.bool _; congr 1; symm; first | exact decide_eq_true (by omega) | exact decide_eq_false (by omega), rfl, rfl⟩
  ·
    refine st rfl (o_y (v := .bool false) (y_f (y_k (v := .bool (decide (at_ ≥ 0))) rfl rfl (fun _ => by kernel_rfl)) h1) rfl rfl rfl ?_)
    refine st rfl (o_y (v := .bool false) (y_mv rfl) rfl rfl rfl ?_)
    refine st_off 7 rfl rfl rfl rfl rfl rfl ?_
    refine st_off 7 rfl rfl rfl rfl rfl rfl ?_
    refine st_off 7 rfl rfl rfl rfl rfl rfl ?_
    refine st_off 7 rfl rfl rfl rfl rfl rfl ?_
    refine st_off 7 rfl rfl rfl rfl rfl rfl ?_
    refine st_off 7 rfl rfl rfl rfl rfl rfl ?_
    refine st_off 7 rfl rfl rfl rfl rfl rfl ?_
    refine st_off 7 rfl rfl rfl rfl rfl rfl ?_
    refine st rfl (o_y (v := .bool false) (y_pick rfl rfl) rfl rfl rfl ?_)
    refine st rfl (o_y (v := .bool false) (y_as rfl) rfl rfl rfl ?_)
    refine s_nil ?_
    refine q_then ?_
    refine c_ret ?_
    refine c_fin (I' := []) [0] [] rfl (.tmp rfl .nil) rfl rfl rfl ?_
    exact ⟨by show Value.bool _ = Value.bool _; congr 1; symm; first | exact decide_eq_true (by omega) | exact decide_eq_false (by omega), rfl, rfl⟩
theorem open_ (s : ByteArray) (hs : s.size ≤ 100000) : Con Tryd.prog 14 [.string s] [] [] (fun v L' I' => (∃ b : Nat, ∃ A : Option Addr, ((s.size : Int) ≤ 1000) ∧ v = .pointer (some ⟨b, 0, none⟩) ∧ L' = [pt b [.slice A s.data.toList.length s.size, .nilIface] 44, ars u8Ty 5 A s.size s.data.toList] ∧ I' = []) ∨ (∃ b : Nat, ∃ A : Option Addr, (¬ ((s.size : Int) ≤ 1000)) ∧ v = .pointer (some ⟨b, 0, none⟩) ∧ L' = [pt b [.slice A s.data.toList.length s.size, .iface 49 (.agg #[])] 44, ars u8Ty 5 A s.size s.data.toList] ∧ I' = [])) := by
  refine fn_of Tryd.func14 rfl Tryd.ntmps14 (by kernel_rfl) rfl (fun C => ?_)
  refine c_seq ?_
  refine c_region ?_
  refine st rfl (o_y (v := .pointer none) (y_as rfl) rfl rfl rfl ?_)
  refine s_nil ?_
  refine q_then ?_
  refine c_seq ?_
  refine c_region ?_
  refine st rfl (o_y (v := .string s) (y_mv rfl) rfl rfl rfl ?_)
  refine st rfl (o_y (v := .int .i64 (s.size : Int)) (y_k rfl rfl (fun _ => by kernel_rfl)) rfl rfl rfl ?_)
  refine st rfl (o_make (d := u8Ty) (zv := .int .u8 0) (bytes := 1) s.size (0 : UInt8) rfl rfl (rfl) Tryd.underlying38 (by kernel_rfl) rfl rfl rfl (by omega) (by simp only [maxLen]; omega) rfl (fun A1 => ?_))
  refine st rfl (o_y (v := .agg #[.slice A1 (List.replicate s.size (0 : UInt8)).length s.size]) (y_k rfl rfl (fun _ => by kernel_rfl)) rfl rfl rfl ?_)
  refine st rfl (o_y (v := .agg #[.slice A1 (List.replicate s.size (0 : UInt8)).length s.size, .nilIface]) (y_k rfl rfl (fun _ => by kernel_rfl)) rfl rfl rfl ?_)
  refine st rfl (o_box (cs := [.slice A1 (List.replicate s.size (0 : UInt8)).length s.size, .nilIface]) (T := 44) rfl rfl rfl rfl (fun _ => by kernel_rfl) (fun b1 => ?_))
  refine st rfl (o_y (v := .pointer (some ⟨b1, 0, none⟩)) (y_as rfl) rfl rfl rfl ?_)
  refine s_nil ?_
  refine q_then ?_
  refine c_seq ?_
  refine c_region ?_
  refine st rfl (o_y (v := .pointer (some ⟨b1, 0, none⟩)) (y_mv rfl) rfl rfl rfl ?_)
  refine st rfl (o_y (v := .pointer (some ⟨b1, 0, none⟩)) (y_k rfl rfl (fun _ => by kernel_rfl)) rfl rfl rfl ?_)
  refine st rfl (o_y (v := .pointer (some ⟨b1, 0, none⟩)) (y_k rfl rfl (fun _ => by kernel_rfl)) rfl rfl rfl ?_)
  refine st rfl (o_y (v := .pointer (some ⟨b1, 0, none⟩)) (y_k rfl rfl (fun _ => by kernel_rfl)) rfl rfl rfl ?_)
  refine st rfl (o_ld 0 rfl rfl rfl Tryd.underlying38 rfl rfl ?_)
  refine st rfl (o_y (v := .string s) (y_mv rfl) rfl rfl rfl ?_)
  refine st rfl (o_copys (s := s) 1 (fun _ h => by cases h; rfl) rfl rfl rfl rfl (by first | (simp; done) | (rw [List.length_replicate, len_bytes])) Tryd.underlying38 (by kernel_rfl) ?_)
  have h1 : (List.replicate s.size (0 : UInt8)).length = s.data.toList.length := (by first | (simp; done) | (rw [List.length_replicate, len_bytes]))
  rw [h1]
  refine s_nil ?_
  refine q_then ?_
  refine c_seq ?_
  refine c_region ?_
  refine st rfl (o_y (v := .pointer (some ⟨b1, 0, none⟩)) (y_mv rfl) rfl rfl rfl ?_)
  refine st rfl (o_y (v := .string s) (y_mv rfl) rfl rfl rfl ?_)
  refine st rfl (o_y (v := .int .i64 (s.size : Int)) (y_k rfl rfl (fun _ => by kernel_rfl)) rfl rfl rfl ?_)
  refine st rfl (o_y (v := .bool (decide ((s.size : Int) ≤ 1000))) (y_k rfl rfl (fun _ => by kernel_rfl)) rfl rfl rfl ?_)
  refine st rfl (o_lit (cs := [.bool (decide ((s.size : Int) ≤ 1000))]) (T := 4) (m := 1) rfl rfl rfl rfl (fun _ => by kernel_rfl) (fun b2 => ?_))
  refine e_calm 0 rfl ?_
  refine e_lit boolTy [decide ((s.size : Int) ≤ 1000)] 0 rfl rfl (by simp) ?_
  refine st rfl (o_call [0] [0] (must1_ b1 A1 s.size s.data.toList (.nilIface : Value) (some ⟨b2, 0, none⟩) 1 ((s.size : Int) ≤ 1000)) rfl rfl rfl rfl rfl rfl (fun v L' I' hq1 => ?_))
  rcases hq1 with ⟨h2, rfl, rfl, rfl⟩ | ⟨h3, rfl, rfl, rfl⟩
  ·
    refine s_nil ?_
    refine q_then ?_
    refine c_seq ?_
    refine c_region ?_
    refine st rfl (o_y (v := .pointer (some ⟨b1, 0, none⟩)) (y_mv rfl) rfl rfl rfl ?_)
    refine st rfl (o_y (v := .pointer (some ⟨b1, 0, none⟩)) (y_as rfl) rfl rfl rfl ?_)
    refine s_nil ?_
    refine q_then ?_
    refine c_ret ?_
    refine c_fin (I' := []) [0, 0] [] rfl (.tmp rfl .nil) rfl rfl rfl ?_
    exact .inl ⟨b1, A1, h2, rfl, rfl, rfl⟩
  ·
    refine s_nil ?_
    refine q_then ?_
    refine c_seq ?_
    refine c_region ?_
    refine st rfl (o_y (v := .pointer (some ⟨b1, 0, none⟩)) (y_mv rfl) rfl rfl rfl ?_)
    refine st rfl (o_y (v := .pointer (some ⟨b1, 0, none⟩)) (y_as rfl) rfl rfl rfl ?_)
    refine s_nil ?_
    refine q_then ?_
    refine c_ret ?_
    refine c_fin (I' := []) [0, 0] [] rfl (.tmp rfl .nil) rfl rfl rfl ?_
    exact .inr ⟨b1, A1, h3, rfl, rfl, rfl⟩
end Go.Proofs.YthjcekfehicjhabDoor
