/- The laws of chapter 17 (call), walked over the given program; no condition but what stands in each theorem: part K. -/
import Derived.Test.YtcnncdniibkjkaaGreatDoorRH
import Derived.Test.YtcnncdniibkjkaaGreatDoorRJ
set_option linter.unusedVariables false
set_option linter.unusedSimpArgs false
set_option maxRecDepth 100000
set_option maxHeartbeats 8000000
namespace Go.Proofs.YtcnncdniibkjkaaGreatDoor
open Go Go.Sl Go.RowKit Go.Extern.Stop Go.Stop Go.Extern

theorem number_rest (w : Int) (r : ByteArray) (q : Er) : (numberF w r q).2.1.size ≤ r.size := takeS_rest w r (badW w r q)
def getG (w : Int) (s : ByteArray) : Nat × ByteArray × Int :=
  if (endF (numberF w s none).2.1 (numberF w s none).2.2).2 = 0 then ((numberF w s none).1, (endF (numberF w s none).2.1 (numberF w s none).2.2).1, 0) else (0, ⟨#[]⟩, (endF (numberF w s none).2.1 (numberF w s none).2.2).2)
def badT (s : ByteArray) : Er := if (numberF 1 s none).1 > 200 then some (2, (numberF 1 s none).2.1.size) else (numberF 1 s none).2.2
def takT (s : ByteArray) : ByteArray × ByteArray × Er := takeS ((numberF 1 s none).1 : Int) (numberF 1 s none).2.1 (badT s)
def textG (s : ByteArray) : ByteArray × ByteArray × Int :=
  if (endF (takT s).2.1 (takT s).2.2).2 = 0 then ((takT s).1, (endF (takT s).2.1 (takT s).2.2).1, 0) else (⟨#[]⟩, ⟨#[]⟩, (endF (takT s).2.1 (takT s).2.2).2)
def ptextF (t : ByteArray) : ByteArray × Int := if (t.size : Int) > 200 then (⟨#[]⟩, 31) else (beB 1 t.size ++ t, 0)
theorem Put_ (w : Int) (n : Nat) (ea : Addr) (em : Addr) (ef : Addr) (h12 : ea ≠ em) (h13 : ea ≠ ef) (h23 : em ≠ ef) (hn : n < 18446744073709551616) : Con Tryz.prog 44 [.int .i64 w, .int .u64 (n : Int)] [] [cellsAt 2 0 [.iface 180 (.pointer (some ea))], cellsAt 3 0 [.iface 180 (.pointer (some em))], cellsAt 1 0 [.iface 180 (.pointer (some ef))], errAt ea, errAt em, errAt ef, cellsAt 0 0 [.iface 147 (.agg #[.pointer (some ⟨5, 48, none⟩)])]] (fun v L' I' => v = .tuple #[.string ((putF w n).1), .int .i64 ((putF w n).2)] ∧ L' = [] ∧ I' = []) := by
 refine fn_of Tryz.func44 rfl Tryz.ntmps44 (by kernel_rfl) rfl (fun C => ?_)
 refine c_seq (c_region ?_)
 refine s_y rfl (v := .string (⟨#[]⟩ : ByteArray)) (y_as rfl) rfl ?_
 refine s_y rfl (v := .int .i64 0) (y_as rfl) rfl ?_
 refine s_nil (q_then (c_seq (c_region ?_)))
 refine s_y rfl (v := .int .i64 w) (y_mv rfl) rfl ?_
 refine s_y rfl (v := .int .u64 (n : Int)) (y_mv rfl) rfl ?_
 refine st rfl (o_call [] [0, 1, 2, 3, 4, 5, 6] (put_ w n ea em ef (by first | omega | assumption | exact h64 _ (List.mem_of_getElem? (by assumption)))) rfl rfl rfl rfl rfl rfl (fun v L' I' hq1 => ?_))
 rcases hq1 with ⟨h24, h25, rfl, rfl, rfl⟩ | ⟨h26, h27, rfl, rfl, rfl⟩ | ⟨h28, rfl, rfl, rfl⟩
 ·
  refine s_y rfl (v := .tuple #[.string (beB w n), .nilIface]) (y_mv rfl) rfl ?_
  refine s_y rfl (v := .string (beB w n)) (y_k rfl rfl (fun _ => by kernel_rfl)) rfl ?_
  refine s_y rfl (v := .nilIface) (y_k rfl rfl (fun _ => by kernel_rfl)) rfl ?_
  refine s_y rfl (v := .string (beB w n)) (y_as rfl) rfl ?_
  refine s_y rfl (v := .nilIface) (y_as rfl) rfl ?_
  refine s_nil (q_then (c_seq (c_region ?_)))
  refine s_y rfl (v := .string (beB w n)) (y_mv rfl) rfl ?_
  refine s_y rfl (v := .nilIface) (y_mv rfl) rfl ?_
  refine st rfl (o_call [] [0, 1, 2, 3, 4, 5, 6] (told_nil_ ea em ef (by assumption) (by assumption) (by assumption)) rfl rfl rfl rfl rfl rfl (fun v L' I' hq2 => ?_))
  obtain ⟨rfl, rfl, rfl⟩ := hq2
  refine s_y rfl (v := .string (beB w n)) (y_as rfl) rfl ?_
  refine s_y rfl (v := .int .i64 0) (y_as rfl) rfl ?_
  refine s_nil (q_then (c_ret ?_))
  have hp : putF w n = (beB w n, 0) := by unfold putF; first | (rw [if_pos (by assumption), if_pos (by assumption)]; done) | (rw [if_pos (by assumption), if_neg (by assumption)]; done) | (rw [if_neg (by assumption)]; done)
  refine c_fin (I' := []) [] [0, 1, 2, 3, 4, 5, 6] rfl (.tmp rfl (.tmp rfl .nil)) rfl rfl rfl ?_
  rw [hp]
  exact ⟨rfl, rfl, rfl⟩
 ·
  refine s_y rfl (v := .tuple #[.string (⟨#[]⟩ : ByteArray), .iface 180 (.pointer (some ef))]) (y_mv rfl) rfl ?_
  refine s_y rfl (v := .string (⟨#[]⟩ : ByteArray)) (y_k rfl rfl (fun _ => by kernel_rfl)) rfl ?_
  refine s_y rfl (v := .iface 180 (.pointer (some ef))) (y_k rfl rfl (fun _ => by kernel_rfl)) rfl ?_
  refine s_y rfl (v := .string (⟨#[]⟩ : ByteArray)) (y_as rfl) rfl ?_
  refine s_y rfl (v := .iface 180 (.pointer (some ef))) (y_as rfl) rfl ?_
  refine s_nil (q_then (c_seq (c_region ?_)))
  refine s_y rfl (v := .string (⟨#[]⟩ : ByteArray)) (y_mv rfl) rfl ?_
  refine s_y rfl (v := .iface 180 (.pointer (some ef))) (y_mv rfl) rfl ?_
  refine st rfl (o_call [] [0, 1, 2, 3, 4, 5, 6] (told_ef_ ea em ef (by assumption) (by assumption) (by assumption)) rfl rfl rfl rfl rfl rfl (fun v L' I' hq3 => ?_))
  obtain ⟨rfl, rfl, rfl⟩ := hq3
  refine s_y rfl (v := .string (⟨#[]⟩ : ByteArray)) (y_as rfl) rfl ?_
  refine s_y rfl (v := .int .i64 31) (y_as rfl) rfl ?_
  refine s_nil (q_then (c_ret ?_))
  have hp : putF w n = ((⟨#[]⟩ : ByteArray), 31) := by unfold putF; first | (rw [if_pos (by assumption), if_pos (by assumption)]; done) | (rw [if_pos (by assumption), if_neg (by assumption)]; done) | (rw [if_neg (by assumption)]; done)
  refine c_fin (I' := []) [] [0, 1, 2, 3, 4, 5, 6] rfl (.tmp rfl (.tmp rfl .nil)) rfl rfl rfl ?_
  rw [hp]
  exact ⟨rfl, rfl, rfl⟩
 ·
  refine s_y rfl (v := .tuple #[.string (⟨#[]⟩ : ByteArray), .iface 180 (.pointer (some ea))]) (y_mv rfl) rfl ?_
  refine s_y rfl (v := .string (⟨#[]⟩ : ByteArray)) (y_k rfl rfl (fun _ => by kernel_rfl)) rfl ?_
  refine s_y rfl (v := .iface 180 (.pointer (some ea))) (y_k rfl rfl (fun _ => by kernel_rfl)) rfl ?_
  refine s_y rfl (v := .string (⟨#[]⟩ : ByteArray)) (y_as rfl) rfl ?_
  refine s_y rfl (v := .iface 180 (.pointer (some ea))) (y_as rfl) rfl ?_
  refine s_nil (q_then (c_seq (c_region ?_)))
  refine s_y rfl (v := .string (⟨#[]⟩ : ByteArray)) (y_mv rfl) rfl ?_
  refine s_y rfl (v := .iface 180 (.pointer (some ea))) (y_mv rfl) rfl ?_
  refine st rfl (o_call [] [0, 1, 2, 3, 4, 5, 6] (told_ea_ ea em ef (by assumption) (by assumption) (by assumption)) rfl rfl rfl rfl rfl rfl (fun v L' I' hq4 => ?_))
  obtain ⟨rfl, rfl, rfl⟩ := hq4
  refine s_y rfl (v := .string (⟨#[]⟩ : ByteArray)) (y_as rfl) rfl ?_
  refine s_y rfl (v := .int .i64 2) (y_as rfl) rfl ?_
  refine s_nil (q_then (c_ret ?_))
  have hp : putF w n = ((⟨#[]⟩ : ByteArray), 2) := by unfold putF; first | (rw [if_pos (by assumption), if_pos (by assumption)]; done) | (rw [if_pos (by assumption), if_neg (by assumption)]; done) | (rw [if_neg (by assumption)]; done)
  refine c_fin (I' := []) [] [0, 1, 2, 3, 4, 5, 6] rfl (.tmp rfl (.tmp rfl .nil)) rfl rfl rfl ?_
  rw [hp]
  exact ⟨rfl, rfl, rfl⟩
theorem end_ (b : Nat) (r : ByteArray) (q : Er) (ea : Addr) (em : Addr) (ef : Addr) (h12 : ea ≠ em) (h13 : ea ≠ ef) (h23 : em ≠ ef) : Con Tryz.prog 80 [.pointer (some ⟨b, 0, none⟩)] [pt b [.string r, erV ea em ef q] 126] [cellsAt 2 0 [.iface 180 (.pointer (some ea))], cellsAt 3 0 [.iface 180 (.pointer (some em))], cellsAt 1 0 [.iface 180 (.pointer (some ef))], errAt ea, errAt em, errAt ef, cellsAt 0 0 [.iface 147 (.agg #[.pointer (some ⟨5, 48, none⟩)])]] (fun v L' I' => v = .tuple #[.string ((endF r q).1), .int .i64 ((endF r q).2)] ∧ L' = [pt b [.string r, erV ea em ef q] 126] ∧ I' = []) := by
 refine fn_of Tryz.func80 rfl Tryz.ntmps80 (by kernel_rfl) rfl (fun C => ?_)
 refine c_seq (c_region ?_)
 refine s_y rfl (v := .string (⟨#[]⟩ : ByteArray)) (y_as rfl) rfl ?_
 refine s_y rfl (v := .int .i64 0) (y_as rfl) rfl ?_
 refine s_nil (q_then (c_seq (c_seq (c_region ?_))))
 refine s_y rfl (v := .pointer (some ⟨b, 0, none⟩)) (y_mv rfl) rfl ?_
 refine s_y rfl (v := .pointer (some ⟨b, 0, none⟩)) (y_k rfl rfl (fun _ => by kernel_rfl)) rfl ?_
 refine s_y rfl (v := .pointer (some ⟨b, 1, none⟩)) (y_k rfl rfl (fun _ => by kernel_rfl)) rfl ?_
 refine st rfl (o_ld 0 rfl rfl rfl Tryz.underlying48 rfl rfl ?_)
 refine e_by (q = none) (fun h24 => ?_) (fun h24 => ?_)
 ·
  refine s_y rfl (v := .bool false) (y_nt (y_bin rfl rfl (fun w => er_ne ea em ef q _ w)) h24) rfl ?_
  refine s_nil (q_then (c_false rfl (c_skip (q_then (c_seq (c_region ?_))))))
  refine s_y rfl (v := .pointer (some ⟨b, 0, none⟩)) (y_mv rfl) rfl ?_
  refine s_y rfl (v := .pointer (some ⟨b, 0, none⟩)) (y_k rfl rfl (fun _ => by kernel_rfl)) rfl ?_
  refine s_y rfl (v := .pointer (some ⟨b, 0, none⟩)) (y_k rfl rfl (fun _ => by kernel_rfl)) rfl ?_
  refine s_y rfl (v := .pointer (some ⟨b, 0, none⟩)) (y_k rfl rfl (fun _ => by kernel_rfl)) rfl ?_
  refine st rfl (o_ld 0 rfl rfl rfl Tryz.underlying9 rfl rfl ?_)
  refine s_y rfl (v := .string r) (y_as rfl) rfl ?_
  refine s_y rfl (v := .int .i64 0) (y_as rfl) rfl ?_
  refine s_nil (q_then (c_ret ?_))
  refine c_fin (I' := []) [0] [0, 1, 2, 3, 4, 5, 6] rfl (.tmp rfl (.tmp rfl .nil)) rfl rfl rfl ?_
  exact ⟨by simp only [packed]; unfold endF; first | rw [if_pos (by assumption)] | rw [if_neg (by assumption)], rfl, rfl⟩
 ·
  refine s_y rfl (v := .bool true) (y_nf (y_bin rfl rfl (fun w => er_ne ea em ef q _ w)) h24) rfl ?_
  refine s_nil (q_then (c_true rfl (c_seq (c_region ?_))))
  refine s_y rfl (v := .pointer (some ⟨b, 0, none⟩)) (y_mv rfl) rfl ?_
  refine s_y rfl (v := .pointer (some ⟨b, 0, none⟩)) (y_k rfl rfl (fun _ => by kernel_rfl)) rfl ?_
  refine s_y rfl (v := .pointer (some ⟨b, 1, none⟩)) (y_k rfl rfl (fun _ => by kernel_rfl)) rfl ?_
  refine st rfl (o_ld 0 rfl rfl rfl Tryz.underlying48 rfl rfl ?_)
  refine st rfl (o_call [] [0, 1, 2, 3, 4, 5, 6] (told_er_ ea em ef (by assumption) (by assumption) (by assumption) q) rfl rfl rfl rfl rfl rfl (fun v L' I' hq1 => ?_))
  obtain ⟨rfl, rfl, rfl⟩ := hq1
  refine s_y rfl (v := .string (⟨#[]⟩ : ByteArray)) (y_as rfl) rfl ?_
  refine s_y rfl (v := .int .i64 (erN q)) (y_as rfl) rfl ?_
  refine s_nil (q_then (c_ret (q_then_ret ?_)))
  refine c_fin (I' := []) [0] [0, 1, 2, 3, 4, 5, 6] rfl (.tmp rfl (.tmp rfl .nil)) rfl rfl rfl ?_
  exact ⟨by simp only [packed]; unfold endF; first | rw [if_pos (by assumption)] | rw [if_neg (by assumption)], rfl, rfl⟩
theorem Get_ (w : Int) (s : ByteArray) (ea : Addr) (em : Addr) (ef : Addr) (h12 : ea ≠ em) (h13 : ea ≠ ef) (h23 : em ≠ ef) (hs : s.size ≤ 9223372036854775807) : Con Tryz.prog 50 [.int .i64 w, .string s] [] [cellsAt 2 0 [.iface 180 (.pointer (some ea))], cellsAt 3 0 [.iface 180 (.pointer (some em))], cellsAt 1 0 [.iface 180 (.pointer (some ef))], errAt ea, errAt em, errAt ef, cellsAt 0 0 [.iface 147 (.agg #[.pointer (some ⟨5, 48, none⟩)])]] (fun v L' I' => v = .tuple #[.int .u64 ((getG w s).1 : Int), .string ((getG w s).2.1), .int .i64 ((getG w s).2.2)] ∧ L' = [] ∧ I' = []) := by
 refine fn_of Tryz.func50 rfl Tryz.ntmps50 (by kernel_rfl) rfl (fun C => ?_)
 refine c_seq (c_region ?_)
 refine s_y rfl (v := .int .u64 0) (y_as rfl) rfl ?_
 refine s_y rfl (v := .string (⟨#[]⟩ : ByteArray)) (y_as rfl) rfl ?_
 refine s_y rfl (v := .int .i64 0) (y_as rfl) rfl ?_
 refine s_nil (q_then (c_seq (c_region ?_)))
 refine s_y rfl (v := .string s) (y_mv rfl) rfl ?_
 refine s_y rfl (v := .agg #[.string s]) (y_k rfl rfl (fun _ => by kernel_rfl)) rfl ?_
 refine s_y rfl (v := .agg #[.string s, .nilIface]) (y_k rfl rfl (fun _ => by kernel_rfl)) rfl ?_
 refine st rfl (o_box (cs := [.string s, .nilIface]) (T := 126) rfl rfl rfl rfl (fun _ => by kernel_rfl) (fun b1 => ?_))
 refine s_y rfl (v := .pointer (some ⟨b1, 0, none⟩)) (y_as rfl) rfl ?_
 refine s_nil (q_then (c_seq (c_region ?_)))
 refine s_y rfl (v := .pointer (some ⟨b1, 0, none⟩)) (y_mv rfl) rfl ?_
 refine s_y rfl (v := .int .i64 w) (y_mv rfl) rfl ?_
 show Ent _ _ _ _ [pt b1 [.string s, erV ea em ef none] 126] _ _
 refine st rfl (o_call [0] [0, 1, 2, 3, 4, 5, 6] (number_ b1 w s none ea em ef (by first | omega | (rw [ByteArray.size_append]; omega) | decide | assumption)) rfl rfl rfl rfl rfl rfl (fun v L' I' hq1 => ?_))
 obtain ⟨rfl, rfl, rfl⟩ := hq1
 refine s_y rfl (v := .int .u64 ((numberF w s none).1 : Int)) (y_as rfl) rfl ?_
 refine s_nil (q_then (c_seq (c_region ?_)))
 refine s_y rfl (v := .pointer (some ⟨b1, 0, none⟩)) (y_mv rfl) rfl ?_
 refine st rfl (o_call [0] [0, 1, 2, 3, 4, 5, 6] (end_ b1 ((numberF w s none).2.1) ((numberF w s none).2.2) ea em ef (by assumption) (by assumption) (by assumption)) rfl rfl rfl rfl rfl rfl (fun v L' I' hq2 => ?_))
 obtain ⟨rfl, rfl, rfl⟩ := hq2
 refine s_y rfl (v := .tuple #[.string ((endF ((numberF w s none).2.1) ((numberF w s none).2.2)).1), .int .i64 ((endF ((numberF w s none).2.1) ((numberF w s none).2.2)).2)]) (y_mv rfl) rfl ?_
 refine s_y rfl (v := .string ((endF ((numberF w s none).2.1) ((numberF w s none).2.2)).1)) (y_k rfl rfl (fun _ => by kernel_rfl)) rfl ?_
 refine s_y rfl (v := .int .i64 ((endF ((numberF w s none).2.1) ((numberF w s none).2.2)).2)) (y_k rfl rfl (fun _ => by kernel_rfl)) rfl ?_
 refine s_y rfl (v := .string ((endF ((numberF w s none).2.1) ((numberF w s none).2.2)).1)) (y_as rfl) rfl ?_
 refine s_y rfl (v := .int .i64 ((endF ((numberF w s none).2.1) ((numberF w s none).2.2)).2)) (y_as rfl) rfl ?_
 refine s_nil (q_then (c_seq (c_seq (c_region ?_))))
 refine s_y rfl (v := .int .i64 ((endF ((numberF w s none).2.1) ((numberF w s none).2.2)).2)) (y_mv rfl) rfl ?_
 refine e_by ((endF ((numberF w s none).2.1) ((numberF w s none).2.2)).2 = 0) (fun h24 => ?_) (fun h24 => ?_)
 ·
  refine s_y rfl (v := .bool false) (y_nt (y_k (v := .bool (!decide ((endF ((numberF w s none).2.1) ((numberF w s none).2.2)).2 = 0))) rfl rfl (fun _ => by kernel_rfl)) h24) rfl ?_
  refine s_nil (q_then (c_false rfl (c_skip (q_then (c_seq (c_region ?_))))))
  refine s_y rfl (v := .int .u64 ((numberF w s none).1 : Int)) (y_mv rfl) rfl ?_
  refine s_y rfl (v := .string ((endF ((numberF w s none).2.1) ((numberF w s none).2.2)).1)) (y_mv rfl) rfl ?_
  refine s_y rfl (v := .int .u64 ((numberF w s none).1 : Int)) (y_as rfl) rfl ?_
  refine s_y rfl (v := .string ((endF ((numberF w s none).2.1) ((numberF w s none).2.2)).1)) (y_as rfl) rfl ?_
  refine s_y rfl (v := .int .i64 0) (y_as rfl) rfl ?_
  refine s_nil (q_then (c_ret ?_))
  have hp : getG w s = ((numberF w s none).1, (endF ((numberF w s none).2.1) ((numberF w s none).2.2)).1, 0) := by unfold getG; first | (rw [if_pos (by assumption)]; done) | (rw [if_neg (by assumption)]; done)
  refine c_fin (I' := []) [] [0, 1, 2, 3, 4, 5, 6] rfl (.tmp rfl (.tmp rfl (.tmp rfl .nil))) rfl rfl rfl ?_
  rw [hp]
  exact ⟨rfl, rfl, rfl⟩
 ·
  refine s_y rfl (v := .bool true) (y_nf (y_k (v := .bool (!decide ((endF ((numberF w s none).2.1) ((numberF w s none).2.2)).2 = 0))) rfl rfl (fun _ => by kernel_rfl)) h24) rfl ?_
  refine s_nil (q_then (c_true rfl (c_seq (c_region ?_))))
  refine s_y rfl (v := .int .i64 ((endF ((numberF w s none).2.1) ((numberF w s none).2.2)).2)) (y_mv rfl) rfl ?_
  refine s_y rfl (v := .int .u64 0) (y_as rfl) rfl ?_
  refine s_y rfl (v := .string (⟨#[]⟩ : ByteArray)) (y_as rfl) rfl ?_
  refine s_y rfl (v := .int .i64 ((endF ((numberF w s none).2.1) ((numberF w s none).2.2)).2)) (y_as rfl) rfl ?_
  refine s_nil (q_then (c_ret (q_then_ret ?_)))
  have hp : getG w s = (0, (⟨#[]⟩ : ByteArray), (endF ((numberF w s none).2.1) ((numberF w s none).2.2)).2) := by unfold getG; first | (rw [if_pos (by assumption)]; done) | (rw [if_neg (by assumption)]; done)
  refine c_fin (I' := []) [] [0, 1, 2, 3, 4, 5, 6] rfl (.tmp rfl (.tmp rfl (.tmp rfl .nil))) rfl rfl rfl ?_
  rw [hp]
  exact ⟨rfl, rfl, rfl⟩
end Go.Proofs.YtcnncdniibkjkaaGreatDoor
