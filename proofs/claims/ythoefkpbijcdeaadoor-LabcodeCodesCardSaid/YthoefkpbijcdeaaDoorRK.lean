/- The laws of chapter 4 (labcode), walked over the given program; no condition but what stands in each theorem: part K. -/
import Derived.Test.YthoefkpbijcdeaaDoorRI
set_option linter.unusedVariables false
set_option linter.unusedSimpArgs false
set_option maxRecDepth 100000
set_option maxHeartbeats 8000000
namespace Go.Proofs.YthoefkpbijcdeaaDoor
open Go Go.Sl Go.RowKit Go.Extern.Stop Go.Stop Go.Extern

theorem number_rest (w : Int) (r : ByteArray) (q : Er) : (numberF w r q).2.1.size ≤ r.size := takeS_rest w r (badW w r q)
def getG (w : Int) (s : ByteArray) : Nat × ByteArray × Int :=
  if (endF (numberF w s none).2.1 (numberF w s none).2.2).2 = 0 then ((numberF w s none).1, (endF (numberF w s none).2.1 (numberF w s none).2.2).1, 0) else (0, ⟨#[]⟩, (endF (numberF w s none).2.1 (numberF w s none).2.2).2)
def badT (s : ByteArray) : Er := if (numberF 1 s none).1 > 200 then some (2, (numberF 1 s none).2.1.size) else (numberF 1 s none).2.2
def takT (s : ByteArray) : ByteArray × ByteArray × Er := takeS ((numberF 1 s none).1 : Int) (numberF 1 s none).2.1 (badT s)
def textG (s : ByteArray) : ByteArray × ByteArray × Int :=
  if (endF (takT s).2.1 (takT s).2.2).2 = 0 then ((takT s).1, (endF (takT s).2.1 (takT s).2.2).1, 0) else (⟨#[]⟩, ⟨#[]⟩, (endF (takT s).2.1 (takT s).2.2).2)
def ptextF (t : ByteArray) : ByteArray × Int := if (t.size : Int) > 200 then (⟨#[]⟩, 31) else (beB 1 t.size ++ t, 0)
theorem end_ (b : Nat) (r : ByteArray) (q : Er) (ea : Addr) (em : Addr) (ef : Addr) (h12 : ea ≠ em) (h13 : ea ≠ ef) (h23 : em ≠ ef) : Con Tryd.prog 59 [.pointer (some ⟨b, 0, none⟩)] [pt b [.string r, erV ea em ef q] 106] [cellsAt 1 0 [.iface 141 (.pointer (some ea))], cellsAt 3 0 [.iface 141 (.pointer (some em))], cellsAt 4 0 [.iface 141 (.pointer (some ef))], errAt ea, errAt em, errAt ef, cellsAt 2 0 [.iface 122 (.agg #[.pointer (some ⟨5, 46, none⟩)])]] (fun v L' I' => v = .tuple #[.string ((endF r q).1), .int .i64 ((endF r q).2)] ∧ L' = [pt b [.string r, erV ea em ef q] 106] ∧ I' = []) := by
  refine fn_of Tryd.func59 rfl Tryd.ntmps59 (by kernel_rfl) rfl (fun C => ?_)
  refine c_seq ?_
  refine c_region ?_
  refine st rfl (o_y (v := .string (⟨#[]⟩ : ByteArray)) (y_as rfl) rfl rfl rfl ?_)
  refine st rfl (o_y (v := .int .i64 0) (y_as rfl) rfl rfl rfl ?_)
  refine s_nil ?_
  refine q_then ?_
  refine c_seq ?_
  refine c_seq ?_
  refine c_region ?_
  refine st rfl (o_y (v := .pointer (some ⟨b, 0, none⟩)) (y_mv rfl) rfl rfl rfl ?_)
  refine st rfl (o_y (v := .pointer (some ⟨b, 0, none⟩)) (y_k rfl rfl (fun _ => by kernel_rfl)) rfl rfl rfl ?_)
  refine st rfl (o_y (v := .pointer (some ⟨b, 1, none⟩)) (y_k rfl rfl (fun _ => by kernel_rfl)) rfl rfl rfl ?_)
  refine st rfl (o_ld 0 rfl rfl rfl Tryd.underlying46 rfl rfl ?_)
  refine e_by (q = none) (fun h24 => ?_) (fun h24 => ?_)
  ·
    refine st rfl (o_y (v := .bool false) (y_nt (y_bin rfl rfl (fun w => er_ne ea em ef q _ w)) h24) rfl rfl rfl ?_)
    refine s_nil ?_
    refine q_then ?_
    refine c_false rfl ?_
    refine c_skip ?_
    refine q_then ?_
    refine c_seq ?_
    refine c_region ?_
    refine st rfl (o_y (v := .pointer (some ⟨b, 0, none⟩)) (y_mv rfl) rfl rfl rfl ?_)
    refine st rfl (o_y (v := .pointer (some ⟨b, 0, none⟩)) (y_k rfl rfl (fun _ => by kernel_rfl)) rfl rfl rfl ?_)
    refine st rfl (o_y (v := .pointer (some ⟨b, 0, none⟩)) (y_k rfl rfl (fun _ => by kernel_rfl)) rfl rfl rfl ?_)
    refine st rfl (o_y (v := .pointer (some ⟨b, 0, none⟩)) (y_k rfl rfl (fun _ => by kernel_rfl)) rfl rfl rfl ?_)
    refine st rfl (o_ld 0 rfl rfl rfl Tryd.underlying9 rfl rfl ?_)
    refine st rfl (o_y (v := .string r) (y_as rfl) rfl rfl rfl ?_)
    refine st rfl (o_y (v := .int .i64 0) (y_as rfl) rfl rfl rfl ?_)
    refine s_nil ?_
    refine q_then ?_
    refine c_ret ?_
    refine c_fin (I' := []) [0] [0, 1, 2, 3, 4, 5, 6] rfl (.tmp rfl (.tmp rfl .nil)) rfl rfl rfl ?_
    exact ⟨by simp only [packed]; unfold endF; first | rw [if_pos (by assumption)] | rw [if_neg (by assumption)], rfl, rfl⟩
  ·
    refine st rfl (o_y (v := .bool true) (y_nf (y_bin rfl rfl (fun w => er_ne ea em ef q _ w)) h24) rfl rfl rfl ?_)
    refine s_nil ?_
    refine q_then ?_
    refine c_true rfl ?_
    refine c_seq ?_
    refine c_region ?_
    refine st rfl (o_y (v := .pointer (some ⟨b, 0, none⟩)) (y_mv rfl) rfl rfl rfl ?_)
    refine st rfl (o_y (v := .pointer (some ⟨b, 0, none⟩)) (y_k rfl rfl (fun _ => by kernel_rfl)) rfl rfl rfl ?_)
    refine st rfl (o_y (v := .pointer (some ⟨b, 1, none⟩)) (y_k rfl rfl (fun _ => by kernel_rfl)) rfl rfl rfl ?_)
    refine st rfl (o_ld 0 rfl rfl rfl Tryd.underlying46 rfl rfl ?_)
    refine st rfl (o_call [] [0, 1, 2, 3, 4, 5, 6] (told_er_ ea em ef (by assumption) (by assumption) (by assumption) q) rfl rfl rfl rfl rfl rfl (fun v L' I' hq1 => ?_))
    obtain ⟨rfl, rfl, rfl⟩ := hq1
    refine st rfl (o_y (v := .string (⟨#[]⟩ : ByteArray)) (y_as rfl) rfl rfl rfl ?_)
    refine st rfl (o_y (v := .int .i64 (erN q)) (y_as rfl) rfl rfl rfl ?_)
    refine s_nil ?_
    refine q_then ?_
    refine c_ret ?_
    refine q_then_ret ?_
    refine c_fin (I' := []) [0] [0, 1, 2, 3, 4, 5, 6] rfl (.tmp rfl (.tmp rfl .nil)) rfl rfl rfl ?_
    exact ⟨by simp only [packed]; unfold endF; first | rw [if_pos (by assumption)] | rw [if_neg (by assumption)], rfl, rfl⟩
end Go.Proofs.YthoefkpbijcdeaaDoor
