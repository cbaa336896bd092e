/- The laws of chapter 17 (call), walked over the given program; no condition but what stands in each theorem: part RA9. -/
import Derived.Test.YtcnncdniibkjkaaGreatDoorRRA4
import Derived.Test.YtcnncdniibkjkaaGreatDoorRLPH
set_option linter.unusedVariables false
set_option linter.unusedSimpArgs false
set_option maxRecDepth 100000
set_option maxHeartbeats 8000000
namespace Go.Proofs.YtcnncdniibkjkaaGreatDoor
open Go Go.Sl Go.RowKit Go.Extern.Stop Go.Stop Go.Extern

theorem rr_x {e n : Int} {d : ByteArray} {l : List ByteArray} {a : Lab} {k : Nat} {o : ByteArray} (h1 : numE 2 e = 0) (h2 : numE 4 n = 0) (h3 : numE 2 (d.size : Int) = 0) (h4 : numE 1 (l.length : Int) = 0) (h6 : (putL a).2 = 0) (ht : ∀ t ∈ l.take k, (ptextF t).2 = 0) (hk : l.length ≤ k) (ho : o = ((((numS 2 e ++ numS 4 n) ++ numS 2 (d.size : Int)) ++ d) ++ numS 1 (l.length : Int)) ++ encT (l.take k)) : repOk e n d l a ∧ (repX e n d l a).1 = o ++ (putL a).1 := by
  rw [List.take_of_length_le hk] at ht ho
  refine ⟨⟨h1, h2, h3, h4, ht, h6⟩, ?_⟩
  rw [rx_parts, ho, numS_ok h1, numS_ok h2, numS_ok h3, numS_ok h4]
  simp only [ba_assoc]
theorem rr_g {e n : Int} {d : ByteArray} {l : List ByteArray} {a : Lab} {k : Nat} {o : ByteArray} (h1 : numE 2 e = 0) (h2 : numE 4 n = 0) (h3 : numE 2 (d.size : Int) = 0) (h4 : numE 1 (l.length : Int) = 0) (h6 : (putL a).2 = 0) (ht : ∀ t ∈ l.take k, (ptextF t).2 = 0) (hk : l.length ≤ k) (ho : o = ((((numS 2 e ++ numS 4 n) ++ numS 2 (d.size : Int)) ++ d) ++ numS 1 (l.length : Int)) ++ encT (l.take k)) (hs : (o ++ (putL a).1).size ≤ 2000) : repPut e n d l a = (o ++ (putL a).1, 0) := by
  obtain ⟨q1, q2⟩ := rr_x h1 h2 h3 h4 h6 ht hk ho
  unfold repPut
  rw [q2, if_pos ⟨rx_ok q1, hs⟩]
theorem rr_r {e n : Int} {d : ByteArray} {l : List ByteArray} {a : Lab} {k : Nat} {o : ByteArray} (h1 : numE 2 e = 0) (h2 : numE 4 n = 0) (h3 : numE 2 (d.size : Int) = 0) (h4 : numE 1 (l.length : Int) = 0) (h6 : (putL a).2 = 0) (ht : ∀ t ∈ l.take k, (ptextF t).2 = 0) (hk : l.length ≤ k) (ho : o = ((((numS 2 e ++ numS 4 n) ++ numS 2 (d.size : Int)) ++ d) ++ numS 1 (l.length : Int)) ++ encT (l.take k)) (hs : ¬ (o ++ (putL a).1).size ≤ 2000) : repPut e n d l a = (⟨#[]⟩, 171) := by
  obtain ⟨q1, q2⟩ := rr_x h1 h2 h3 h4 h6 ht hk ho
  unfold repPut
  rw [q2, if_neg (fun q => hs q.2)]
theorem rr_bad {e n : Int} {d : ByteArray} {l : List ByteArray} {a : Lab} (h : ¬ repOk e n d l a) : repPut e n d l a = (⟨#[]⟩, 171) := by
  unfold repPut
  rw [if_neg (fun q => h (rx_none q.1))]
theorem rr_step {l : List ByteArray} {k : Nat} {t o h0 : ByteArray} (ho : o = h0 ++ encT (l.take k)) (hx : l[k]? = some t) : o ++ (ptextF t).1 = h0 ++ encT (l.take (k + 1)) := by
  have e : l.take (k + 1) = l.take k ++ [t] := by rw [List.take_add_one, hx]; rfl
  rw [e, encT_snoc, ho, ba_assoc]
theorem rr_all {l : List ByteArray} {k : Nat} {t : ByteArray} (ht : ∀ u ∈ l.take k, (ptextF u).2 = 0) (hx : l[k]? = some t) (h : (ptextF t).2 = 0) : ∀ u ∈ l.take (k + 1), (ptextF u).2 = 0 := fun u hu => by
  have e : l.take (k + 1) = l.take k ++ [t] := by rw [List.take_add_one, hx]; rfl
  rw [e] at hu
  rcases List.mem_append.1 hu with w | w
  · exact ht u w
  · rw [List.mem_singleton.1 w]; exact h
theorem upS_ok {l : List Nat} {r : ByteArray} {w : Int} (h : (getF w r).2.2 = 0) : upStep (l, r, 0) w = (l ++ [(getF w r).1], (getF w r).2.1, 0) := by unfold upStep; rw [if_pos rfl, if_pos h]
theorem upS_no {l : List Nat} {r : ByteArray} {w : Int} (h : ¬ (getF w r).2.2 = 0) : upStep (l, r, 0) w = ([], ⟨#[]⟩, (getF w r).2.2) := by unfold upStep; rw [if_pos rfl, if_neg h]
theorem upS_st {a : List Nat × ByteArray × Int} {w : Int} (h : ¬ a.2.2 = 0) : upStep a w = a := if_neg h
theorem up3_eq (s : ByteArray) : unpackF [2, 4, 2] s = upStep (upStep (upStep ([], s, 0) 2) 4) 2 := rfl
theorem up3_ok {s : ByteArray} (he : (unpackF [2, 4, 2] s).2.2 = 0) : (getF 2 s).2.2 = 0 ∧ (getF 4 (getF 2 s).2.1).2.2 = 0 ∧ (getF 2 (getF 4 (getF 2 s).2.1).2.1).2.2 = 0 ∧ unpackF [2, 4, 2] s = ([(getF 2 s).1, (getF 4 (getF 2 s).2.1).1, (getF 2 (getF 4 (getF 2 s).2.1).2.1).1], (getF 2 (getF 4 (getF 2 s).2.1).2.1).2.1, 0) := by
  rw [up3_eq] at he ⊢
  by_cases h1 : (getF 2 s).2.2 = 0
  · rw [upS_ok h1] at he ⊢
    by_cases h2 : (getF 4 (getF 2 s).2.1).2.2 = 0
    · rw [upS_ok h2] at he ⊢
      by_cases h3 : (getF 2 (getF 4 (getF 2 s).2.1).2.1).2.2 = 0
      · rw [upS_ok h3]; exact ⟨h1, h2, h3, rfl⟩
      · rw [upS_no h3] at he; exact absurd he h3
    · rw [upS_no h2, upS_st (by exact h2)] at he; exact absurd he h2
  · rw [upS_no h1, upS_st (a := ([], ⟨#[]⟩, (getF 2 s).2.2)) h1, upS_st (a := ([], ⟨#[]⟩, (getF 2 s).2.2)) h1] at he; exact absurd he h1
theorem up3_in {s : ByteArray} (h1 : (getF 2 s).2.2 = 0) (h2 : (getF 4 (getF 2 s).2.1).2.2 = 0) (h3 : (getF 2 (getF 4 (getF 2 s).2.1).2.1).2.2 = 0) : (unpackF [2, 4, 2] s).2.2 = 0 := by
  rw [up3_eq, upS_ok h1, upS_ok h2, upS_ok h3]
theorem up3_len {s : ByteArray} (he : (unpackF [2, 4, 2] s).2.2 = 0) : (unpackF [2, 4, 2] s).1.length = 3 := by rw [(up3_ok he).2.2.2]; rfl
theorem up3_rest (s : ByteArray) : (unpackF [2, 4, 2] s).2.1.size ≤ s.size := by
  by_cases he : (unpackF [2, 4, 2] s).2.2 = 0
  · rw [(up3_ok he).2.2.2]
    exact Nat.le_trans (getF_rest _ _) (Nat.le_trans (getF_rest _ _) (getF_rest _ _))
  · have : (unpackF [2, 4, 2] s).2.1 = ⟨#[]⟩ := by
      rw [up3_eq] at he ⊢
      by_cases h1 : (getF 2 s).2.2 = 0
      · rw [upS_ok h1] at he ⊢
        by_cases h2 : (getF 4 (getF 2 s).2.1).2.2 = 0
        · rw [upS_ok h2] at he ⊢
          by_cases h3 : (getF 2 (getF 4 (getF 2 s).2.1).2.1).2.2 = 0
          · rw [upS_ok h3] at he; exact absurd rfl he
          · rw [upS_no h3]
        · rw [upS_no h2, upS_st (by exact h2)]
      · rw [upS_no h1, upS_st (a := ([], ⟨#[]⟩, (getF 2 s).2.2)) h1, upS_st (a := ([], ⟨#[]⟩, (getF 2 s).2.2)) h1]
    rw [this]; exact Nat.zero_le _
theorem gB_ok {w : Int} {r : ByteArray} (h : (getF w r).2.2 = 0) : gB w (r, none) = ((getF w r).2.1, none) := by unfold gB; rw [h]; rfl
theorem up3_rep {s : ByteArray} (he : (unpackF [2, 4, 2] s).2.2 = 0) : rep3 s = ((unpackF [2, 4, 2] s).2.1, none) ∧ repN s = (getF 2 (getF 4 (getF 2 s).2.1).2.1).1 ∧ gB 2 (s, none) = ((getF 2 s).2.1, none) := by
  obtain ⟨h1, h2, h3, h4⟩ := up3_ok he
  refine ⟨?_, ?_, gB_ok h1⟩
  · rw [rep3_def, gB_ok h1, gB_ok h2, gB_ok h3, h4]
  · unfold repN; rw [gB_ok h1, gB_ok h2]
theorem up3_bad {s : ByteArray} (he : ¬ (unpackF [2, 4, 2] s).2.2 = 0) : ¬ (rep3 s).2 = none := fun q => by
  rw [rep3_def, gB_2] at q
  obtain ⟨q1, q2⟩ := addQ_none q
  rw [gB_2] at q1
  obtain ⟨q3, q4⟩ := addQ_none q1
  rw [gB_2] at q3
  obtain ⟨_, q6⟩ := addQ_none q3
  rw [gB_1] at q2 q4
  rw [gB_1] at q2
  exact he (up3_in q6 q4 q2)
theorem up3_0 {s : ByteArray} {x : Nat} (he : (unpackF [2, 4, 2] s).2.2 = 0) (hx : (unpackF [2, 4, 2] s).1[0]? = some x) : x = (getF 2 s).1 := by
  rw [(up3_ok he).2.2.2] at hx; exact (Option.some.inj hx).symm
theorem up3_1 {s : ByteArray} {x : Nat} (he : (unpackF [2, 4, 2] s).2.2 = 0) (hx : (unpackF [2, 4, 2] s).1[1]? = some x) : x = (getF 4 (gB 2 (s, none)).1).1 := by
  rw [(up3_rep he).2.2]
  rw [(up3_ok he).2.2.2] at hx; exact (Option.some.inj hx).symm
theorem up3_2 {s : ByteArray} {x : Nat} (he : (unpackF [2, 4, 2] s).2.2 = 0) (hx : (unpackF [2, 4, 2] s).1[2]? = some x) : x = repN s := by
  rw [(up3_rep he).2.1]
  rw [(up3_ok he).2.2.2] at hx; exact (Option.some.inj hx).symm
theorem up3_sm {s : ByteArray} {i x : Nat} (he : (unpackF [2, 4, 2] s).2.2 = 0) (hx : (unpackF [2, 4, 2] s).1[i]? = some x) : x < 4294967296 := by
  rw [(up3_ok he).2.2.2] at hx
  have hm := List.mem_of_getElem? hx
  simp only [List.mem_cons, List.not_mem_nil, or_false] at hm
  rcases hm with rfl | rfl | rfl
  · exact getF_small (by decide)
  · exact getF_small (by decide)
  · exact getF_small (by decide)
theorem rv_e {s : ByteArray} (he : ¬ (unpackF [2, 4, 2] s).2.2 = 0) : repGet s = repBad := by
  unfold repGet; rw [if_neg (fun q => up3_bad he q.1)]
theorem rv_n {s : ByteArray} {x : Nat} (he : (unpackF [2, 4, 2] s).2.2 = 0) (hx : (unpackF [2, 4, 2] s).1[2]? = some x) (h : ¬ x ≤ (unpackF [2, 4, 2] s).2.1.size) : repGet s = repBad := by
  have e := up3_2 he hx
  have e3 := (up3_rep he).1
  unfold repGet; rw [if_neg]
  rintro ⟨_, q2, _⟩
  rw [e3, ← e] at q2
  exact h q2
theorem rv_s {s : ByteArray} (h : ¬ s.size ≤ 2000) : repGet s = repBad := by
  unfold repGet; rw [if_neg (fun q => h q.2.2)]
theorem rv_4 {s : ByteArray} {x : Nat} (he : (unpackF [2, 4, 2] s).2.2 = 0) (hx : (unpackF [2, 4, 2] s).1[2]? = some x) : rep4 s = ((unpackF [2, 4, 2] s).2.1.extract x (unpackF [2, 4, 2] s).2.1.size, none) := by
  rw [rep4_def, (up3_rep he).1, ← up3_2 he hx]
theorem tk_mono (y : Wb) : ∀ (n k : Nat), k ≤ n → (tkB n y).2.2 = none → (tkB k y).2.2 = none
  | 0, k, h, q => by obtain rfl : k = 0 := by omega
                     exact q
  | n + 1, k, h, q => by
    rcases Nat.lt_or_ge k (n + 1) with w | w
    · rw [tkB_s] at q
      rw [tB_2] at q
      exact tk_mono y n k (by omega) (addQ_none q).1
    · obtain rfl : k = n + 1 := by omega
      exact q
abbrev TKI (s : ByteArray) (x k : Nat) (l2 : List ByteArray) (left : ByteArray) (f : Int) : Prop := tkB k (gB 1 ((unpackF [2, 4, 2] s).2.1.extract x (unpackF [2, 4, 2] s).2.1.size, none)) = (l2, (left, addQ none f))
theorem rv_f {s left : ByteArray} {x k : Nat} {l2 : List ByteArray} {f : Int} (he : (unpackF [2, 4, 2] s).2.2 = 0) (hx : (unpackF [2, 4, 2] s).1[2]? = some x) (hT : TKI s x k l2 left f) (hk : k ≤ (getF 1 ((unpackF [2, 4, 2] s).2.1.extract x (unpackF [2, 4, 2] s).2.1.size)).1) (hf : ¬ f = 0) : repGet s = repBad := by
  have e4 := rv_4 he hx
  unfold repGet
  split
  · rw [if_neg]
    rintro ⟨q1, _⟩
    rw [lB_2] at q1
    have q2 := (addQ_none q1).1
    rw [repT_def, e4] at q2
    have q3 := tk_mono _ _ _ hk q2
    unfold TKI at hT
    rw [hT] at q3
    exact hf (addQ_none (show addQ none f = none from q3)).2
  · rfl
theorem rv_T {s left : ByteArray} {x k : Nat} {l2 : List ByteArray} {f : Int} (he : (unpackF [2, 4, 2] s).2.2 = 0) (hx : (unpackF [2, 4, 2] s).1[2]? = some x) (hT : TKI s x k l2 left f) (hk : k ≤ (getF 1 ((unpackF [2, 4, 2] s).2.1.extract x (unpackF [2, 4, 2] s).2.1.size)).1) (hk2 : (getF 1 ((unpackF [2, 4, 2] s).2.1.extract x (unpackF [2, 4, 2] s).2.1.size)).1 ≤ k) (hf : f = 0) : repT s = (l2, (left, none)) := by
  have e4 := rv_4 he hx
  have e : (getF 1 ((unpackF [2, 4, 2] s).2.1.extract x (unpackF [2, 4, 2] s).2.1.size)).1 = k := by omega
  rw [repT_def, e4]
  simp only
  rw [e]
  unfold TKI at hT
  rw [hT, hf]; rfl
theorem rv_l {s left : ByteArray} {x k : Nat} {l2 : List ByteArray} {f : Int} (he : (unpackF [2, 4, 2] s).2.2 = 0) (hx : (unpackF [2, 4, 2] s).1[2]? = some x) (hT : TKI s x k l2 left f) (hk : k ≤ (getF 1 ((unpackF [2, 4, 2] s).2.1.extract x (unpackF [2, 4, 2] s).2.1.size)).1) (hk2 : (getF 1 ((unpackF [2, 4, 2] s).2.1.extract x (unpackF [2, 4, 2] s).2.1.size)).1 ≤ k) (hf : f = 0) (h : ¬ (labGet left).2.2 = 0 ∨ ¬ (labGet left).2.1 = ⟨#[]⟩) : repGet s = repBad := by
  have eT := rv_T he hx hT hk hk2 hf
  unfold repGet
  split
  · rw [eT, if_neg]
    rintro ⟨q1, q2⟩
    rw [lB_2] at q1
    rw [lB_1] at q2
    rcases h with h | h
    · exact h (addQ_none q1).2
    · exact h q2
  · rfl
theorem rv_g {s left : ByteArray} {x x0 x1 k : Nat} {l2 : List ByteArray} {f : Int} (he : (unpackF [2, 4, 2] s).2.2 = 0) (hx : (unpackF [2, 4, 2] s).1[2]? = some x) (hx0 : (unpackF [2, 4, 2] s).1[0]? = some x0) (hx1 : (unpackF [2, 4, 2] s).1[1]? = some x1) (hn : x ≤ (unpackF [2, 4, 2] s).2.1.size) (hs : s.size ≤ 2000) (hT : TKI s x k l2 left f) (hk : k ≤ (getF 1 ((unpackF [2, 4, 2] s).2.1.extract x (unpackF [2, 4, 2] s).2.1.size)).1) (hk2 : (getF 1 ((unpackF [2, 4, 2] s).2.1.extract x (unpackF [2, 4, 2] s).2.1.size)).1 ≤ k) (hf : f = 0) (h1 : (labGet left).2.2 = 0) (h2 : (labGet left).2.1 = ⟨#[]⟩) : repGet s = ((x0 : Int), (x1 : Int), (unpackF [2, 4, 2] s).2.1.extract 0 x, l2, (labGet left).1, 0) := by
  have eT := rv_T he hx hT hk hk2 hf
  have e3 := (up3_rep he).1
  have eN := up3_2 he hx
  unfold repGet
  rw [eT, e3, ← eN, ← up3_0 he hx0, ← up3_1 he hx1, if_pos ⟨rfl, hn, hs⟩, if_pos ⟨by rw [lB_2, h1]; rfl, by rw [lB_1]; exact h2⟩]
theorem rv_step {s left : ByteArray} {x k : Nat} {l2 : List ByteArray} {f : Int} (hT : TKI s x k l2 left f) (hf : f = 0) : TKI s x (k + 1) (l2 ++ [(textF left).1]) (textF left).2.1 (textF left).2.2 := by
  unfold TKI at hT ⊢
  rw [tkB_s, hT, hf]; rfl
theorem rtexts_ (A : Option Addr) (c : Nat) (l : List ByteArray) (B : Option Addr) (k : Nat) (r : List ByteArray) (hn : l.length ≤ 1000000) : Con Tryz.prog 42 [.slice A l.length c, .slice B r.length k] [] [rd strTy A c l, rd strTy B k r] (fun v L' I' => v = .bool (decide (l = r)) ∧ L' = [] ∧ I' = []) := by
 refine fn_of Tryz.func42 rfl Tryz.ntmps42 (by kernel_rfl) rfl (fun C => ?_)
 refine c_seq (c_region ?_)
 refine s_y rfl (v := .bool false) (y_as rfl) rfl ?_
 refine s_nil (q_then (c_seq (c_seq (c_region ?_))))
 refine s_y rfl (v := .slice A l.length c) (y_mv rfl) rfl ?_
 refine s_y rfl (v := .int .i64 (l.length : Int)) (y_k rfl rfl (fun _ => by kernel_rfl)) rfl ?_
 refine s_y rfl (v := .slice B r.length k) (y_mv rfl) rfl ?_
 refine s_y rfl (v := .int .i64 (r.length : Int)) (y_k rfl rfl (fun _ => by kernel_rfl)) rfl ?_
 refine e_by ((l.length : Int) = (r.length : Int)) (fun h1 => ?_) (fun h1 => ?_)
 ·
  refine s_y rfl (v := .bool false) (y_nt (y_k (v := .bool (!decide ((l.length : Int) = (r.length : Int)))) rfl rfl (fun _ => by kernel_rfl)) h1) rfl ?_
  refine s_nil (q_then (c_false rfl (c_skip (q_then (c_seq (c_seq (c_region ?_)))))))
  refine s_y rfl (v := .int .i64 0) (y_as rfl) rfl ?_
  refine s_nil (q_then (c_block ?_))
  refine c_loopn (ι := Nat) (fun kk => (kk ≤ l.length) ∧ (l.take kk = r.take kk)) (fun kk => [(0, .slice A l.length c), (1, .slice B r.length k), (5, .int .i64 (kk : Int))]) (fun kk => []) (fun kk => [rd strTy A c l, rd strTy B k r]) (fun kk => l.length - kk) (0) [] [0, 1] (show (0 ≤ l.length) ∧ (l.take 0 = r.take 0) from ⟨by first | omega | simp_all | (simp; done), rfl⟩) ((.cons rfl rfl (.cons rfl rfl (.cons rfl rfl .nil)))) rfl rfl ?_
  rintro kk ⟨hk, he⟩
  show Ent 26 C [(0, .slice A l.length c), (1, .slice B r.length k), (5, .int .i64 (kk : Int))] [] [] [rd strTy A c l, rd strTy B k r] _
  refine c_seq (c_seq (c_region ?_))
  refine s_y rfl (v := .int .i64 (kk : Int)) (y_mv rfl) rfl ?_
  refine s_y rfl (v := .slice A l.length c) (y_mv rfl) rfl ?_
  refine s_y rfl (v := .int .i64 (l.length : Int)) (y_k rfl rfl (fun _ => by kernel_rfl)) rfl ?_
  refine e_by ((kk : Int) < (l.length : Int)) (fun h2 => ?_) (fun h2 => ?_)
  ·
   refine s_y rfl (v := .bool true) (y_t (y_k (v := .bool (decide ((kk : Int) < (l.length : Int)))) rfl rfl (fun _ => by kernel_rfl)) h2) rfl ?_
   refine s_nil (q_then (c_true rfl (c_skip (q_then (c_seq (c_block (c_seq ?_)))))))
   refine e_at 0 kk rfl (by omega) (fun b1 o1 x1 hA1 hx1 => ?_)
   refine e_at 2 kk rfl (by omega) (fun b2 o2 x2 hA2 hx2 => ?_)
   refine c_draw (l := ticked 9 0) [(⟨b1, o1 + kk * 1, none⟩, .string x1), (⟨b2, o2 + kk * 1, none⟩, .string x2)] [] (by kernel_rfl) rfl rfl ?_
   refine b_y (i := 0) (v := .slice A l.length c) (ticked 9 1) rfl rfl (by exact y_mv rfl) ?_
   refine b_y (i := 1) (v := .int .i64 (kk : Int)) (ticked 9 3) rfl rfl (by exact y_mv rfl) ?_
   refine b_y (i := 2) (v := .pointer (some ⟨b1, o1 + kk * 1, none⟩)) (ticked 9 7) rfl rfl (by exact y_at (d := strTy) (l := l) kk hA1 rfl rfl rfl (rfl) (List.getElem?_eq_some_iff.1 hx1).1 Tryz.underlying37 (by kernel_rfl) (by kernel_rfl)) ?_
   refine b_y (i := 4) (v := .slice B r.length k) (ticked 9 23) rfl rfl (by exact y_mv rfl) ?_
   refine b_y (i := 5) (v := .int .i64 (kk : Int)) (ticked 9 55) rfl rfl (by exact y_mv rfl) ?_
   refine b_y (i := 6) (v := .pointer (some ⟨b2, o2 + kk * 1, none⟩)) (ticked 9 119) rfl rfl (by exact y_at (d := strTy) (l := r) kk hA2 rfl rfl rfl (rfl) (List.getElem?_eq_some_iff.1 hx2).1 Tryz.underlying37 (by kernel_rfl) (by kernel_rfl)) ?_
   refine a_held (i := 3) (ticked 9 127) rfl (by as_aux_lemma => kernel_rfl) rfl rfl rfl (held_fact (j := 0) 1 rfl rfl (held_fact (j := 0) 0 rfl rfl held_nil)) (h_ld 0 rfl rfl Tryz.underlying9 rfl) ?_
   refine a_held (i := 7) (ticked 9 255) rfl (by as_aux_lemma => kernel_rfl) rfl rfl rfl (held_fact (j := 0) 1 rfl rfl (held_fact (j := 0) 0 rfl rfl held_nil)) (h_ld 1 rfl rfl Tryz.underlying9 rfl) ?_
   refine e_by (x1 = x2) (fun h3 => ?_) (fun h3 => ?_)
   ·
    refine b_y (i := 8) (v := .bool false) (ticked 9 511) rfl rfl (by exact y_b (y_k (v := .bool (!(x1.toList == x2.toList))) rfl rfl (fun _ => by kernel_rfl)) (str_nt h3)) ?_
    refine a_done (by as_aux_lemma => kernel_rfl) ?_
    refine q_then (c_false rfl (c_skip (q_block (q_then (c_region ?_)))))
    refine s_y rfl (v := .int .i64 (kk : Int)) (y_mv rfl) rfl ?_
    refine s_y rfl (v := .int .i64 ((kk : Int) + 1)) (y_add (r := (kk : Int) + 1) rfl rfl rfl (by omega)) rfl ?_
    refine s_y rfl (v := .int .i64 ((kk : Int) + 1)) (y_as rfl) rfl ?_
    refine s_nil (q_then ?_)
    refine c_next [] [2, 3] (kk + 1) ?_ ?_ ?_ (by rfl) (by rfl)
    · exact (show ((kk + 1) ≤ l.length) ∧ (l.take (kk + 1) = r.take (kk + 1)) from ⟨by first | omega | simp_all | (simp; done), eqs_step he hx1 hx2 (by assumption)⟩)
    · show l.length - (kk + 1) < l.length - kk; omega
    · exact (.cons rfl rfl (.cons rfl rfl (.cons rfl (show (.int .i64 ((kk : Int) + 1) : Value) = .int .i64 ((kk + 1) : Int) from by first | rfl | (congr 1; omega) | (congr 1; simp; done) | (congr 1; simp; omega)) .nil)))
   ·
    refine b_y (i := 8) (v := .bool true) (ticked 9 511) rfl rfl (by exact y_b (y_k (v := .bool (!(x1.toList == x2.toList))) rfl rfl (fun _ => by kernel_rfl)) (str_nf h3)) ?_
    refine a_done (by as_aux_lemma => kernel_rfl) ?_
    refine q_then (c_true rfl (c_seq (c_region ?_)))
    refine s_y rfl (v := .bool false) (y_as rfl) rfl ?_
    refine s_nil (q_then (c_ret (q_block_ret (q_then_ret (q_then_ret (q_block_ret (q_then_ret ?_)))))))
    refine c_fin (I' := []) [] [2, 3] rfl (.tmp rfl .nil) rfl rfl rfl ?_
    exact ⟨dec_f (by first | exact eqs_end he (by omega) (by omega) | exact eqs_not hx1 hx2 (by assumption) | exact eqs_len (by assumption)), rfl, rfl⟩
  ·
   refine s_y rfl (v := .bool false) (y_f (y_k (v := .bool (decide ((kk : Int) < (l.length : Int)))) rfl rfl (fun _ => by kernel_rfl)) h2) rfl ?_
   refine s_nil (q_then (c_false rfl ?_))
   refine c_exit ?_
   refine q_then_exit ?_
   refine q_then_exit ?_
   refine q_block_here ?_
   refine q_then (c_seq (c_region ?_))
   refine s_y rfl (v := .bool true) (y_as rfl) rfl ?_
   refine s_nil (q_then (c_ret ?_))
   refine c_fin (I' := []) [] [0, 1] rfl (.tmp rfl .nil) rfl rfl rfl ?_
   exact ⟨dec_t (by first | exact eqs_end he (by omega) (by omega) | exact eqs_not hx1 hx2 (by assumption) | exact eqs_len (by assumption)), rfl, rfl⟩
 ·
  refine s_y rfl (v := .bool true) (y_nf (y_k (v := .bool (!decide ((l.length : Int) = (r.length : Int)))) rfl rfl (fun _ => by kernel_rfl)) h1) rfl ?_
  refine s_nil (q_then (c_true rfl (c_seq (c_region ?_))))
  refine s_y rfl (v := .bool false) (y_as rfl) rfl ?_
  refine s_nil (q_then (c_ret (q_then_ret ?_)))
  refine c_fin (I' := []) [] [0, 1] rfl (.tmp rfl .nil) rfl rfl rfl ?_
  exact ⟨dec_f (by first | exact eqs_end he (by omega) (by omega) | exact eqs_not hx1 hx2 (by assumption) | exact eqs_len (by assumption)), rfl, rfl⟩
theorem rsameR_ (e : Int) (n : Int) (d : ByteArray) (A : Option Addr) (c : Nat) (l : List ByteArray) (a : Lab) (e' : Int) (n' : Int) (d' : ByteArray) (B : Option Addr) (k : Nat) (r : List ByteArray) (a' : Lab) (hn : l.length ≤ 1000000) : Con Tryz.prog 19 [.agg #[.int .i64 e, .int .i64 n, .string d, .slice A l.length c, .int .i64 a.lv, .int .u64 (a.cs : Int), .int .i64 a.ig], .agg #[.int .i64 e', .int .i64 n', .string d', .slice B r.length k, .int .i64 a'.lv, .int .u64 (a'.cs : Int), .int .i64 a'.ig]] [] [rd strTy A c l, rd strTy B k r] (fun v L' I' => v = .bool (decide (repEq e n d l a e' n' d' r a')) ∧ L' = [] ∧ I' = []) := by
 refine fn_of Tryz.func19 rfl Tryz.ntmps19 (by kernel_rfl) rfl (fun C => ?_)
 refine c_seq (c_region ?_)
 refine st rfl (o_box (cs := [.int .i64 e, .int .i64 n, .string d, .slice A l.length c, .int .i64 a.lv, .int .u64 (a.cs : Int), .int .i64 a.ig]) (T := 39) rfl rfl rfl rfl (fun _ => by kernel_rfl) (fun b1 => ?_))
 refine st rfl (o_box (cs := [.int .i64 e', .int .i64 n', .string d', .slice B r.length k, .int .i64 a'.lv, .int .u64 (a'.cs : Int), .int .i64 a'.ig]) (T := 39) rfl rfl rfl rfl (fun _ => by kernel_rfl) (fun b2 => ?_))
 refine s_y rfl (v := .bool false) (y_as rfl) rfl ?_
 refine s_nil (q_then (c_seq (c_region ?_)))
 refine s_y rfl (v := .pointer (some ⟨b1, 0, none⟩)) (y_k rfl rfl (fun _ => by kernel_rfl)) rfl ?_
 refine st rfl (o_ld 1 rfl rfl rfl Tryz.underlying29 rfl rfl ?_)
 refine s_y rfl (v := .pointer (some ⟨b2, 0, none⟩)) (y_k rfl rfl (fun _ => by kernel_rfl)) rfl ?_
 refine st rfl (o_ld 0 rfl rfl rfl Tryz.underlying29 rfl rfl ?_)
 refine e_by (e = e') (fun h1 => ?_) (fun h1 => ?_)
 ·
  refine s_y rfl (v := .bool true) (y_t (y_k (v := .bool (decide (e = e'))) rfl rfl (fun _ => by kernel_rfl)) h1) rfl ?_
  refine s_y rfl (v := .bool true) (y_mv rfl) rfl ?_
  refine st_on 10 rfl rfl rfl (o_y (v := .pointer (some ⟨b1, 1, none⟩)) (y_k rfl rfl (fun _ => by kernel_rfl)) rfl rfl rfl ?_)
  refine st_on 10 rfl rfl rfl (o_ld 1 rfl rfl rfl Tryz.underlying3 rfl rfl ?_)
  refine st_on 10 rfl rfl rfl (o_y (v := .pointer (some ⟨b2, 1, none⟩)) (y_k rfl rfl (fun _ => by kernel_rfl)) rfl rfl rfl ?_)
  refine st_on 10 rfl rfl rfl (o_ld 0 rfl rfl rfl Tryz.underlying3 rfl rfl ?_)
  refine e_by (n = n') (fun h2 => ?_) (fun h2 => ?_)
  ·
   refine st_on 10 rfl rfl rfl (o_y (v := .bool true) (y_t (y_k (v := .bool (decide (n = n'))) rfl rfl (fun _ => by kernel_rfl)) h2) rfl rfl rfl ?_)
   refine s_y rfl (v := .bool true) (y_pick rfl rfl) rfl ?_
   refine s_y rfl (v := .bool true) (y_mv rfl) rfl ?_
   refine st_on 17 rfl rfl rfl (o_y (v := .pointer (some ⟨b1, 2, none⟩)) (y_k rfl rfl (fun _ => by kernel_rfl)) rfl rfl rfl ?_)
   refine st_on 17 rfl rfl rfl (o_ld 1 rfl rfl rfl Tryz.underlying9 rfl rfl ?_)
   refine st_on 17 rfl rfl rfl (o_y (v := .pointer (some ⟨b2, 2, none⟩)) (y_k rfl rfl (fun _ => by kernel_rfl)) rfl rfl rfl ?_)
   refine st_on 17 rfl rfl rfl (o_ld 0 rfl rfl rfl Tryz.underlying9 rfl rfl ?_)
   refine e_by (d = d') (fun h3 => ?_) (fun h3 => ?_)
   ·
    refine st_on 17 rfl rfl rfl (o_y (v := .bool true) (y_b (y_k (v := .bool (d.toList == d'.toList)) rfl rfl (fun _ => by kernel_rfl)) (str_t h3)) rfl rfl rfl ?_)
    refine s_y rfl (v := .bool true) (y_pick rfl rfl) rfl ?_
    refine s_y rfl (v := .bool true) (y_mv rfl) rfl ?_
    refine st_on 24 rfl rfl rfl (o_y (v := .pointer (some ⟨b1, 3, none⟩)) (y_k rfl rfl (fun _ => by kernel_rfl)) rfl rfl rfl ?_)
    refine st_on 24 rfl rfl rfl (o_ld 1 rfl rfl rfl Tryz.underlying37 rfl rfl ?_)
    refine st_on 24 rfl rfl rfl (o_y (v := .pointer (some ⟨b2, 3, none⟩)) (y_k rfl rfl (fun _ => by kernel_rfl)) rfl rfl rfl ?_)
    refine st_on 24 rfl rfl rfl (o_ld 0 rfl rfl rfl Tryz.underlying37 rfl rfl ?_)
    refine st_on 24 rfl rfl rfl (o_call [] [0, 1] (rtexts_ A c l B k r (by first | assumption | omega)) rfl rfl rfl rfl rfl rfl (fun v L' I' hq1 => ?_))
    obtain ⟨hv1, rfl, rfl⟩ := hq1
    refine e_by (l = r) (fun h4 => ?_) (fun h4 => ?_)
    ·
     obtain rfl : v = .bool true := by rw [hv1, decide_eq_true h4]
     refine s_y rfl (v := .bool true) (y_pick rfl rfl) rfl ?_
     refine s_y rfl (v := .bool true) (y_mv rfl) rfl ?_
     refine st_on 31 rfl rfl rfl (o_y (v := .pointer (some ⟨b1, 4, none⟩)) (y_k rfl rfl (fun _ => by kernel_rfl)) rfl rfl rfl ?_)
     refine st_on 31 rfl rfl rfl (o_ldn 1 3 rfl rfl rfl rfl Tryz.underlying24 rfl (by kernel_rfl) (by kernel_rfl) rfl ?_)
     refine st_on 31 rfl rfl rfl (o_y (v := .pointer (some ⟨b2, 4, none⟩)) (y_k rfl rfl (fun _ => by kernel_rfl)) rfl rfl rfl ?_)
     refine st_on 31 rfl rfl rfl (o_ldn 0 3 rfl rfl rfl rfl Tryz.underlying24 rfl (by kernel_rfl) (by kernel_rfl) rfl ?_)
     refine e_by (a = a') (fun h5 => ?_) (fun h5 => ?_)
     ·
      refine st_on 31 rfl rfl rfl (o_y (v := .bool true) (y_t (y_bin rfl rfl (fun w => eq_Lab a a' w)) h5) rfl rfl rfl ?_)
      refine s_y rfl (v := .bool true) (y_pick rfl rfl) rfl ?_
      refine s_y rfl (v := .bool true) (y_as rfl) rfl ?_
      refine s_nil (q_then (c_ret ?_))
      refine c_fin (I' := []) [] [0, 1] rfl (.tmp rfl .nil) rfl rfl rfl ?_
      exact ⟨dec_t (by first | exact ⟨by assumption, by assumption, by assumption, by assumption, by assumption⟩ | (rintro ⟨q1, q2, q3, q4, q5⟩; contradiction)), rfl, rfl⟩
     ·
      refine st_on 31 rfl rfl rfl (o_y (v := .bool false) (y_f (y_bin rfl rfl (fun w => eq_Lab a a' w)) h5) rfl rfl rfl ?_)
      refine s_y rfl (v := .bool false) (y_pick rfl rfl) rfl ?_
      refine s_y rfl (v := .bool false) (y_as rfl) rfl ?_
      refine s_nil (q_then (c_ret ?_))
      refine c_fin (I' := []) [] [0, 1] rfl (.tmp rfl .nil) rfl rfl rfl ?_
      exact ⟨dec_f (by first | exact ⟨by assumption, by assumption, by assumption, by assumption, by assumption⟩ | (rintro ⟨q1, q2, q3, q4, q5⟩; contradiction)), rfl, rfl⟩
    ·
     obtain rfl : v = .bool false := by rw [hv1, decide_eq_false h4]
     refine s_y rfl (v := .bool false) (y_pick rfl rfl) rfl ?_
     refine s_y rfl (v := .bool false) (y_mv rfl) rfl ?_
     refine st_off 31 rfl rfl rfl rfl rfl rfl ?_
     refine st_off 31 rfl rfl rfl rfl rfl rfl ?_
     refine st_off 31 rfl rfl rfl rfl rfl rfl ?_
     refine st_off 31 rfl rfl rfl rfl rfl rfl ?_
     refine st_off 31 rfl rfl rfl rfl rfl rfl ?_
     refine s_y rfl (v := .bool false) (y_pick rfl rfl) rfl ?_
     refine s_y rfl (v := .bool false) (y_as rfl) rfl ?_
     refine s_nil (q_then (c_ret ?_))
     refine c_fin (I' := []) [] [0, 1] rfl (.tmp rfl .nil) rfl rfl rfl ?_
     exact ⟨dec_f (by first | exact ⟨by assumption, by assumption, by assumption, by assumption, by assumption⟩ | (rintro ⟨q1, q2, q3, q4, q5⟩; contradiction)), rfl, rfl⟩
   ·
    refine st_on 17 rfl rfl rfl (o_y (v := .bool false) (y_b (y_k (v := .bool (d.toList == d'.toList)) rfl rfl (fun _ => by kernel_rfl)) (str_f h3)) rfl rfl rfl ?_)
    refine s_y rfl (v := .bool false) (y_pick rfl rfl) rfl ?_
    refine s_y rfl (v := .bool false) (y_mv rfl) rfl ?_
    refine st_off 24 rfl rfl rfl rfl rfl rfl ?_
    refine st_off 24 rfl rfl rfl rfl rfl rfl ?_
    refine st_off 24 rfl rfl rfl rfl rfl rfl ?_
    refine st_off 24 rfl rfl rfl rfl rfl rfl ?_
    refine st_off 24 rfl rfl rfl rfl rfl rfl ?_
    refine s_y rfl (v := .bool false) (y_pick rfl rfl) rfl ?_
    refine s_y rfl (v := .bool false) (y_mv rfl) rfl ?_
    refine st_off 31 rfl rfl rfl rfl rfl rfl ?_
    refine st_off 31 rfl rfl rfl rfl rfl rfl ?_
    refine st_off 31 rfl rfl rfl rfl rfl rfl ?_
    refine st_off 31 rfl rfl rfl rfl rfl rfl ?_
    refine st_off 31 rfl rfl rfl rfl rfl rfl ?_
    refine s_y rfl (v := .bool false) (y_pick rfl rfl) rfl ?_
    refine s_y rfl (v := .bool false) (y_as rfl) rfl ?_
    refine s_nil (q_then (c_ret ?_))
    refine c_fin (I' := []) [] [0, 1] rfl (.tmp rfl .nil) rfl rfl rfl ?_
    exact ⟨dec_f (by first | exact ⟨by assumption, by assumption, by assumption, by assumption, by assumption⟩ | (rintro ⟨q1, q2, q3, q4, q5⟩; contradiction)), rfl, rfl⟩
  ·
   refine st_on 10 rfl rfl rfl (o_y (v := .bool false) (y_f (y_k (v := .bool (decide (n = n'))) rfl rfl (fun _ => by kernel_rfl)) h2) rfl rfl rfl ?_)
   refine s_y rfl (v := .bool false) (y_pick rfl rfl) rfl ?_
   refine s_y rfl (v := .bool false) (y_mv rfl) rfl ?_
   refine st_off 17 rfl rfl rfl rfl rfl rfl ?_
   refine st_off 17 rfl rfl rfl rfl rfl rfl ?_
   refine st_off 17 rfl rfl rfl rfl rfl rfl ?_
   refine st_off 17 rfl rfl rfl rfl rfl rfl ?_
   refine st_off 17 rfl rfl rfl rfl rfl rfl ?_
   refine s_y rfl (v := .bool false) (y_pick rfl rfl) rfl ?_
   refine s_y rfl (v := .bool false) (y_mv rfl) rfl ?_
   refine st_off 24 rfl rfl rfl rfl rfl rfl ?_
   refine st_off 24 rfl rfl rfl rfl rfl rfl ?_
   refine st_off 24 rfl rfl rfl rfl rfl rfl ?_
   refine st_off 24 rfl rfl rfl rfl rfl rfl ?_
   refine st_off 24 rfl rfl rfl rfl rfl rfl ?_
   refine s_y rfl (v := .bool false) (y_pick rfl rfl) rfl ?_
   refine s_y rfl (v := .bool false) (y_mv rfl) rfl ?_
   refine st_off 31 rfl rfl rfl rfl rfl rfl ?_
   refine st_off 31 rfl rfl rfl rfl rfl rfl ?_
   refine st_off 31 rfl rfl rfl rfl rfl rfl ?_
   refine st_off 31 rfl rfl rfl rfl rfl rfl ?_
   refine st_off 31 rfl rfl rfl rfl rfl rfl ?_
   refine s_y rfl (v := .bool false) (y_pick rfl rfl) rfl ?_
   refine s_y rfl (v := .bool false) (y_as rfl) rfl ?_
   refine s_nil (q_then (c_ret ?_))
   refine c_fin (I' := []) [] [0, 1] rfl (.tmp rfl .nil) rfl rfl rfl ?_
   exact ⟨dec_f (by first | exact ⟨by assumption, by assumption, by assumption, by assumption, by assumption⟩ | (rintro ⟨q1, q2, q3, q4, q5⟩; contradiction)), rfl, rfl⟩
 ·
  refine s_y rfl (v := .bool false) (y_f (y_k (v := .bool (decide (e = e'))) rfl rfl (fun _ => by kernel_rfl)) h1) rfl ?_
  refine s_y rfl (v := .bool false) (y_mv rfl) rfl ?_
  refine st_off 10 rfl rfl rfl rfl rfl rfl ?_
  refine st_off 10 rfl rfl rfl rfl rfl rfl ?_
  refine st_off 10 rfl rfl rfl rfl rfl rfl ?_
  refine st_off 10 rfl rfl rfl rfl rfl rfl ?_
  refine st_off 10 rfl rfl rfl rfl rfl rfl ?_
  refine s_y rfl (v := .bool false) (y_pick rfl rfl) rfl ?_
  refine s_y rfl (v := .bool false) (y_mv rfl) rfl ?_
  refine st_off 17 rfl rfl rfl rfl rfl rfl ?_
  refine st_off 17 rfl rfl rfl rfl rfl rfl ?_
  refine st_off 17 rfl rfl rfl rfl rfl rfl ?_
  refine st_off 17 rfl rfl rfl rfl rfl rfl ?_
  refine st_off 17 rfl rfl rfl rfl rfl rfl ?_
  refine s_y rfl (v := .bool false) (y_pick rfl rfl) rfl ?_
  refine s_y rfl (v := .bool false) (y_mv rfl) rfl ?_
  refine st_off 24 rfl rfl rfl rfl rfl rfl ?_
  refine st_off 24 rfl rfl rfl rfl rfl rfl ?_
  refine st_off 24 rfl rfl rfl rfl rfl rfl ?_
  refine st_off 24 rfl rfl rfl rfl rfl rfl ?_
  refine st_off 24 rfl rfl rfl rfl rfl rfl ?_
  refine s_y rfl (v := .bool false) (y_pick rfl rfl) rfl ?_
  refine s_y rfl (v := .bool false) (y_mv rfl) rfl ?_
  refine st_off 31 rfl rfl rfl rfl rfl rfl ?_
  refine st_off 31 rfl rfl rfl rfl rfl rfl ?_
  refine st_off 31 rfl rfl rfl rfl rfl rfl ?_
  refine st_off 31 rfl rfl rfl rfl rfl rfl ?_
  refine st_off 31 rfl rfl rfl rfl rfl rfl ?_
  refine s_y rfl (v := .bool false) (y_pick rfl rfl) rfl ?_
  refine s_y rfl (v := .bool false) (y_as rfl) rfl ?_
  refine s_nil (q_then (c_ret ?_))
  refine c_fin (I' := []) [] [0, 1] rfl (.tmp rfl .nil) rfl rfl rfl ?_
  exact ⟨dec_f (by first | exact ⟨by assumption, by assumption, by assumption, by assumption, by assumption⟩ | (rintro ⟨q1, q2, q3, q4, q5⟩; contradiction)), rfl, rfl⟩
theorem rrepPut_ (e : Int) (n : Int) (d : ByteArray) (A : Option Addr) (c : Nat) (l : List ByteArray) (a : Lab) (hd : d.size ≤ 10000) (hl : l.length ≤ 300) (ht : ∀ t ∈ l, t.size ≤ 100000) (h6a : lab64 a) : Con Tryz.prog 16 [.agg #[.int .i64 e, .int .i64 n, .string d, .slice A l.length c, .int .i64 a.lv, .int .u64 (a.cs : Int), .int .i64 a.ig]] [] [rd strTy A c l] (fun v L' I' => v = .tuple #[.string ((repPut e n d l a).1), .int .i64 ((repPut e n d l a).2)] ∧ L' = [] ∧ I' = []) := by
 refine fn_of Tryz.func16 rfl Tryz.ntmps16 (by kernel_rfl) rfl (fun C => ?_)
 refine c_seq (c_region ?_)
 refine st rfl (o_box (cs := [.int .i64 e, .int .i64 n, .string d, .slice A l.length c, .int .i64 a.lv, .int .u64 (a.cs : Int), .int .i64 a.ig]) (T := 39) rfl rfl rfl rfl (fun _ => by kernel_rfl) (fun b1 => ?_))
 refine s_y rfl (v := .string (⟨#[]⟩ : ByteArray)) (y_as rfl) rfl ?_
 refine s_y rfl (v := .int .i64 0) (y_as rfl) rfl ?_
 refine s_nil (q_then (c_seq (c_region ?_)))
 refine s_y rfl (v := .pointer (some ⟨b1, 0, none⟩)) (y_k rfl rfl (fun _ => by kernel_rfl)) rfl ?_
 refine st rfl (o_ld 0 rfl rfl rfl Tryz.underlying29 rfl rfl ?_)
 refine st rfl (o_call [] [] (rnum_ (2 : Int) e) rfl rfl rfl rfl rfl rfl (fun v L' I' hq1 => ?_))
 obtain ⟨rfl, rfl, rfl⟩ := hq1
 refine s_y rfl (v := .tuple #[.string (numS (2 : Int) e), .bool (decide (numE (2 : Int) e = 0))]) (y_mv rfl) rfl ?_
 refine s_y rfl (v := .string (numS (2 : Int) e)) (y_k rfl rfl (fun _ => by kernel_rfl)) rfl ?_
 refine s_y rfl (v := .bool (decide (numE (2 : Int) e = 0))) (y_k rfl rfl (fun _ => by kernel_rfl)) rfl ?_
 refine s_y rfl (v := .string (numS (2 : Int) e)) (y_as rfl) rfl ?_
 refine s_y rfl (v := .bool (decide (numE (2 : Int) e = 0))) (y_as rfl) rfl ?_
 refine s_nil (q_then (c_seq (c_region ?_)))
 refine s_y rfl (v := .pointer (some ⟨b1, 1, none⟩)) (y_k rfl rfl (fun _ => by kernel_rfl)) rfl ?_
 refine st rfl (o_ld 0 rfl rfl rfl Tryz.underlying3 rfl rfl ?_)
 refine st rfl (o_call [] [] (rnum_ (4 : Int) n) rfl rfl rfl rfl rfl rfl (fun v L' I' hq2 => ?_))
 obtain ⟨rfl, rfl, rfl⟩ := hq2
 refine s_y rfl (v := .tuple #[.string (numS (4 : Int) n), .bool (decide (numE (4 : Int) n = 0))]) (y_mv rfl) rfl ?_
 refine s_y rfl (v := .string (numS (4 : Int) n)) (y_k rfl rfl (fun _ => by kernel_rfl)) rfl ?_
 refine s_y rfl (v := .bool (decide (numE (4 : Int) n = 0))) (y_k rfl rfl (fun _ => by kernel_rfl)) rfl ?_
 refine s_y rfl (v := .string (numS (4 : Int) n)) (y_as rfl) rfl ?_
 refine s_y rfl (v := .bool (decide (numE (4 : Int) n = 0))) (y_as rfl) rfl ?_
 refine s_nil (q_then (c_seq (c_region ?_)))
 refine s_y rfl (v := .pointer (some ⟨b1, 2, none⟩)) (y_k rfl rfl (fun _ => by kernel_rfl)) rfl ?_
 refine st rfl (o_ld 0 rfl rfl rfl Tryz.underlying9 rfl rfl ?_)
 refine s_y rfl (v := .int .i64 (d.size : Int)) (y_k rfl rfl (fun _ => by kernel_rfl)) rfl ?_
 refine st rfl (o_call [] [] (rnum_ (2 : Int) (d.size : Int)) rfl rfl rfl rfl rfl rfl (fun v L' I' hq3 => ?_))
 obtain ⟨rfl, rfl, rfl⟩ := hq3
 refine s_y rfl (v := .tuple #[.string (numS (2 : Int) (d.size : Int)), .bool (decide (numE (2 : Int) (d.size : Int) = 0))]) (y_mv rfl) rfl ?_
 refine s_y rfl (v := .string (numS (2 : Int) (d.size : Int))) (y_k rfl rfl (fun _ => by kernel_rfl)) rfl ?_
 refine s_y rfl (v := .bool (decide (numE (2 : Int) (d.size : Int) = 0))) (y_k rfl rfl (fun _ => by kernel_rfl)) rfl ?_
 refine s_y rfl (v := .string (numS (2 : Int) (d.size : Int))) (y_as rfl) rfl ?_
 refine s_y rfl (v := .bool (decide (numE (2 : Int) (d.size : Int) = 0))) (y_as rfl) rfl ?_
 refine s_nil (q_then (c_seq (c_region ?_)))
 refine s_y rfl (v := .pointer (some ⟨b1, 3, none⟩)) (y_k rfl rfl (fun _ => by kernel_rfl)) rfl ?_
 refine st rfl (o_ld 0 rfl rfl rfl Tryz.underlying37 rfl rfl ?_)
 refine s_y rfl (v := .int .i64 (l.length : Int)) (y_k rfl rfl (fun _ => by kernel_rfl)) rfl ?_
 refine st rfl (o_call [] [] (rnum_ (1 : Int) (l.length : Int)) rfl rfl rfl rfl rfl rfl (fun v L' I' hq4 => ?_))
 obtain ⟨rfl, rfl, rfl⟩ := hq4
 refine s_y rfl (v := .tuple #[.string (numS (1 : Int) (l.length : Int)), .bool (decide (numE (1 : Int) (l.length : Int) = 0))]) (y_mv rfl) rfl ?_
 refine s_y rfl (v := .string (numS (1 : Int) (l.length : Int))) (y_k rfl rfl (fun _ => by kernel_rfl)) rfl ?_
 refine s_y rfl (v := .bool (decide (numE (1 : Int) (l.length : Int) = 0))) (y_k rfl rfl (fun _ => by kernel_rfl)) rfl ?_
 refine s_y rfl (v := .string (numS (1 : Int) (l.length : Int))) (y_as rfl) rfl ?_
 refine s_y rfl (v := .bool (decide (numE (1 : Int) (l.length : Int) = 0))) (y_as rfl) rfl ?_
 refine s_nil (q_then (c_seq (c_region ?_)))
 refine s_y rfl (v := .pointer (some ⟨b1, 4, none⟩)) (y_k rfl rfl (fun _ => by kernel_rfl)) rfl ?_
 refine st rfl (o_ldn 0 3 rfl rfl rfl rfl Tryz.underlying24 rfl (by kernel_rfl) (by kernel_rfl) rfl ?_)
 refine st rfl (o_call [] [] (rlPut_ a (by first | assumption | exact (by assumption : ∀ x ∈ _, lab64 x) _ (List.mem_of_getElem? (by assumption)) | decide)) rfl rfl rfl rfl rfl rfl (fun v L' I' hq5 => ?_))
 obtain ⟨rfl, rfl, rfl⟩ := hq5
 refine s_y rfl (v := .tuple #[.string ((putL a).1), .int .i64 ((putL a).2)]) (y_mv rfl) rfl ?_
 refine s_y rfl (v := .string ((putL a).1)) (y_k rfl rfl (fun _ => by kernel_rfl)) rfl ?_
 refine s_y rfl (v := .int .i64 ((putL a).2)) (y_k rfl rfl (fun _ => by kernel_rfl)) rfl ?_
 refine s_y rfl (v := .string ((putL a).1)) (y_as rfl) rfl ?_
 refine s_y rfl (v := .int .i64 ((putL a).2)) (y_as rfl) rfl ?_
 refine s_nil (q_then (c_seq (c_seq (c_region ?_))))
 refine s_y rfl (v := .bool (decide (numE (2 : Int) e = 0))) (y_mv rfl) rfl ?_
 refine e_by (numE (2 : Int) e = 0) (fun h1 => ?_) (fun h1 => ?_)
 ·
  refine s_y rfl (v := .bool false) (y_nt (y_not rfl) h1) rfl ?_
  refine s_y rfl (v := .bool false) (y_mv rfl) rfl ?_
  refine st_on 52 rfl rfl rfl (o_y (v := .bool (decide (numE (4 : Int) n = 0))) (y_mv rfl) rfl rfl rfl ?_)
  refine e_by (numE (4 : Int) n = 0) (fun h2 => ?_) (fun h2 => ?_)
  ·
   refine st_on 52 rfl rfl rfl (o_y (v := .bool false) (y_nt (y_not rfl) h2) rfl rfl rfl ?_)
   refine s_y rfl (v := .bool false) (y_pick rfl rfl) rfl ?_
   refine s_y rfl (v := .bool false) (y_mv rfl) rfl ?_
   refine st_on 56 rfl rfl rfl (o_y (v := .bool (decide (numE (2 : Int) (d.size : Int) = 0))) (y_mv rfl) rfl rfl rfl ?_)
   refine e_by (numE (2 : Int) (d.size : Int) = 0) (fun h3 => ?_) (fun h3 => ?_)
   ·
    refine st_on 56 rfl rfl rfl (o_y (v := .bool false) (y_nt (y_not rfl) h3) rfl rfl rfl ?_)
    refine s_y rfl (v := .bool false) (y_pick rfl rfl) rfl ?_
    refine s_y rfl (v := .bool false) (y_mv rfl) rfl ?_
    refine st_on 60 rfl rfl rfl (o_y (v := .bool (decide (numE (1 : Int) (l.length : Int) = 0))) (y_mv rfl) rfl rfl rfl ?_)
    refine e_by (numE (1 : Int) (l.length : Int) = 0) (fun h4 => ?_) (fun h4 => ?_)
    ·
     refine st_on 60 rfl rfl rfl (o_y (v := .bool false) (y_nt (y_not rfl) h4) rfl rfl rfl ?_)
     refine s_y rfl (v := .bool false) (y_pick rfl rfl) rfl ?_
     refine s_y rfl (v := .bool false) (y_mv rfl) rfl ?_
     refine st_on 64 rfl rfl rfl (o_y (v := .int .i64 ((putL a).2)) (y_mv rfl) rfl rfl rfl ?_)
     refine e_by ((putL a).2 = 0) (fun h5 => ?_) (fun h5 => ?_)
     ·
      refine st_on 64 rfl rfl rfl (o_y (v := .bool false) (y_nt (y_k (v := .bool (!decide ((putL a).2 = 0))) rfl rfl (fun _ => by kernel_rfl)) h5) rfl rfl rfl ?_)
      refine s_y rfl (v := .bool false) (y_pick rfl rfl) rfl ?_
      refine s_nil (q_then (c_false rfl (c_skip (q_then (c_seq (c_region ?_))))))
      refine s_y rfl (v := .string (numS (2 : Int) e)) (y_mv rfl) rfl ?_
      refine s_y rfl (v := .string (numS (4 : Int) n)) (y_mv rfl) rfl ?_
      refine s_y rfl (v := .string ((numS (2 : Int) e) ++ (numS (4 : Int) n))) (y_cat (s := (numS (2 : Int) e)) (u := (numS (4 : Int) n)) rfl rfl (by have n1_ := numS_size 2 e; have n2_ := numS_size 4 n; have n3_ := numS_size 2 (d.size : Int); have n4_ := numS_size 1 (l.length : Int); have n5_ := putL_size h6a; (try simp only [ByteArray.size_append]); first | omega | (have t_ := ptextF_size x1; omega))) rfl ?_
      refine s_y rfl (v := .string (numS (2 : Int) (d.size : Int))) (y_mv rfl) rfl ?_
      refine s_y rfl (v := .string (((numS (2 : Int) e) ++ (numS (4 : Int) n)) ++ (numS (2 : Int) (d.size : Int)))) (y_cat (s := (numS (2 : Int) e) ++ (numS (4 : Int) n)) (u := (numS (2 : Int) (d.size : Int))) rfl rfl (by have n1_ := numS_size 2 e; have n2_ := numS_size 4 n; have n3_ := numS_size 2 (d.size : Int); have n4_ := numS_size 1 (l.length : Int); have n5_ := putL_size h6a; (try simp only [ByteArray.size_append]); first | omega | (have t_ := ptextF_size x1; omega))) rfl ?_
      refine s_y rfl (v := .pointer (some ⟨b1, 2, none⟩)) (y_k rfl rfl (fun _ => by kernel_rfl)) rfl ?_
      refine st rfl (o_ld 0 rfl rfl rfl Tryz.underlying9 rfl rfl ?_)
      refine s_y rfl (v := .string ((((numS (2 : Int) e) ++ (numS (4 : Int) n)) ++ (numS (2 : Int) (d.size : Int))) ++ d)) (y_cat (s := ((numS (2 : Int) e) ++ (numS (4 : Int) n)) ++ (numS (2 : Int) (d.size : Int))) (u := d) rfl rfl (by have n1_ := numS_size 2 e; have n2_ := numS_size 4 n; have n3_ := numS_size 2 (d.size : Int); have n4_ := numS_size 1 (l.length : Int); have n5_ := putL_size h6a; (try simp only [ByteArray.size_append]); first | omega | (have t_ := ptextF_size x1; omega))) rfl ?_
      refine s_y rfl (v := .string (numS (1 : Int) (l.length : Int))) (y_mv rfl) rfl ?_
      refine s_y rfl (v := .string (((((numS (2 : Int) e) ++ (numS (4 : Int) n)) ++ (numS (2 : Int) (d.size : Int))) ++ d) ++ (numS (1 : Int) (l.length : Int)))) (y_cat (s := (((numS (2 : Int) e) ++ (numS (4 : Int) n)) ++ (numS (2 : Int) (d.size : Int))) ++ d) (u := (numS (1 : Int) (l.length : Int))) rfl rfl (by have n1_ := numS_size 2 e; have n2_ := numS_size 4 n; have n3_ := numS_size 2 (d.size : Int); have n4_ := numS_size 1 (l.length : Int); have n5_ := putL_size h6a; (try simp only [ByteArray.size_append]); first | omega | (have t_ := ptextF_size x1; omega))) rfl ?_
      refine s_y rfl (v := .string (((((numS (2 : Int) e) ++ (numS (4 : Int) n)) ++ (numS (2 : Int) (d.size : Int))) ++ d) ++ (numS (1 : Int) (l.length : Int)))) (y_as rfl) rfl ?_
      refine s_nil (q_then (c_seq (c_seq (c_region ?_))))
      refine s_y rfl (v := .int .i64 0) (y_as rfl) rfl ?_
      refine s_nil (q_then (c_block ?_))
      refine c_loopn (ι := Nat × ByteArray) (fun (k, o) => (k ≤ l.length) ∧ (o = (((((numS (2 : Int) e) ++ (numS (4 : Int) n)) ++ (numS (2 : Int) (d.size : Int))) ++ d) ++ (numS (1 : Int) (l.length : Int))) ++ encT (l.take k)) ∧ (∀ t ∈ l.take k, (ptextF t).2 = 0) ∧ (o.size ≤ 10100 + 201 * k)) (fun (k, o) => [(1, .pointer (some ⟨b1, 0, none⟩)), (12, .string ((putL a).1)), (14, .string o), (15, .int .i64 (k : Int))]) (fun (k, o) => [pt b1 [.int .i64 e, .int .i64 n, .string d, .slice A l.length c, .int .i64 a.lv, .int .u64 (a.cs : Int), .int .i64 a.ig] 39]) (fun (k, o) => [rd strTy A c l]) (fun (k, o) => l.length - k) (0, ((((numS (2 : Int) e) ++ (numS (4 : Int) n)) ++ (numS (2 : Int) (d.size : Int))) ++ d) ++ (numS (1 : Int) (l.length : Int))) [0] [0] (show (0 ≤ l.length) ∧ ((((((numS (2 : Int) e) ++ (numS (4 : Int) n)) ++ (numS (2 : Int) (d.size : Int))) ++ d) ++ (numS (1 : Int) (l.length : Int))) = (((((numS (2 : Int) e) ++ (numS (4 : Int) n)) ++ (numS (2 : Int) (d.size : Int))) ++ d) ++ (numS (1 : Int) (l.length : Int))) ++ encT (l.take 0)) ∧ (∀ t ∈ l.take 0, (ptextF t).2 = 0) ∧ ((((((numS (2 : Int) e) ++ (numS (4 : Int) n)) ++ (numS (2 : Int) (d.size : Int))) ++ d) ++ (numS (1 : Int) (l.length : Int))).size ≤ 10100 + 201 * 0) from ⟨by first | omega | simp_all | (simp; done), (ba_nil' _).symm, (fun t q => by cases q), by have n1_ := numS_size 2 e; have n2_ := numS_size 4 n; have n3_ := numS_size 2 (d.size : Int); have n4_ := numS_size 1 (l.length : Int); have n5_ := putL_size h6a; (try simp only [ByteArray.size_append]); omega⟩) ((.cons rfl rfl (.cons rfl rfl (.cons rfl rfl (.cons rfl rfl .nil))))) rfl rfl ?_
      rintro ⟨k, o⟩ ⟨hk, ho, htk, hz⟩
      show Ent 106 C [(1, .pointer (some ⟨b1, 0, none⟩)), (12, .string ((putL a).1)), (14, .string o), (15, .int .i64 (k : Int))] [] [pt b1 [.int .i64 e, .int .i64 n, .string d, .slice A l.length c, .int .i64 a.lv, .int .u64 (a.cs : Int), .int .i64 a.ig] 39] [rd strTy A c l] _
      refine c_seq (c_seq (c_region ?_))
      refine s_y rfl (v := .int .i64 (k : Int)) (y_mv rfl) rfl ?_
      refine s_y rfl (v := .pointer (some ⟨b1, 3, none⟩)) (y_k rfl rfl (fun _ => by kernel_rfl)) rfl ?_
      refine st rfl (o_ld 0 rfl rfl rfl Tryz.underlying37 rfl rfl ?_)
      refine s_y rfl (v := .int .i64 (l.length : Int)) (y_k rfl rfl (fun _ => by kernel_rfl)) rfl ?_
      refine e_by ((k : Int) < (l.length : Int)) (fun h6 => ?_) (fun h6 => ?_)
      ·
       refine s_y rfl (v := .bool true) (y_t (y_k (v := .bool (decide ((k : Int) < (l.length : Int)))) rfl rfl (fun _ => by kernel_rfl)) h6) rfl ?_
       refine s_nil (q_then (c_true rfl (c_skip (q_then (c_seq (c_block (c_seq (c_region ?_))))))))
       refine s_y rfl (v := .pointer (some ⟨b1, 3, none⟩)) (y_k rfl rfl (fun _ => by kernel_rfl)) rfl ?_
       refine st rfl (o_ld 0 rfl rfl rfl Tryz.underlying37 rfl rfl ?_)
       refine s_y rfl (v := .int .i64 (k : Int)) (y_mv rfl) rfl ?_
       refine e_at 0 k rfl (by omega) (fun b2 o1 x1 hA1 hx1 => ?_)
       refine s_y rfl (v := .pointer (some ⟨b2, o1 + k * 1, none⟩)) (y_at (d := strTy) (l := l) k hA1 rfl rfl rfl (rfl) (List.getElem?_eq_some_iff.1 hx1).1 Tryz.underlying37 (by kernel_rfl) (by kernel_rfl)) rfl ?_
       refine st rfl (o_ldf 0 0 rfl rfl rfl Tryz.underlying9 rfl rfl ?_)
       refine st rfl (o_call [] [] (rPutText_ x1 (by have := ht _ (List.mem_of_getElem? hx1); omega)) rfl rfl rfl rfl rfl rfl (fun v L' I' hq6 => ?_))
       obtain ⟨rfl, rfl, rfl⟩ := hq6
       refine s_y rfl (v := .tuple #[.string ((ptextF x1).1), .int .i64 ((ptextF x1).2)]) (y_mv rfl) rfl ?_
       refine s_y rfl (v := .string ((ptextF x1).1)) (y_k rfl rfl (fun _ => by kernel_rfl)) rfl ?_
       refine s_y rfl (v := .int .i64 ((ptextF x1).2)) (y_k rfl rfl (fun _ => by kernel_rfl)) rfl ?_
       refine s_y rfl (v := .string ((ptextF x1).1)) (y_as rfl) rfl ?_
       refine s_y rfl (v := .int .i64 ((ptextF x1).2)) (y_as rfl) rfl ?_
       refine s_nil (q_then (c_seq (c_seq (c_region ?_))))
       refine s_y rfl (v := .int .i64 ((ptextF x1).2)) (y_mv rfl) rfl ?_
       refine e_by ((ptextF x1).2 = 0) (fun h7 => ?_) (fun h7 => ?_)
       ·
        refine s_y rfl (v := .bool false) (y_nt (y_k (v := .bool (!decide ((ptextF x1).2 = 0))) rfl rfl (fun _ => by kernel_rfl)) h7) rfl ?_
        refine s_nil (q_then (c_false rfl (c_skip (q_then (c_region ?_)))))
        refine s_y rfl (v := .string o) (y_mv rfl) rfl ?_
        refine s_y rfl (v := .string ((ptextF x1).1)) (y_mv rfl) rfl ?_
        refine s_y rfl (v := .string (o ++ ((ptextF x1).1))) (y_cat (s := o) (u := (ptextF x1).1) rfl rfl (by have n1_ := numS_size 2 e; have n2_ := numS_size 4 n; have n3_ := numS_size 2 (d.size : Int); have n4_ := numS_size 1 (l.length : Int); have n5_ := putL_size h6a; (try simp only [ByteArray.size_append]); first | omega | (have t_ := ptextF_size x1; omega))) rfl ?_
        refine s_y rfl (v := .string (o ++ ((ptextF x1).1))) (y_as rfl) rfl ?_
        refine s_nil (q_block (q_then (c_region ?_)))
        refine s_y rfl (v := .int .i64 (k : Int)) (y_mv rfl) rfl ?_
        refine s_y rfl (v := .int .i64 ((k : Int) + 1)) (y_add (r := (k : Int) + 1) rfl rfl rfl (by omega)) rfl ?_
        refine s_y rfl (v := .int .i64 ((k : Int) + 1)) (y_as rfl) rfl ?_
        refine s_nil (q_then ?_)
        refine c_next [0] [1] (k + 1, o ++ ((ptextF x1).1)) ?_ ?_ ?_ (by rfl) (by rfl)
        · exact (show ((k + 1) ≤ l.length) ∧ ((o ++ ((ptextF x1).1)) = (((((numS (2 : Int) e) ++ (numS (4 : Int) n)) ++ (numS (2 : Int) (d.size : Int))) ++ d) ++ (numS (1 : Int) (l.length : Int))) ++ encT (l.take (k + 1))) ∧ (∀ t ∈ l.take (k + 1), (ptextF t).2 = 0) ∧ ((o ++ ((ptextF x1).1)).size ≤ 10100 + 201 * (k + 1)) from ⟨by first | omega | simp_all | (simp; done), rr_step ho hx1, rr_all htk hx1 (by assumption), by have := ptextF_size x1; rw [ByteArray.size_append]; omega⟩)
        · show l.length - (k + 1) < l.length - k; omega
        · exact (.cons rfl rfl (.cons rfl rfl (.cons rfl rfl (.cons rfl (show (.int .i64 ((k : Int) + 1) : Value) = .int .i64 ((k + 1) : Int) from by first | rfl | (congr 1; omega) | (congr 1; simp; done) | (congr 1; simp; omega)) .nil))))
       ·
        refine s_y rfl (v := .bool true) (y_nf (y_k (v := .bool (!decide ((ptextF x1).2 = 0))) rfl rfl (fun _ => by kernel_rfl)) h7) rfl ?_
        refine s_nil (q_then (c_true rfl (c_seq (c_region ?_))))
        refine s_y rfl (v := .string (⟨#[]⟩ : ByteArray)) (y_as rfl) rfl ?_
        refine s_y rfl (v := .int .i64 171) (y_as rfl) rfl ?_
        refine s_nil (q_then (c_ret (q_then_ret (q_block_ret (q_then_ret (q_then_ret (q_block_ret (q_then_ret ?_))))))))
        have hp : repPut e n d l a = ((⟨#[]⟩ : ByteArray), 171) := by first | exact rr_g (by assumption) (by assumption) (by assumption) (by assumption) (by assumption) htk (by omega) ho (by omega) | exact rr_r (by assumption) (by assumption) (by assumption) (by assumption) (by assumption) htk (by omega) ho (by omega) | exact rr_bad (fun q => absurd q.1 (by assumption)) | exact rr_bad (fun q => absurd q.2.1 (by assumption)) | exact rr_bad (fun q => absurd q.2.2.1 (by assumption)) | exact rr_bad (fun q => absurd q.2.2.2.1 (by assumption)) | exact rr_bad (fun q => absurd q.2.2.2.2.2 (by assumption)) | exact rr_bad (fun q => absurd (q.2.2.2.2.1 _ (List.mem_of_getElem? hx1)) (by assumption))
        refine c_fin (I' := []) [] [1] rfl (.tmp rfl (.tmp rfl .nil)) rfl rfl rfl ?_
        rw [hp]
        exact ⟨rfl, rfl, rfl⟩
      ·
       refine s_y rfl (v := .bool false) (y_f (y_k (v := .bool (decide ((k : Int) < (l.length : Int)))) rfl rfl (fun _ => by kernel_rfl)) h6) rfl ?_
       refine s_nil (q_then (c_false rfl ?_))
       refine c_exit ?_
       refine q_then_exit ?_
       refine q_then_exit ?_
       refine q_block_here ?_
       refine q_then (c_seq (c_region ?_))
       refine s_y rfl (v := .string o) (y_mv rfl) rfl ?_
       refine s_y rfl (v := .string ((putL a).1)) (y_mv rfl) rfl ?_
       refine s_y rfl (v := .string (o ++ ((putL a).1))) (y_cat (s := o) (u := (putL a).1) rfl rfl (by have n1_ := numS_size 2 e; have n2_ := numS_size 4 n; have n3_ := numS_size 2 (d.size : Int); have n4_ := numS_size 1 (l.length : Int); have n5_ := putL_size h6a; (try simp only [ByteArray.size_append]); first | omega | (have t_ := ptextF_size x1; omega))) rfl ?_
       refine s_y rfl (v := .string (o ++ ((putL a).1))) (y_as rfl) rfl ?_
       refine s_nil (q_then (c_seq (c_seq (c_region ?_))))
       refine s_y rfl (v := .string (o ++ ((putL a).1))) (y_mv rfl) rfl ?_
       refine s_y rfl (v := .int .i64 ((o ++ ((putL a).1)).size : Int)) (y_k rfl rfl (fun _ => by kernel_rfl)) rfl ?_
       refine e_by (((o ++ ((putL a).1)).size : Int) > 2000) (fun h8 => ?_) (fun h8 => ?_)
       ·
        refine s_y rfl (v := .bool true) (y_t (y_k (v := .bool (decide (((o ++ ((putL a).1)).size : Int) > 2000))) rfl rfl (fun _ => by kernel_rfl)) h8) rfl ?_
        refine s_nil (q_then (c_true rfl (c_seq (c_region ?_))))
        refine s_y rfl (v := .string (⟨#[]⟩ : ByteArray)) (y_as rfl) rfl ?_
        refine s_y rfl (v := .int .i64 171) (y_as rfl) rfl ?_
        refine s_nil (q_then (c_ret (q_then_ret ?_)))
        have hp : repPut e n d l a = ((⟨#[]⟩ : ByteArray), 171) := by first | exact rr_g (by assumption) (by assumption) (by assumption) (by assumption) (by assumption) htk (by omega) ho (by omega) | exact rr_r (by assumption) (by assumption) (by assumption) (by assumption) (by assumption) htk (by omega) ho (by omega) | exact rr_bad (fun q => absurd q.1 (by assumption)) | exact rr_bad (fun q => absurd q.2.1 (by assumption)) | exact rr_bad (fun q => absurd q.2.2.1 (by assumption)) | exact rr_bad (fun q => absurd q.2.2.2.1 (by assumption)) | exact rr_bad (fun q => absurd q.2.2.2.2.2 (by assumption)) | exact rr_bad (fun q => absurd (q.2.2.2.2.1 _ (List.mem_of_getElem? hx1)) (by assumption))
        refine c_fin (I' := []) [] [0] rfl (.tmp rfl (.tmp rfl .nil)) rfl rfl rfl ?_
        rw [hp]
        exact ⟨rfl, rfl, rfl⟩
       ·
        refine s_y rfl (v := .bool false) (y_f (y_k (v := .bool (decide (((o ++ ((putL a).1)).size : Int) > 2000))) rfl rfl (fun _ => by kernel_rfl)) h8) rfl ?_
        refine s_nil (q_then (c_false rfl (c_skip (q_then (c_seq (c_region ?_))))))
        refine s_y rfl (v := .string (o ++ ((putL a).1))) (y_mv rfl) rfl ?_
        refine s_y rfl (v := .string (o ++ ((putL a).1))) (y_as rfl) rfl ?_
        refine s_y rfl (v := .int .i64 0) (y_as rfl) rfl ?_
        refine s_nil (q_then (c_ret ?_))
        have hp : repPut e n d l a = (o ++ ((putL a).1), 0) := by first | exact rr_g (by assumption) (by assumption) (by assumption) (by assumption) (by assumption) htk (by omega) ho (by omega) | exact rr_r (by assumption) (by assumption) (by assumption) (by assumption) (by assumption) htk (by omega) ho (by omega) | exact rr_bad (fun q => absurd q.1 (by assumption)) | exact rr_bad (fun q => absurd q.2.1 (by assumption)) | exact rr_bad (fun q => absurd q.2.2.1 (by assumption)) | exact rr_bad (fun q => absurd q.2.2.2.1 (by assumption)) | exact rr_bad (fun q => absurd q.2.2.2.2.2 (by assumption)) | exact rr_bad (fun q => absurd (q.2.2.2.2.1 _ (List.mem_of_getElem? hx1)) (by assumption))
        refine c_fin (I' := []) [] [0] rfl (.tmp rfl (.tmp rfl .nil)) rfl rfl rfl ?_
        rw [hp]
        exact ⟨rfl, rfl, rfl⟩
     ·
      refine st_on 64 rfl rfl rfl (o_y (v := .bool true) (y_nf (y_k (v := .bool (!decide ((putL a).2 = 0))) rfl rfl (fun _ => by kernel_rfl)) h5) rfl rfl rfl ?_)
      refine s_y rfl (v := .bool true) (y_pick rfl rfl) rfl ?_
      refine s_nil (q_then (c_true rfl (c_seq (c_region ?_))))
      refine s_y rfl (v := .string (⟨#[]⟩ : ByteArray)) (y_as rfl) rfl ?_
      refine s_y rfl (v := .int .i64 171) (y_as rfl) rfl ?_
      refine s_nil (q_then (c_ret (q_then_ret ?_)))
      have hp : repPut e n d l a = ((⟨#[]⟩ : ByteArray), 171) := by first | exact rr_g (by assumption) (by assumption) (by assumption) (by assumption) (by assumption) htk (by omega) ho (by omega) | exact rr_r (by assumption) (by assumption) (by assumption) (by assumption) (by assumption) htk (by omega) ho (by omega) | exact rr_bad (fun q => absurd q.1 (by assumption)) | exact rr_bad (fun q => absurd q.2.1 (by assumption)) | exact rr_bad (fun q => absurd q.2.2.1 (by assumption)) | exact rr_bad (fun q => absurd q.2.2.2.1 (by assumption)) | exact rr_bad (fun q => absurd q.2.2.2.2.2 (by assumption)) | exact rr_bad (fun q => absurd (q.2.2.2.2.1 _ (List.mem_of_getElem? hx1)) (by assumption))
      refine c_fin (I' := []) [] [0] rfl (.tmp rfl (.tmp rfl .nil)) rfl rfl rfl ?_
      rw [hp]
      exact ⟨rfl, rfl, rfl⟩
    ·
     refine st_on 60 rfl rfl rfl (o_y (v := .bool true) (y_nf (y_not rfl) h4) rfl rfl rfl ?_)
     refine s_y rfl (v := .bool true) (y_pick rfl rfl) rfl ?_
     refine s_y rfl (v := .bool true) (y_mv rfl) rfl ?_
     refine st_off 64 rfl rfl rfl rfl rfl rfl ?_
     refine st_off 64 rfl rfl rfl rfl rfl rfl ?_
     refine s_y rfl (v := .bool true) (y_pick rfl rfl) rfl ?_
     refine s_nil (q_then (c_true rfl (c_seq (c_region ?_))))
     refine s_y rfl (v := .string (⟨#[]⟩ : ByteArray)) (y_as rfl) rfl ?_
     refine s_y rfl (v := .int .i64 171) (y_as rfl) rfl ?_
     refine s_nil (q_then (c_ret (q_then_ret ?_)))
     have hp : repPut e n d l a = ((⟨#[]⟩ : ByteArray), 171) := by first | exact rr_g (by assumption) (by assumption) (by assumption) (by assumption) (by assumption) htk (by omega) ho (by omega) | exact rr_r (by assumption) (by assumption) (by assumption) (by assumption) (by assumption) htk (by omega) ho (by omega) | exact rr_bad (fun q => absurd q.1 (by assumption)) | exact rr_bad (fun q => absurd q.2.1 (by assumption)) | exact rr_bad (fun q => absurd q.2.2.1 (by assumption)) | exact rr_bad (fun q => absurd q.2.2.2.1 (by assumption)) | exact rr_bad (fun q => absurd q.2.2.2.2.2 (by assumption)) | exact rr_bad (fun q => absurd (q.2.2.2.2.1 _ (List.mem_of_getElem? hx1)) (by assumption))
     refine c_fin (I' := []) [] [0] rfl (.tmp rfl (.tmp rfl .nil)) rfl rfl rfl ?_
     rw [hp]
     exact ⟨rfl, rfl, rfl⟩
   ·
    refine st_on 56 rfl rfl rfl (o_y (v := .bool true) (y_nf (y_not rfl) h3) rfl rfl rfl ?_)
    refine s_y rfl (v := .bool true) (y_pick rfl rfl) rfl ?_
    refine s_y rfl (v := .bool true) (y_mv rfl) rfl ?_
    refine st_off 60 rfl rfl rfl rfl rfl rfl ?_
    refine st_off 60 rfl rfl rfl rfl rfl rfl ?_
    refine s_y rfl (v := .bool true) (y_pick rfl rfl) rfl ?_
    refine s_y rfl (v := .bool true) (y_mv rfl) rfl ?_
    refine st_off 64 rfl rfl rfl rfl rfl rfl ?_
    refine st_off 64 rfl rfl rfl rfl rfl rfl ?_
    refine s_y rfl (v := .bool true) (y_pick rfl rfl) rfl ?_
    refine s_nil (q_then (c_true rfl (c_seq (c_region ?_))))
    refine s_y rfl (v := .string (⟨#[]⟩ : ByteArray)) (y_as rfl) rfl ?_
    refine s_y rfl (v := .int .i64 171) (y_as rfl) rfl ?_
    refine s_nil (q_then (c_ret (q_then_ret ?_)))
    have hp : repPut e n d l a = ((⟨#[]⟩ : ByteArray), 171) := by first | exact rr_g (by assumption) (by assumption) (by assumption) (by assumption) (by assumption) htk (by omega) ho (by omega) | exact rr_r (by assumption) (by assumption) (by assumption) (by assumption) (by assumption) htk (by omega) ho (by omega) | exact rr_bad (fun q => absurd q.1 (by assumption)) | exact rr_bad (fun q => absurd q.2.1 (by assumption)) | exact rr_bad (fun q => absurd q.2.2.1 (by assumption)) | exact rr_bad (fun q => absurd q.2.2.2.1 (by assumption)) | exact rr_bad (fun q => absurd q.2.2.2.2.2 (by assumption)) | exact rr_bad (fun q => absurd (q.2.2.2.2.1 _ (List.mem_of_getElem? hx1)) (by assumption))
    refine c_fin (I' := []) [] [0] rfl (.tmp rfl (.tmp rfl .nil)) rfl rfl rfl ?_
    rw [hp]
    exact ⟨rfl, rfl, rfl⟩
  ·
   refine st_on 52 rfl rfl rfl (o_y (v := .bool true) (y_nf (y_not rfl) h2) rfl rfl rfl ?_)
   refine s_y rfl (v := .bool true) (y_pick rfl rfl) rfl ?_
   refine s_y rfl (v := .bool true) (y_mv rfl) rfl ?_
   refine st_off 56 rfl rfl rfl rfl rfl rfl ?_
   refine st_off 56 rfl rfl rfl rfl rfl rfl ?_
   refine s_y rfl (v := .bool true) (y_pick rfl rfl) rfl ?_
   refine s_y rfl (v := .bool true) (y_mv rfl) rfl ?_
   refine st_off 60 rfl rfl rfl rfl rfl rfl ?_
   refine st_off 60 rfl rfl rfl rfl rfl rfl ?_
   refine s_y rfl (v := .bool true) (y_pick rfl rfl) rfl ?_
   refine s_y rfl (v := .bool true) (y_mv rfl) rfl ?_
   refine st_off 64 rfl rfl rfl rfl rfl rfl ?_
   refine st_off 64 rfl rfl rfl rfl rfl rfl ?_
   refine s_y rfl (v := .bool true) (y_pick rfl rfl) rfl ?_
   refine s_nil (q_then (c_true rfl (c_seq (c_region ?_))))
   refine s_y rfl (v := .string (⟨#[]⟩ : ByteArray)) (y_as rfl) rfl ?_
   refine s_y rfl (v := .int .i64 171) (y_as rfl) rfl ?_
   refine s_nil (q_then (c_ret (q_then_ret ?_)))
   have hp : repPut e n d l a = ((⟨#[]⟩ : ByteArray), 171) := by first | exact rr_g (by assumption) (by assumption) (by assumption) (by assumption) (by assumption) htk (by omega) ho (by omega) | exact rr_r (by assumption) (by assumption) (by assumption) (by assumption) (by assumption) htk (by omega) ho (by omega) | exact rr_bad (fun q => absurd q.1 (by assumption)) | exact rr_bad (fun q => absurd q.2.1 (by assumption)) | exact rr_bad (fun q => absurd q.2.2.1 (by assumption)) | exact rr_bad (fun q => absurd q.2.2.2.1 (by assumption)) | exact rr_bad (fun q => absurd q.2.2.2.2.2 (by assumption)) | exact rr_bad (fun q => absurd (q.2.2.2.2.1 _ (List.mem_of_getElem? hx1)) (by assumption))
   refine c_fin (I' := []) [] [0] rfl (.tmp rfl (.tmp rfl .nil)) rfl rfl rfl ?_
   rw [hp]
   exact ⟨rfl, rfl, rfl⟩
 ·
  refine s_y rfl (v := .bool true) (y_nf (y_not rfl) h1) rfl ?_
  refine s_y rfl (v := .bool true) (y_mv rfl) rfl ?_
  refine st_off 52 rfl rfl rfl rfl rfl rfl ?_
  refine st_off 52 rfl rfl rfl rfl rfl rfl ?_
  refine s_y rfl (v := .bool true) (y_pick rfl rfl) rfl ?_
  refine s_y rfl (v := .bool true) (y_mv rfl) rfl ?_
  refine st_off 56 rfl rfl rfl rfl rfl rfl ?_
  refine st_off 56 rfl rfl rfl rfl rfl rfl ?_
  refine s_y rfl (v := .bool true) (y_pick rfl rfl) rfl ?_
  refine s_y rfl (v := .bool true) (y_mv rfl) rfl ?_
  refine st_off 60 rfl rfl rfl rfl rfl rfl ?_
  refine st_off 60 rfl rfl rfl rfl rfl rfl ?_
  refine s_y rfl (v := .bool true) (y_pick rfl rfl) rfl ?_
  refine s_y rfl (v := .bool true) (y_mv rfl) rfl ?_
  refine st_off 64 rfl rfl rfl rfl rfl rfl ?_
  refine st_off 64 rfl rfl rfl rfl rfl rfl ?_
  refine s_y rfl (v := .bool true) (y_pick rfl rfl) rfl ?_
  refine s_nil (q_then (c_true rfl (c_seq (c_region ?_))))
  refine s_y rfl (v := .string (⟨#[]⟩ : ByteArray)) (y_as rfl) rfl ?_
  refine s_y rfl (v := .int .i64 171) (y_as rfl) rfl ?_
  refine s_nil (q_then (c_ret (q_then_ret ?_)))
  have hp : repPut e n d l a = ((⟨#[]⟩ : ByteArray), 171) := by first | exact rr_g (by assumption) (by assumption) (by assumption) (by assumption) (by assumption) htk (by omega) ho (by omega) | exact rr_r (by assumption) (by assumption) (by assumption) (by assumption) (by assumption) htk (by omega) ho (by omega) | exact rr_bad (fun q => absurd q.1 (by assumption)) | exact rr_bad (fun q => absurd q.2.1 (by assumption)) | exact rr_bad (fun q => absurd q.2.2.1 (by assumption)) | exact rr_bad (fun q => absurd q.2.2.2.1 (by assumption)) | exact rr_bad (fun q => absurd q.2.2.2.2.2 (by assumption)) | exact rr_bad (fun q => absurd (q.2.2.2.2.1 _ (List.mem_of_getElem? hx1)) (by assumption))
  refine c_fin (I' := []) [] [0] rfl (.tmp rfl (.tmp rfl .nil)) rfl rfl rfl ?_
  rw [hp]
  exact ⟨rfl, rfl, rfl⟩
end Go.Proofs.YtcnncdniibkjkaaGreatDoor
