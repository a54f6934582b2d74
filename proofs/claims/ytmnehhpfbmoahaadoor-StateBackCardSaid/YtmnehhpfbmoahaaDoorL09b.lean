/- Layer 9's third law. -/
import Derived.Test.YtmnehhpfbmoahaaDoorL09
import Derived.Test.YtmnehhpfbmoahaaDoorLib6
import Derived.Test.YtmnehhpfbmoahaaDoorLib7
namespace Go.Proofs.YtmnehhpfbmoahaaDoor
open Go Go.RowKit Go.Alm
theorem stread_jC (ao : Option Addr) (cap : Nat) (l : List Nat) (hB : Byt l) (hl : l.length ≤ 2000000) :
    Does Tryd.prog 70 #[(.slice ao l.length cap)] [(.rd ao (B l))] [] (fun v H => v = (.tuple #[(.agg (SC (stRd l))), (.int .i64 ((stE l : Nat) : Int))]) ∧ H = []) := by rw [SC_eq]; exact stread_j ao cap l hB hl
theorem stbytes_jC (s : SState) (hs : SState.Ok s) :
    Does Tryd.prog 66 #[(.agg (SC s))] [] [] (fun v H => ∃ (ao' : Option Addr), ∃ (cap' : Nat), v = (.slice ao' s.bytes.length cap') ∧ H = [(.row 5 1 ao' s.bytes.length cap' (B s.bytes))]) := by rw [SC_eq]; exact stbytes_j s hs
theorem stR_jC (s : SState) (hs : SState.Ok s) :
    Does Tryd.prog 63 #[(.agg (SC s))] [] [] (fun v H => v = (.bool (decide (SState.Right s))) ∧ H = []) := by rw [SC_eq]; exact stR_j s hs
set_option maxRecDepth 100000 in
set_option maxHeartbeats 2000000 in
theorem stateBack_jC (s : SState) (t : SState) (ao : Option Addr) (cap : Nat) (l : List Nat) (hs : SState.Ok s) (ht : SState.Ok t) (hB : Byt l) (hc : l.length ≤ cap) :
    Does Tryd.prog 16 #[(.agg (SC s)), (.agg (SC t)), (.slice ao l.length cap)] [(.rd ao (B l)), (.rd (some ⟨1, 0, none⟩) ((hw KL).toList))] [] (fun v H => v = (.bool true) ∧ H = []) := by
  have hbl := bytes_len hs; have hbt := bytes_len ht; 
  have hhs_slot := hs.slot; have hhs_len := hs.len; have hhs_count := hs.count; have hhs_win_min := hs.win.min; have hhs_win_ring_last := hs.win.ring.last; have hhs_win_ring_counts := hs.win.ring.counts; have hhs_eps_now_len := hs.eps.now.len; have hhs_eps_next_len := hs.eps.next.len; have hht_slot := ht.slot; have hht_len := ht.len; have hht_count := ht.count; have hht_win_min := ht.win.min; have hht_win_ring_last := ht.win.ring.last; have hht_win_ring_counts := ht.win.ring.counts; have hht_eps_now_len := ht.eps.now.len; have hht_eps_next_len := ht.eps.next.len
  refine m_fn fun F => ?_
  refine m_new 2 fun b1 => ?_
  refine m_new 0 fun b2 => ?_
  refine m_call 6 [] (awake09_j) (.cons 2 (.refl) .nil) ?_
  rintro _ _ ⟨rfl, rfl⟩
  refine m_if 14 (((l.length : Nat) : Int) > (1000 : Int)) (fun c3 => ?_) (fun c3 => ?_)
  · -- yes
    exact m_ret 7 (.bool true) [] ⟨(rfl), by kernel_rfl⟩
  · -- no
    refine m_plan 3 [1, 2] (.q 0 true (.q 2 true (.e 1 (.e 3 (.q 4 false (.q 5 false .n)))))) [1, 0] ?_
    refine m_ldW 0 3 b1 101 363 (SC s) (SC.size _) ?_
    refine m_ldW 0 4 b2 101 363 (SC t) (SC.size _) ?_
    refine m_call 0 [] (stbytes_jC s hs) .nil ?_
    rintro _ _ ⟨ao4, cap5, rfl, rfl⟩
    refine m_thaw 0 ?_
    refine m_call 0 [] (stbytes_jC t ht) .nil ?_
    rintro _ _ ⟨ao6, cap7, rfl, rfl⟩
    refine m_thaw 3 ?_
    refine m_plan 3 [2, 4] (.q 0 false (.q 1 false (.q 3 true (.q 4 true (.q 5 false (.e 2 (.q 6 false (.q 7 false (.q 8 false (.q 9 false (.q 10 false (.q 11 false (.q 12 false (.q 13 false (.q 14 false (.q 15 false (.q 16 false (.q 17 false (.q 18 false .n))))))))))))))))))) [1, 1] ?_
    refine m_ldW 2 3 b1 101 363 (SC s) (SC.size _) ?_
    refine m_ldW 0 4 b2 101 363 (SC t) (SC.size _) ?_
    refine m_eqsW 0 363 true (SC s) (SC t) (s = t) (SC.inj hs ht) (SC.wf hs) (SC.wf ht) (SC.size _) (SC.size _) (SC.kinds _) (SC.kinds _) (fun c9 => ?_) (fun c9 => ?_)
    · -- the same
      refine m_call 0 [] (same_o ao4 cap5 s.bytes ao6 cap7 t.bytes (by omega) (by omega)) (.cons 6 (.rd) (.cons 5 (.rd) .nil)) ?_
      refine bind_var (decide (s.bytes = t.bytes)) fun q hq => ?_
      rintro _ _ ⟨hv10, rfl⟩
      rw [show ((.bool (decide (s.bytes = t.bytes))) : Value) = (.bool q) from by rw [hq]] at hv10; subst hv10
      refine m_spb 1 (q != true) (fun c11 => absurd (c11.symm.trans (by rw [hq, decide_eq_true ((bytes_inj hs ht).2 c9)])) (by decide)) (fun c11 => ?_)
      refine m_spn 6 (((s.bytes.length : Nat) : Int) = ((t.bytes.length : Nat) : Int)) (fun c12 => ?_) (fun c12 => absurd (by omega) c12)
      refine m_thaw 5 ?_
      refine m_if 1 (((s.bytes.length : Nat) : Int) = (0 : Int)) (fun c13 => absurd c13 (by omega)) (fun c13 => ?_)
      refine m_call 5 [] (stread_jC ao4 cap5 s.bytes (bytes_byt hs) (by first | omega | (rw [List.length_take]; omega) | (rw [b0_len hs]; decide))) (.cons 6 (.rd) .nil) ?_
      have oky14 : SState.Ok (stRd s.bytes) := stRd_ok (bytes_byt hs)
      refine bind_var (stRd s.bytes) fun y14 hy14 => ?_
      refine bind_var (stE s.bytes) fun e14 he14 => ?_
      rw [← hy14] at oky14
      rintro _ _ ⟨hv15, rfl⟩
      rw [show ((.tuple #[(.agg (SC (stRd s.bytes))), (.int .i64 ((stE s.bytes : Nat) : Int))]) : Value) = (.tuple #[(.agg (SC y14)), (.int .i64 ((e14 : Nat) : Int))]) from by rw [hy14, he14]] at hv15; subst hv15
      refine m_new 3 fun b16 => ?_
      refine m_stW 0 0 363 (SC y14) (SC.size _) (SC.ones _) ?_
      refine m_ldW 6 4 b1 101 363 (SC s) (SC.size _) ?_
      refine m_call 0 [] (stR_jC s hs) .nil ?_
      rintro _ _ ⟨rfl, rfl⟩
      refine m_sp 0 (SState.Right s) (fun c17 => ?_) (fun c17 => ?_)
      · -- yes
        refine m_ldW 0 3 b16 101 363 (SC y14) (SC.size _) ?_
        refine m_ldW 0 4 b1 101 363 (SC s) (SC.size _) ?_
        refine m_eqsW 0 363 false (SC y14) (SC s) (y14 = s) (SC.inj oky14 hs) (SC.wf oky14) (SC.wf hs) (SC.size _) (SC.size _) (SC.kinds _) (SC.kinds _) (fun _ => ?_) (fun c18 => absurd (hy14.trans (read_back hs c17).2) c18)
        refine m_spn 5 (((e14 : Nat) : Int) = (0 : Int)) (fun c19 => ?_) (fun c19 => absurd (by rw [he14, (read_back hs c17).1]; rfl) c19)
        refine m_ldW 0 4 b1 101 363 (SC s) (SC.size _) ?_
        refine m_call 0 [] (stR_jC s hs) .nil ?_
        rintro _ _ ⟨rfl, rfl⟩
        refine m_spn 1 (SState.Right s) (fun c20 => ?_) (fun c20 => absurd (c17) c20)
        refine m_i64 19 (((s.bytes.length : Nat) : Int) - (1 : Int)) (s.bytes.length - 1) (by omega) ?_
        refine m_rowle 7 s.bytes.length cap5 fun hc21 hc21' => ?_
        refine m_slc 0 1 s.bytes.length cap5 0 (s.bytes.length - 1) cap5 ((s.bytes.take 395).length) (cap5 - 0) ao4 ⟨(by omega), (by omega), (by omega)⟩ (by rw [List.length_take]; omega) rfl ?_
        refine m_call 0 [] (stread_jC (cutA ao4 0 cap5 1) (cap5 - 0) (s.bytes.take 395) (((bytes_byt hs).take _)) (by first | omega | (rw [List.length_take]; omega) | (rw [b0_len hs]; decide))) (.cons 7 (.cutX 0 (s.bytes.length - 1) cap5 1 (B s.bytes) (B (s.bytes.take 395)) (by omega) ((B_cut s.bytes 0 (s.bytes.length - 1)).trans (by rw [List.drop_zero, bytes_len hs]))) .nil) ?_
        have oky22 : SState.Ok (stRd (s.bytes.take 395)) := stRd_ok (((bytes_byt hs).take _))
        refine bind_var (stRd (s.bytes.take 395)) fun y22 hy22 => ?_
        refine bind_var (stE (s.bytes.take 395)) fun e22 he22 => ?_
        rw [← hy22] at oky22
        rintro _ _ ⟨hv23, rfl⟩
        rw [show ((.tuple #[(.agg (SC (stRd (s.bytes.take 395)))), (.int .i64 ((stE (s.bytes.take 395) : Nat) : Int))]) : Value) = (.tuple #[(.agg (SC y22)), (.int .i64 ((e22 : Nat) : Int))]) from by rw [hy22, he22]] at hv23; subst hv23
        refine m_new 3 fun b24 => ?_
        refine m_stW 0 0 363 (SC y22) (SC.size _) (SC.ones _) ?_
        refine m_new 5 fun b25 => ?_
        refine m_view 0 _ (.made 5 1 0 0 (B [])) ?_
        refine m_appB 1 0 5 [] s.bytes s.bytes (List.nil_append _) (SrcW.rd 8 _ cap5 (B s.bytes) (by rw [B_length, Nat.mul_one]) B_one) rfl (by first | omega | ((repeat (rw [List.length_append])); omega) | ((repeat (rw [List.length_append])); (repeat (rw [putB_length])); omega) | ((repeat (rw [List.length_append])); (repeat (rw [sB_length])); omega) | ((repeat (rw [List.length_append])); (repeat (rw [List.length_cons])); omega) | ((repeat (rw [List.length_append])); (repeat (rw [putB_length])); (repeat (rw [List.length_cons])); omega) | ((repeat (rw [List.length_append])); (repeat (rw [List.length_take])); omega) | (simp only [List.length_append, List.length_cons, List.length_nil, List.length_take, putB_length, sB_length]; omega)) fun ao26 cap27 => ?_
        refine m_new 0 fun b28 => ?_
        refine m_appB 0 1 5 s.bytes [0] s.b0 rfl ((SrcW.cut 3 0 1 1).news (by kernel_rfl)) rfl (by first | omega | ((repeat (rw [List.length_append])); omega) | ((repeat (rw [List.length_append])); (repeat (rw [putB_length])); omega) | ((repeat (rw [List.length_append])); (repeat (rw [sB_length])); omega) | ((repeat (rw [List.length_append])); (repeat (rw [List.length_cons])); omega) | ((repeat (rw [List.length_append])); (repeat (rw [putB_length])); (repeat (rw [List.length_cons])); omega) | ((repeat (rw [List.length_append])); (repeat (rw [List.length_take])); omega) | (simp only [List.length_append, List.length_cons, List.length_nil, List.length_take, putB_length, sB_length]; omega)) fun ao29 cap30 => ?_
        refine m_call 0 [] (stread_jC ao29 cap30 s.b0 ((b0_byt hs)) (by first | omega | (rw [List.length_take]; omega) | (rw [b0_len hs]; decide))) (.cons 4 (.rd) .nil) ?_
        have oky31 : SState.Ok (stRd s.b0) := stRd_ok ((b0_byt hs))
        refine bind_var (stRd s.b0) fun y31 hy31 => ?_
        refine bind_var (stE s.b0) fun e31 he31 => ?_
        rw [← hy31] at oky31
        rintro _ _ ⟨hv32, rfl⟩
        rw [show ((.tuple #[(.agg (SC (stRd s.b0))), (.int .i64 ((stE s.b0 : Nat) : Int))]) : Value) = (.tuple #[(.agg (SC y31)), (.int .i64 ((e31 : Nat) : Int))]) from by rw [hy31, he31]] at hv32; subst hv32
        refine m_new 3 fun b33 => ?_
        refine m_stW 0 0 363 (SC y31) (SC.size _) (SC.ones _) ?_
        refine m_spn 8 (((e22 : Nat) : Int) = (3 : Int)) (fun c34 => ?_) (fun c34 => absurd (by rw [he22, read_short hs]; rfl) c34)
        refine m_ifn 5 (((e31 : Nat) : Int) = (4 : Int)) (fun c35 => ?_) (fun c35 => absurd (by rw [he31, b0_long hs]; rfl) c35)
        refine m_call 5 [] (stread_jC ao cap l hB (by first | omega | (rw [List.length_take]; omega) | (rw [b0_len hs]; decide))) (.cons 1 (.refl) .nil) ?_
        have oky36 : SState.Ok (stRd l) := stRd_ok hB
        refine bind_var (stRd l) fun y36 hy36 => ?_
        refine bind_var (stE l) fun e36 he36 => ?_
        rw [← hy36] at oky36
        rintro _ _ ⟨hv37, rfl⟩
        rw [show ((.tuple #[(.agg (SC (stRd l))), (.int .i64 ((stE l : Nat) : Int))]) : Value) = (.tuple #[(.agg (SC y36)), (.int .i64 ((e36 : Nat) : Int))]) from by rw [hy36, he36]] at hv37; subst hv37
        refine m_new 3 fun b38 => ?_
        refine m_stW 0 0 363 (SC y36) (SC.size _) (SC.ones _) ?_
        refine m_spn 7 (((e36 : Nat) : Int) = (0 : Int)) (fun c39 => ?_) (fun c39 => ?_)
        · -- no
          refine m_ldW 0 3 b38 101 363 (SC y36) (SC.size _) ?_
          refine m_call 0 [] (stbytes_jC y36 oky36) .nil ?_
          rintro _ _ ⟨ao40, cap41, rfl, rfl⟩
          refine m_call 1 [] (same_o ao40 cap41 y36.bytes ao cap l (by have := bytes_le oky36; omega) (by omega)) (.cons 3 (.rd) (.cons 1 (.refl) .nil)) ?_
          rintro _ _ ⟨rfl, rfl⟩
          refine m_sp 0 (y36.bytes = l) (fun c43 => ?_) (fun c43 => absurd ((congrArg SState.bytes hy36).trans (read_write hB (by omega)).1) c43)
          refine m_ldW 0 4 b38 101 363 (SC y36) (SC.size _) ?_
          refine m_call 0 [] (stR_jC y36 oky36) .nil ?_
          rintro _ _ ⟨rfl, rfl⟩
          exact m_ret 6 (.bool (decide (SState.Right y36))) [] ⟨(congrArg Value.bool (decide_eq_true (by rw [hy36]; exact (read_write hB (by omega)).2))), by kernel_rfl⟩
        · -- yes
          exact m_ret 13 (.bool true) [] ⟨(rfl), by kernel_rfl⟩
      · -- no
        refine m_ldW 9 4 b1 101 363 (SC s) (SC.size _) ?_
        refine m_call 0 [] (stR_jC s hs) .nil ?_
        rintro _ _ ⟨rfl, rfl⟩
        refine m_spn 1 (SState.Right s) (fun c44 => absurd c44 (c17)) (fun c44 => ?_)
        refine m_spn 2 (((e14 : Nat) : Int) = (2 : Int)) (fun c45 => ?_) (fun c45 => absurd (by rw [he14, (read_form hs c17).1]; rfl) c45)
        refine m_ldW 0 3 b16 101 363 (SC y14) (SC.size _) ?_
        refine m_eqsW 1 363 false (SC y14) (SState.cells state0) (y14 = state0) (SC.inj0 oky14 state0_ok) (SC.wf oky14) (SState.wf state0_ok) (SC.size _) (SState.size _) (SC.kinds _) (SState.kinds _) (fun _ => ?_) (fun c46 => absurd (hy14.trans (read_form hs c17).2) c46)
        refine m_i64 13 (((s.bytes.length : Nat) : Int) - (1 : Int)) (s.bytes.length - 1) (by omega) ?_
        refine m_rowle 7 s.bytes.length cap5 fun hc47 hc47' => ?_
        refine m_slc 0 1 s.bytes.length cap5 0 (s.bytes.length - 1) cap5 ((s.bytes.take 395).length) (cap5 - 0) ao4 ⟨(by omega), (by omega), (by omega)⟩ (by rw [List.length_take]; omega) rfl ?_
        refine m_call 0 [] (stread_jC (cutA ao4 0 cap5 1) (cap5 - 0) (s.bytes.take 395) (((bytes_byt hs).take _)) (by first | omega | (rw [List.length_take]; omega) | (rw [b0_len hs]; decide))) (.cons 7 (.cutX 0 (s.bytes.length - 1) cap5 1 (B s.bytes) (B (s.bytes.take 395)) (by omega) ((B_cut s.bytes 0 (s.bytes.length - 1)).trans (by rw [List.drop_zero, bytes_len hs]))) .nil) ?_
        have oky48 : SState.Ok (stRd (s.bytes.take 395)) := stRd_ok (((bytes_byt hs).take _))
        refine bind_var (stRd (s.bytes.take 395)) fun y48 hy48 => ?_
        refine bind_var (stE (s.bytes.take 395)) fun e48 he48 => ?_
        rw [← hy48] at oky48
        rintro _ _ ⟨hv49, rfl⟩
        rw [show ((.tuple #[(.agg (SC (stRd (s.bytes.take 395)))), (.int .i64 ((stE (s.bytes.take 395) : Nat) : Int))]) : Value) = (.tuple #[(.agg (SC y48)), (.int .i64 ((e48 : Nat) : Int))]) from by rw [hy48, he48]] at hv49; subst hv49
        refine m_new 3 fun b50 => ?_
        refine m_stW 0 0 363 (SC y48) (SC.size _) (SC.ones _) ?_
        refine m_new 5 fun b51 => ?_
        refine m_view 0 _ (.made 5 1 0 0 (B [])) ?_
        refine m_appB 1 0 5 [] s.bytes s.bytes (List.nil_append _) (SrcW.rd 8 _ cap5 (B s.bytes) (by rw [B_length, Nat.mul_one]) B_one) rfl (by first | omega | ((repeat (rw [List.length_append])); omega) | ((repeat (rw [List.length_append])); (repeat (rw [putB_length])); omega) | ((repeat (rw [List.length_append])); (repeat (rw [sB_length])); omega) | ((repeat (rw [List.length_append])); (repeat (rw [List.length_cons])); omega) | ((repeat (rw [List.length_append])); (repeat (rw [putB_length])); (repeat (rw [List.length_cons])); omega) | ((repeat (rw [List.length_append])); (repeat (rw [List.length_take])); omega) | (simp only [List.length_append, List.length_cons, List.length_nil, List.length_take, putB_length, sB_length]; omega)) fun ao52 cap53 => ?_
        refine m_new 0 fun b54 => ?_
        refine m_appB 0 1 5 s.bytes [0] s.b0 rfl ((SrcW.cut 3 0 1 1).news (by kernel_rfl)) rfl (by first | omega | ((repeat (rw [List.length_append])); omega) | ((repeat (rw [List.length_append])); (repeat (rw [putB_length])); omega) | ((repeat (rw [List.length_append])); (repeat (rw [sB_length])); omega) | ((repeat (rw [List.length_append])); (repeat (rw [List.length_cons])); omega) | ((repeat (rw [List.length_append])); (repeat (rw [putB_length])); (repeat (rw [List.length_cons])); omega) | ((repeat (rw [List.length_append])); (repeat (rw [List.length_take])); omega) | (simp only [List.length_append, List.length_cons, List.length_nil, List.length_take, putB_length, sB_length]; omega)) fun ao55 cap56 => ?_
        refine m_call 0 [] (stread_jC ao55 cap56 s.b0 ((b0_byt hs)) (by first | omega | (rw [List.length_take]; omega) | (rw [b0_len hs]; decide))) (.cons 4 (.rd) .nil) ?_
        have oky57 : SState.Ok (stRd s.b0) := stRd_ok ((b0_byt hs))
        refine bind_var (stRd s.b0) fun y57 hy57 => ?_
        refine bind_var (stE s.b0) fun e57 he57 => ?_
        rw [← hy57] at oky57
        rintro _ _ ⟨hv58, rfl⟩
        rw [show ((.tuple #[(.agg (SC (stRd s.b0))), (.int .i64 ((stE s.b0 : Nat) : Int))]) : Value) = (.tuple #[(.agg (SC y57)), (.int .i64 ((e57 : Nat) : Int))]) from by rw [hy57, he57]] at hv58; subst hv58
        refine m_new 3 fun b59 => ?_
        refine m_stW 0 0 363 (SC y57) (SC.size _) (SC.ones _) ?_
        refine m_spn 8 (((e48 : Nat) : Int) = (3 : Int)) (fun c60 => ?_) (fun c60 => absurd (by rw [he48, read_short hs]; rfl) c60)
        refine m_ifn 5 (((e57 : Nat) : Int) = (4 : Int)) (fun c61 => ?_) (fun c61 => absurd (by rw [he57, b0_long hs]; rfl) c61)
        refine m_call 5 [] (stread_jC ao cap l hB (by first | omega | (rw [List.length_take]; omega) | (rw [b0_len hs]; decide))) (.cons 1 (.refl) .nil) ?_
        have oky62 : SState.Ok (stRd l) := stRd_ok hB
        refine bind_var (stRd l) fun y62 hy62 => ?_
        refine bind_var (stE l) fun e62 he62 => ?_
        rw [← hy62] at oky62
        rintro _ _ ⟨hv63, rfl⟩
        rw [show ((.tuple #[(.agg (SC (stRd l))), (.int .i64 ((stE l : Nat) : Int))]) : Value) = (.tuple #[(.agg (SC y62)), (.int .i64 ((e62 : Nat) : Int))]) from by rw [hy62, he62]] at hv63; subst hv63
        refine m_new 3 fun b64 => ?_
        refine m_stW 0 0 363 (SC y62) (SC.size _) (SC.ones _) ?_
        refine m_spn 7 (((e62 : Nat) : Int) = (0 : Int)) (fun c65 => ?_) (fun c65 => ?_)
        · -- no
          refine m_ldW 0 3 b64 101 363 (SC y62) (SC.size _) ?_
          refine m_call 0 [] (stbytes_jC y62 oky62) .nil ?_
          rintro _ _ ⟨ao66, cap67, rfl, rfl⟩
          refine m_call 1 [] (same_o ao66 cap67 y62.bytes ao cap l (by have := bytes_le oky62; omega) (by omega)) (.cons 3 (.rd) (.cons 1 (.refl) .nil)) ?_
          rintro _ _ ⟨rfl, rfl⟩
          refine m_sp 0 (y62.bytes = l) (fun c69 => ?_) (fun c69 => absurd ((congrArg SState.bytes hy62).trans (read_write hB (by omega)).1) c69)
          refine m_ldW 0 4 b64 101 363 (SC y62) (SC.size _) ?_
          refine m_call 0 [] (stR_jC y62 oky62) .nil ?_
          rintro _ _ ⟨rfl, rfl⟩
          exact m_ret 6 (.bool (decide (SState.Right y62))) [] ⟨(congrArg Value.bool (decide_eq_true (by rw [hy62]; exact (read_write hB (by omega)).2))), by kernel_rfl⟩
        · -- yes
          exact m_ret 13 (.bool true) [] ⟨(rfl), by kernel_rfl⟩
    · -- not the same
      refine m_call 0 [] (same_o ao4 cap5 s.bytes ao6 cap7 t.bytes (by omega) (by omega)) (.cons 6 (.rd) (.cons 5 (.rd) .nil)) ?_
      refine bind_var (decide (s.bytes = t.bytes)) fun q hq => ?_
      rintro _ _ ⟨hv70, rfl⟩
      rw [show ((.bool (decide (s.bytes = t.bytes))) : Value) = (.bool q) from by rw [hq]] at hv70; subst hv70
      refine m_spb 1 (q != false) (fun c71 => absurd (c71.symm.trans (by rw [hq, decide_eq_false (fun e => c9 ((bytes_inj hs ht).1 e))])) (by decide)) (fun c71 => ?_)
      refine m_spn 6 (((s.bytes.length : Nat) : Int) = ((t.bytes.length : Nat) : Int)) (fun c72 => ?_) (fun c72 => absurd (by omega) c72)
      refine m_thaw 5 ?_
      refine m_if 1 (((s.bytes.length : Nat) : Int) = (0 : Int)) (fun c73 => absurd c73 (by omega)) (fun c73 => ?_)
      refine m_call 5 [] (stread_jC ao4 cap5 s.bytes (bytes_byt hs) (by first | omega | (rw [List.length_take]; omega) | (rw [b0_len hs]; decide))) (.cons 6 (.rd) .nil) ?_
      have oky74 : SState.Ok (stRd s.bytes) := stRd_ok (bytes_byt hs)
      refine bind_var (stRd s.bytes) fun y74 hy74 => ?_
      refine bind_var (stE s.bytes) fun e74 he74 => ?_
      rw [← hy74] at oky74
      rintro _ _ ⟨hv75, rfl⟩
      rw [show ((.tuple #[(.agg (SC (stRd s.bytes))), (.int .i64 ((stE s.bytes : Nat) : Int))]) : Value) = (.tuple #[(.agg (SC y74)), (.int .i64 ((e74 : Nat) : Int))]) from by rw [hy74, he74]] at hv75; subst hv75
      refine m_new 3 fun b76 => ?_
      refine m_stW 0 0 363 (SC y74) (SC.size _) (SC.ones _) ?_
      refine m_ldW 6 4 b1 101 363 (SC s) (SC.size _) ?_
      refine m_call 0 [] (stR_jC s hs) .nil ?_
      rintro _ _ ⟨rfl, rfl⟩
      refine m_sp 0 (SState.Right s) (fun c77 => ?_) (fun c77 => ?_)
      · -- yes
        refine m_ldW 0 3 b76 101 363 (SC y74) (SC.size _) ?_
        refine m_ldW 0 4 b1 101 363 (SC s) (SC.size _) ?_
        refine m_eqsW 0 363 false (SC y74) (SC s) (y74 = s) (SC.inj oky74 hs) (SC.wf oky74) (SC.wf hs) (SC.size _) (SC.size _) (SC.kinds _) (SC.kinds _) (fun _ => ?_) (fun c78 => absurd (hy74.trans (read_back hs c77).2) c78)
        refine m_spn 5 (((e74 : Nat) : Int) = (0 : Int)) (fun c79 => ?_) (fun c79 => absurd (by rw [he74, (read_back hs c77).1]; rfl) c79)
        refine m_ldW 0 4 b1 101 363 (SC s) (SC.size _) ?_
        refine m_call 0 [] (stR_jC s hs) .nil ?_
        rintro _ _ ⟨rfl, rfl⟩
        refine m_spn 1 (SState.Right s) (fun c80 => ?_) (fun c80 => absurd (c77) c80)
        refine m_i64 19 (((s.bytes.length : Nat) : Int) - (1 : Int)) (s.bytes.length - 1) (by omega) ?_
        refine m_rowle 7 s.bytes.length cap5 fun hc81 hc81' => ?_
        refine m_slc 0 1 s.bytes.length cap5 0 (s.bytes.length - 1) cap5 ((s.bytes.take 395).length) (cap5 - 0) ao4 ⟨(by omega), (by omega), (by omega)⟩ (by rw [List.length_take]; omega) rfl ?_
        refine m_call 0 [] (stread_jC (cutA ao4 0 cap5 1) (cap5 - 0) (s.bytes.take 395) (((bytes_byt hs).take _)) (by first | omega | (rw [List.length_take]; omega) | (rw [b0_len hs]; decide))) (.cons 7 (.cutX 0 (s.bytes.length - 1) cap5 1 (B s.bytes) (B (s.bytes.take 395)) (by omega) ((B_cut s.bytes 0 (s.bytes.length - 1)).trans (by rw [List.drop_zero, bytes_len hs]))) .nil) ?_
        have oky82 : SState.Ok (stRd (s.bytes.take 395)) := stRd_ok (((bytes_byt hs).take _))
        refine bind_var (stRd (s.bytes.take 395)) fun y82 hy82 => ?_
        refine bind_var (stE (s.bytes.take 395)) fun e82 he82 => ?_
        rw [← hy82] at oky82
        rintro _ _ ⟨hv83, rfl⟩
        rw [show ((.tuple #[(.agg (SC (stRd (s.bytes.take 395)))), (.int .i64 ((stE (s.bytes.take 395) : Nat) : Int))]) : Value) = (.tuple #[(.agg (SC y82)), (.int .i64 ((e82 : Nat) : Int))]) from by rw [hy82, he82]] at hv83; subst hv83
        refine m_new 3 fun b84 => ?_
        refine m_stW 0 0 363 (SC y82) (SC.size _) (SC.ones _) ?_
        refine m_new 5 fun b85 => ?_
        refine m_view 0 _ (.made 5 1 0 0 (B [])) ?_
        refine m_appB 1 0 5 [] s.bytes s.bytes (List.nil_append _) (SrcW.rd 8 _ cap5 (B s.bytes) (by rw [B_length, Nat.mul_one]) B_one) rfl (by first | omega | ((repeat (rw [List.length_append])); omega) | ((repeat (rw [List.length_append])); (repeat (rw [putB_length])); omega) | ((repeat (rw [List.length_append])); (repeat (rw [sB_length])); omega) | ((repeat (rw [List.length_append])); (repeat (rw [List.length_cons])); omega) | ((repeat (rw [List.length_append])); (repeat (rw [putB_length])); (repeat (rw [List.length_cons])); omega) | ((repeat (rw [List.length_append])); (repeat (rw [List.length_take])); omega) | (simp only [List.length_append, List.length_cons, List.length_nil, List.length_take, putB_length, sB_length]; omega)) fun ao86 cap87 => ?_
        refine m_new 0 fun b88 => ?_
        refine m_appB 0 1 5 s.bytes [0] s.b0 rfl ((SrcW.cut 3 0 1 1).news (by kernel_rfl)) rfl (by first | omega | ((repeat (rw [List.length_append])); omega) | ((repeat (rw [List.length_append])); (repeat (rw [putB_length])); omega) | ((repeat (rw [List.length_append])); (repeat (rw [sB_length])); omega) | ((repeat (rw [List.length_append])); (repeat (rw [List.length_cons])); omega) | ((repeat (rw [List.length_append])); (repeat (rw [putB_length])); (repeat (rw [List.length_cons])); omega) | ((repeat (rw [List.length_append])); (repeat (rw [List.length_take])); omega) | (simp only [List.length_append, List.length_cons, List.length_nil, List.length_take, putB_length, sB_length]; omega)) fun ao89 cap90 => ?_
        refine m_call 0 [] (stread_jC ao89 cap90 s.b0 ((b0_byt hs)) (by first | omega | (rw [List.length_take]; omega) | (rw [b0_len hs]; decide))) (.cons 4 (.rd) .nil) ?_
        have oky91 : SState.Ok (stRd s.b0) := stRd_ok ((b0_byt hs))
        refine bind_var (stRd s.b0) fun y91 hy91 => ?_
        refine bind_var (stE s.b0) fun e91 he91 => ?_
        rw [← hy91] at oky91
        rintro _ _ ⟨hv92, rfl⟩
        rw [show ((.tuple #[(.agg (SC (stRd s.b0))), (.int .i64 ((stE s.b0 : Nat) : Int))]) : Value) = (.tuple #[(.agg (SC y91)), (.int .i64 ((e91 : Nat) : Int))]) from by rw [hy91, he91]] at hv92; subst hv92
        refine m_new 3 fun b93 => ?_
        refine m_stW 0 0 363 (SC y91) (SC.size _) (SC.ones _) ?_
        refine m_spn 8 (((e82 : Nat) : Int) = (3 : Int)) (fun c94 => ?_) (fun c94 => absurd (by rw [he82, read_short hs]; rfl) c94)
        refine m_ifn 5 (((e91 : Nat) : Int) = (4 : Int)) (fun c95 => ?_) (fun c95 => absurd (by rw [he91, b0_long hs]; rfl) c95)
        refine m_call 5 [] (stread_jC ao cap l hB (by first | omega | (rw [List.length_take]; omega) | (rw [b0_len hs]; decide))) (.cons 1 (.refl) .nil) ?_
        have oky96 : SState.Ok (stRd l) := stRd_ok hB
        refine bind_var (stRd l) fun y96 hy96 => ?_
        refine bind_var (stE l) fun e96 he96 => ?_
        rw [← hy96] at oky96
        rintro _ _ ⟨hv97, rfl⟩
        rw [show ((.tuple #[(.agg (SC (stRd l))), (.int .i64 ((stE l : Nat) : Int))]) : Value) = (.tuple #[(.agg (SC y96)), (.int .i64 ((e96 : Nat) : Int))]) from by rw [hy96, he96]] at hv97; subst hv97
        refine m_new 3 fun b98 => ?_
        refine m_stW 0 0 363 (SC y96) (SC.size _) (SC.ones _) ?_
        refine m_spn 7 (((e96 : Nat) : Int) = (0 : Int)) (fun c99 => ?_) (fun c99 => ?_)
        · -- no
          refine m_ldW 0 3 b98 101 363 (SC y96) (SC.size _) ?_
          refine m_call 0 [] (stbytes_jC y96 oky96) .nil ?_
          rintro _ _ ⟨ao100, cap101, rfl, rfl⟩
          refine m_call 1 [] (same_o ao100 cap101 y96.bytes ao cap l (by have := bytes_le oky96; omega) (by omega)) (.cons 3 (.rd) (.cons 1 (.refl) .nil)) ?_
          rintro _ _ ⟨rfl, rfl⟩
          refine m_sp 0 (y96.bytes = l) (fun c103 => ?_) (fun c103 => absurd ((congrArg SState.bytes hy96).trans (read_write hB (by omega)).1) c103)
          refine m_ldW 0 4 b98 101 363 (SC y96) (SC.size _) ?_
          refine m_call 0 [] (stR_jC y96 oky96) .nil ?_
          rintro _ _ ⟨rfl, rfl⟩
          exact m_ret 6 (.bool (decide (SState.Right y96))) [] ⟨(congrArg Value.bool (decide_eq_true (by rw [hy96]; exact (read_write hB (by omega)).2))), by kernel_rfl⟩
        · -- yes
          exact m_ret 13 (.bool true) [] ⟨(rfl), by kernel_rfl⟩
      · -- no
        refine m_ldW 9 4 b1 101 363 (SC s) (SC.size _) ?_
        refine m_call 0 [] (stR_jC s hs) .nil ?_
        rintro _ _ ⟨rfl, rfl⟩
        refine m_spn 1 (SState.Right s) (fun c104 => absurd c104 (c77)) (fun c104 => ?_)
        refine m_spn 2 (((e74 : Nat) : Int) = (2 : Int)) (fun c105 => ?_) (fun c105 => absurd (by rw [he74, (read_form hs c77).1]; rfl) c105)
        refine m_ldW 0 3 b76 101 363 (SC y74) (SC.size _) ?_
        refine m_eqsW 1 363 false (SC y74) (SState.cells state0) (y74 = state0) (SC.inj0 oky74 state0_ok) (SC.wf oky74) (SState.wf state0_ok) (SC.size _) (SState.size _) (SC.kinds _) (SState.kinds _) (fun _ => ?_) (fun c106 => absurd (hy74.trans (read_form hs c77).2) c106)
        refine m_i64 13 (((s.bytes.length : Nat) : Int) - (1 : Int)) (s.bytes.length - 1) (by omega) ?_
        refine m_rowle 7 s.bytes.length cap5 fun hc107 hc107' => ?_
        refine m_slc 0 1 s.bytes.length cap5 0 (s.bytes.length - 1) cap5 ((s.bytes.take 395).length) (cap5 - 0) ao4 ⟨(by omega), (by omega), (by omega)⟩ (by rw [List.length_take]; omega) rfl ?_
        refine m_call 0 [] (stread_jC (cutA ao4 0 cap5 1) (cap5 - 0) (s.bytes.take 395) (((bytes_byt hs).take _)) (by first | omega | (rw [List.length_take]; omega) | (rw [b0_len hs]; decide))) (.cons 7 (.cutX 0 (s.bytes.length - 1) cap5 1 (B s.bytes) (B (s.bytes.take 395)) (by omega) ((B_cut s.bytes 0 (s.bytes.length - 1)).trans (by rw [List.drop_zero, bytes_len hs]))) .nil) ?_
        have oky108 : SState.Ok (stRd (s.bytes.take 395)) := stRd_ok (((bytes_byt hs).take _))
        refine bind_var (stRd (s.bytes.take 395)) fun y108 hy108 => ?_
        refine bind_var (stE (s.bytes.take 395)) fun e108 he108 => ?_
        rw [← hy108] at oky108
        rintro _ _ ⟨hv109, rfl⟩
        rw [show ((.tuple #[(.agg (SC (stRd (s.bytes.take 395)))), (.int .i64 ((stE (s.bytes.take 395) : Nat) : Int))]) : Value) = (.tuple #[(.agg (SC y108)), (.int .i64 ((e108 : Nat) : Int))]) from by rw [hy108, he108]] at hv109; subst hv109
        refine m_new 3 fun b110 => ?_
        refine m_stW 0 0 363 (SC y108) (SC.size _) (SC.ones _) ?_
        refine m_new 5 fun b111 => ?_
        refine m_view 0 _ (.made 5 1 0 0 (B [])) ?_
        refine m_appB 1 0 5 [] s.bytes s.bytes (List.nil_append _) (SrcW.rd 8 _ cap5 (B s.bytes) (by rw [B_length, Nat.mul_one]) B_one) rfl (by first | omega | ((repeat (rw [List.length_append])); omega) | ((repeat (rw [List.length_append])); (repeat (rw [putB_length])); omega) | ((repeat (rw [List.length_append])); (repeat (rw [sB_length])); omega) | ((repeat (rw [List.length_append])); (repeat (rw [List.length_cons])); omega) | ((repeat (rw [List.length_append])); (repeat (rw [putB_length])); (repeat (rw [List.length_cons])); omega) | ((repeat (rw [List.length_append])); (repeat (rw [List.length_take])); omega) | (simp only [List.length_append, List.length_cons, List.length_nil, List.length_take, putB_length, sB_length]; omega)) fun ao112 cap113 => ?_
        refine m_new 0 fun b114 => ?_
        refine m_appB 0 1 5 s.bytes [0] s.b0 rfl ((SrcW.cut 3 0 1 1).news (by kernel_rfl)) rfl (by first | omega | ((repeat (rw [List.length_append])); omega) | ((repeat (rw [List.length_append])); (repeat (rw [putB_length])); omega) | ((repeat (rw [List.length_append])); (repeat (rw [sB_length])); omega) | ((repeat (rw [List.length_append])); (repeat (rw [List.length_cons])); omega) | ((repeat (rw [List.length_append])); (repeat (rw [putB_length])); (repeat (rw [List.length_cons])); omega) | ((repeat (rw [List.length_append])); (repeat (rw [List.length_take])); omega) | (simp only [List.length_append, List.length_cons, List.length_nil, List.length_take, putB_length, sB_length]; omega)) fun ao115 cap116 => ?_
        refine m_call 0 [] (stread_jC ao115 cap116 s.b0 ((b0_byt hs)) (by first | omega | (rw [List.length_take]; omega) | (rw [b0_len hs]; decide))) (.cons 4 (.rd) .nil) ?_
        have oky117 : SState.Ok (stRd s.b0) := stRd_ok ((b0_byt hs))
        refine bind_var (stRd s.b0) fun y117 hy117 => ?_
        refine bind_var (stE s.b0) fun e117 he117 => ?_
        rw [← hy117] at oky117
        rintro _ _ ⟨hv118, rfl⟩
        rw [show ((.tuple #[(.agg (SC (stRd s.b0))), (.int .i64 ((stE s.b0 : Nat) : Int))]) : Value) = (.tuple #[(.agg (SC y117)), (.int .i64 ((e117 : Nat) : Int))]) from by rw [hy117, he117]] at hv118; subst hv118
        refine m_new 3 fun b119 => ?_
        refine m_stW 0 0 363 (SC y117) (SC.size _) (SC.ones _) ?_
        refine m_spn 8 (((e108 : Nat) : Int) = (3 : Int)) (fun c120 => ?_) (fun c120 => absurd (by rw [he108, read_short hs]; rfl) c120)
        refine m_ifn 5 (((e117 : Nat) : Int) = (4 : Int)) (fun c121 => ?_) (fun c121 => absurd (by rw [he117, b0_long hs]; rfl) c121)
        refine m_call 5 [] (stread_jC ao cap l hB (by first | omega | (rw [List.length_take]; omega) | (rw [b0_len hs]; decide))) (.cons 1 (.refl) .nil) ?_
        have oky122 : SState.Ok (stRd l) := stRd_ok hB
        refine bind_var (stRd l) fun y122 hy122 => ?_
        refine bind_var (stE l) fun e122 he122 => ?_
        rw [← hy122] at oky122
        rintro _ _ ⟨hv123, rfl⟩
        rw [show ((.tuple #[(.agg (SC (stRd l))), (.int .i64 ((stE l : Nat) : Int))]) : Value) = (.tuple #[(.agg (SC y122)), (.int .i64 ((e122 : Nat) : Int))]) from by rw [hy122, he122]] at hv123; subst hv123
        refine m_new 3 fun b124 => ?_
        refine m_stW 0 0 363 (SC y122) (SC.size _) (SC.ones _) ?_
        refine m_spn 7 (((e122 : Nat) : Int) = (0 : Int)) (fun c125 => ?_) (fun c125 => ?_)
        · -- no
          refine m_ldW 0 3 b124 101 363 (SC y122) (SC.size _) ?_
          refine m_call 0 [] (stbytes_jC y122 oky122) .nil ?_
          rintro _ _ ⟨ao126, cap127, rfl, rfl⟩
          refine m_call 1 [] (same_o ao126 cap127 y122.bytes ao cap l (by have := bytes_le oky122; omega) (by omega)) (.cons 3 (.rd) (.cons 1 (.refl) .nil)) ?_
          rintro _ _ ⟨rfl, rfl⟩
          refine m_sp 0 (y122.bytes = l) (fun c129 => ?_) (fun c129 => absurd ((congrArg SState.bytes hy122).trans (read_write hB (by omega)).1) c129)
          refine m_ldW 0 4 b124 101 363 (SC y122) (SC.size _) ?_
          refine m_call 0 [] (stR_jC y122 oky122) .nil ?_
          rintro _ _ ⟨rfl, rfl⟩
          exact m_ret 6 (.bool (decide (SState.Right y122))) [] ⟨(congrArg Value.bool (decide_eq_true (by rw [hy122]; exact (read_write hB (by omega)).2))), by kernel_rfl⟩
        · -- yes
          exact m_ret 13 (.bool true) [] ⟨(rfl), by kernel_rfl⟩

theorem stateBack_j (s : SState) (t : SState) (ao : Option Addr) (cap : Nat) (l : List Nat) (hs : SState.Ok s) (ht : SState.Ok t) (hB : Byt l) (hc : l.length ≤ cap) :
    Does Tryd.prog 16 #[(.agg (s.cells)), (.agg (t.cells)), (.slice ao l.length cap)] [(.rd ao (B l)), (.rd (some ⟨1, 0, none⟩) ((hw KL).toList))] [] (fun v H => v = (.bool true) ∧ H = []) := by
  have h := stateBack_jC s t ao cap l hs ht hB hc
  rw [SC_eq] at h
  exact h

end Go.Proofs.YtmnehhpfbmoahaaDoor
