/- Layers 1, 5 and 8. -/
import Derived.Test.YtinmmamnldephaaDoorLib5
import Derived.Test.YtinmmamnldephaaDoorWY
import Derived.Test.YtinmmamnldephaaDoorProg
namespace Go.Proofs.YtinmmamnldephaaDoor
open Go Go.RowKit Go.Alm
set_option maxRecDepth 100000 in
theorem split_j (n : Nat) (hn : n < 18446744073709551616) :
    Does Tryd.prog 104 #[(.int .u64 ((n : Nat) : Int))] [] [] (fun v H => v = (.tuple #[(.int .u32 ((n / 4294967296 : Nat) : Int)), (.int .u32 ((n % 4294967296 : Nat) : Int))]) ∧ H = []) := by
  refine m_fn fun F => ?_
  refine m_shr 9 .u64 (n) 32 ?_
  refine m_u32 0 (((n / 4294967296 : Nat) : Int)) (n / 4294967296) (by omega) ?_
  refine m_mod32 1 (n) ?_
  exact m_ret 5 (.tuple #[(.int .u32 ((n / 4294967296 : Nat) : Int)), (.int .u32 ((n % 4294967296 : Nat) : Int))]) [] ⟨(rfl), by kernel_rfl⟩

set_option maxRecDepth 100000 in
theorem narrow_j (n : Nat) (hn : n < 18446744073709551616) :
    Does Tryd.prog 98 #[(.int .u64 ((n : Nat) : Int))] [] [] (fun v H => v = (.tuple #[(.int .u32 ((nar n : Nat) : Int)), (.bool (decide (n < 4294967296)))]) ∧ H = []) := by
  refine m_fn fun F => ?_
  refine m_call 9 [] (split_j n (by first | with_reducible assumption | omega | decide)) .nil ?_
  rintro _ _ ⟨rfl, rfl⟩
  refine m_ifn 14 (((n / 4294967296 : Nat) : Int) = (0 : Int)) (fun c1 => ?_) (fun c1 => ?_)
  · -- no
    exact m_ret 10 (.tuple #[(.int .u32 ((n % 4294967296 : Nat) : Int)), (.bool true)]) [] ⟨(by rw [nar_yes (by omega), decide_eq_true (by omega), Nat.mod_eq_of_lt (by omega)]), by kernel_rfl⟩
  · -- yes
    exact m_ret 8 (.tuple #[(.int .u32 0), (.bool false)]) [] ⟨(by rw [nar_no (by omega), decide_eq_false (by omega)]; rfl), by kernel_rfl⟩

set_option maxRecDepth 100000 in
theorem fits2_j (bk : Nat) (a : Nat) (b : Nat) (hab : a + b < 18446744073709551616) (ha : a < 18446744073709551616) :
    Does Tryd.prog 87 #[(.slice (some ⟨bk, 0, none⟩) 2 2)] [(.blk bk #[(.int .u64 ((a : Nat) : Int)), (.int .u64 ((b : Nat) : Int))] 140)] [] (fun v H => v = (.tuple #[(.int .u32 ((nar (a + b) : Nat) : Int)), (.bool (decide (a + b < 4294967296)))]) ∧ H = []) := by
  refine m_fn fun F => ?_
  refine m_ld 35 1 ?_
  refine m_u64 6 ((0 : Int) + ((a : Nat) : Int)) (0 + a) (by omega) ?_
  refine m_ld 23 1 ?_
  refine m_u64 6 (((0 + a : Nat) : Int) + ((b : Nat) : Int)) ((0 + a) + b) (by omega) ?_
  refine m_call 24 [] (narrow_j ((0 + a) + b) (by first | with_reducible assumption | omega | decide)) .nil ?_
  rintro _ _ ⟨rfl, rfl⟩
  exact m_ret 7 (.tuple #[(.int .u32 ((nar ((0 + a) + b) : Nat) : Int)), (.bool (decide (((0 + a) + b) < 4294967296)))]) [] ⟨(by rw [Nat.zero_add]), by kernel_rfl⟩

set_option maxRecDepth 100000 in
theorem add32_j (a : Nat) (b : Nat) (ha : a < 4294967296) (hb : b < 4294967296) :
    Does Tryd.prog 62 #[(.int .u32 ((a : Nat) : Int)), (.int .u32 ((b : Nat) : Int))] [] [] (fun v H => v = (.tuple #[(.int .u32 ((nar (a + b) : Nat) : Int)), (.bool (decide (a + b < 4294967296)))]) ∧ H = []) := by
  refine m_fn fun F => ?_
  refine m_u64 9 (((a : Nat) : Int)) (a) (by omega) ?_
  refine m_u64 1 (((b : Nat) : Int)) (b) (by omega) ?_
  refine m_new 0 fun b1 => ?_
  refine m_call 0 [] (fits2_j b1 a b (by first | with_reducible assumption | omega | decide) (by first | with_reducible assumption | omega | decide)) (.cons 1 (.refl) .nil) ?_
  rintro _ _ ⟨rfl, rfl⟩
  exact m_ret 7 (.tuple #[(.int .u32 ((nar (a + b) : Nat) : Int)), (.bool (decide (a + b < 4294967296)))]) [] ⟨(rfl), by kernel_rfl⟩

set_option maxRecDepth 100000 in
theorem parts24_j (s : Nat) (hs : s < 4294967296) :
    Does Tryd.prog 69 #[(.int .u32 ((s : Nat) : Int)), (.int .u32 24)] [] [] (fun v H => v = (.tuple #[(.int .u32 ((s / 24 : Nat) : Int)), (.int .u32 ((s % 24 : Nat) : Int))]) ∧ H = []) := by
  refine m_fn fun F => ?_
  refine m_plan 7 [] (.q 0 false (.q 1 false (.q 2 false (.q 3 false (.q 4 false (.q 5 false (.q 6 false (.q 7 false .n)))))))) [] ?_
  refine m_i 2 .u32 (IntKind.u32.wrap (((s : Nat) : Int).tdiv ((24 : Nat) : Int))) ((s / 24 : Nat) : Int) (quo_u32 (by omega)) ?_
  refine m_rem 2 .u32 (s) 24 ?_
  refine m_thaw 3 ?_
  exact m_ret 2 (.tuple #[(.int .u32 ((s / 24 : Nat) : Int)), (.int .u32 ((s % 24 : Nat) : Int))]) [] ⟨(rfl), by kernel_rfl⟩

set_option maxRecDepth 100000 in
theorem parts3_j (s : Nat) (hs : s < 4294967296) :
    Does Tryd.prog 69 #[(.int .u32 ((s : Nat) : Int)), (.int .u32 3)] [] [] (fun v H => v = (.tuple #[(.int .u32 ((s / 3 : Nat) : Int)), (.int .u32 ((s % 3 : Nat) : Int))]) ∧ H = []) := by
  refine m_fn fun F => ?_
  refine m_plan 7 [] (.q 0 false (.q 1 false (.q 2 false (.q 3 false (.q 4 false (.q 5 false (.q 6 false (.q 7 false .n)))))))) [] ?_
  refine m_i 2 .u32 (IntKind.u32.wrap (((s : Nat) : Int).tdiv ((3 : Nat) : Int))) ((s / 3 : Nat) : Int) (quo_u32 (by omega)) ?_
  refine m_rem 2 .u32 (s) 3 ?_
  refine m_thaw 3 ?_
  exact m_ret 2 (.tuple #[(.int .u32 ((s / 3 : Nat) : Int)), (.int .u32 ((s % 3 : Nat) : Int))]) [] ⟨(rfl), by kernel_rfl⟩

set_option maxRecDepth 100000 in
theorem parts4_j (s : Nat) (hs : s < 4294967296) :
    Does Tryd.prog 69 #[(.int .u32 ((s : Nat) : Int)), (.int .u32 4)] [] [] (fun v H => v = (.tuple #[(.int .u32 ((s / 4 : Nat) : Int)), (.int .u32 ((s % 4 : Nat) : Int))]) ∧ H = []) := by
  refine m_fn fun F => ?_
  refine m_plan 7 [] (.q 0 false (.q 1 false (.q 2 false (.q 3 false (.q 4 false (.q 5 false (.q 6 false (.q 7 false .n)))))))) [] ?_
  refine m_i 2 .u32 (IntKind.u32.wrap (((s : Nat) : Int).tdiv ((4 : Nat) : Int))) ((s / 4 : Nat) : Int) (quo_u32 (by omega)) ?_
  refine m_rem 2 .u32 (s) 4 ?_
  refine m_thaw 3 ?_
  exact m_ret 2 (.tuple #[(.int .u32 ((s / 4 : Nat) : Int)), (.int .u32 ((s % 4 : Nat) : Int))]) [] ⟨(rfl), by kernel_rfl⟩

set_option maxRecDepth 100000 in
theorem sepoch_j (s : Nat) (hs : s < 4294967296) :
    Does Tryd.prog 44 #[(.int .u32 ((s : Nat) : Int))] [] [] (fun v H => v = (.int .u32 ((s / 24 : Nat) : Int)) ∧ H = []) := by
  refine m_fn fun F => ?_
  refine m_call 8 [] (parts24_j s (by first | with_reducible assumption | omega | decide)) .nil ?_
  rintro _ _ ⟨rfl, rfl⟩
  exact m_ret 14 (.int .u32 ((s / 24 : Nat) : Int)) [] ⟨(rfl), by kernel_rfl⟩

set_option maxRecDepth 100000 in
theorem splace_j (s : Nat) (hs : s < 4294967296) :
    Does Tryd.prog 45 #[(.int .u32 ((s : Nat) : Int))] [] [] (fun v H => v = (.int .u32 ((s % 24 : Nat) : Int)) ∧ H = []) := by
  refine m_fn fun F => ?_
  refine m_call 8 [] (parts24_j s (by first | with_reducible assumption | omega | decide)) .nil ?_
  rintro _ _ ⟨rfl, rfl⟩
  exact m_ret 14 (.int .u32 ((s % 24 : Nat) : Int)) [] ⟨(rfl), by kernel_rfl⟩

set_option maxRecDepth 100000 in
theorem ssub_j (s : Nat) (hs : s < 4294967296) :
    Does Tryd.prog 43 #[(.int .u32 ((s : Nat) : Int))] [] [] (fun v H => v = (.int .u32 ((s / 3 : Nat) : Int)) ∧ H = []) := by
  refine m_fn fun F => ?_
  refine m_call 8 [] (parts3_j s (by first | with_reducible assumption | omega | decide)) .nil ?_
  rintro _ _ ⟨rfl, rfl⟩
  exact m_ret 14 (.int .u32 ((s / 3 : Nat) : Int)) [] ⟨(rfl), by kernel_rfl⟩

set_option maxRecDepth 100000 in
theorem slocking_j (s : Nat) (hs : s < 4294967296) :
    Does Tryd.prog 66 #[(.int .u32 ((s : Nat) : Int))] [] [] (fun v H => v = (.bool (decide (((s % 24 : Nat) : Int) < 16))) ∧ H = []) := by
  refine m_fn fun F => ?_
  refine m_call 8 [] (splace_j s (by first | with_reducible assumption | omega | decide)) .nil ?_
  rintro _ _ ⟨rfl, rfl⟩
  exact m_ret 5 (.bool (decide (((s % 24 : Nat) : Int) < (16 : Int)))) [] ⟨(rfl), by kernel_rfl⟩

set_option maxRecDepth 100000 in
theorem sring_j (s : Nat) (hs : s < 4294967296) :
    Does Tryd.prog 88 #[(.int .u32 ((s : Nat) : Int))] [] [] (fun v H => v = (.int .i64 ((s % 4 : Nat) : Int)) ∧ H = []) := by
  refine m_fn fun F => ?_
  refine m_call 8 [] (parts4_j s (by first | with_reducible assumption | omega | decide)) .nil ?_
  rintro _ _ ⟨rfl, rfl⟩
  refine m_i64 10 (((s % 4 : Nat) : Int)) (s % 4) (by omega) ?_
  exact m_ret 4 (.int .i64 ((s % 4 : Nat) : Int)) [] ⟨(rfl), by kernel_rfl⟩

set_option maxRecDepth 100000 in
theorem sturns_j (a : Nat) (b : Nat) (ha : a < 4294967296) (hb : b < 4294967296) :
    Does Tryd.prog 36 #[(.int .u32 ((a : Nat) : Int)), (.int .u32 ((b : Nat) : Int))] [] [] (fun v H => v = (.bool (decide (((b / 24 : Nat) : Int) > ((a / 24 : Nat) : Int)))) ∧ H = []) := by
  refine m_fn fun F => ?_
  refine m_call 8 [] (sepoch_j b (by first | with_reducible assumption | omega | decide)) .nil ?_
  rintro _ _ ⟨rfl, rfl⟩
  refine m_call 1 [] (sepoch_j a (by first | with_reducible assumption | omega | decide)) .nil ?_
  rintro _ _ ⟨rfl, rfl⟩
  exact m_ret 5 (.bool (decide (((b / 24 : Nat) : Int) > ((a / 24 : Nat) : Int)))) [] ⟨(rfl), by kernel_rfl⟩

set_option maxRecDepth 100000 in
theorem repoch_j (s : Nat) (hs : s < 4294967296) :
    Does Tryd.prog 11 #[(.int .u32 ((s : Nat) : Int))] [] [] (fun v H => v = (.int .u32 ((s / 24 : Nat) : Int)) ∧ H = []) := by
  refine m_fn fun F => ?_
  refine m_i 8 .u32 (IntKind.u32.wrap (((s : Nat) : Int).tdiv ((24 : Nat) : Int))) ((s / 24 : Nat) : Int) (quo_u32 (by omega)) ?_
  exact m_ret 4 (.int .u32 ((s / 24 : Nat) : Int)) [] ⟨(rfl), by kernel_rfl⟩

set_option maxRecDepth 100000 in
theorem rsub_j (s : Nat) (hs : s < 4294967296) :
    Does Tryd.prog 16 #[(.int .u32 ((s : Nat) : Int))] [] [] (fun v H => v = (.int .u32 ((s / 3 : Nat) : Int)) ∧ H = []) := by
  refine m_fn fun F => ?_
  refine m_i 8 .u32 (IntKind.u32.wrap (((s : Nat) : Int).tdiv ((3 : Nat) : Int))) ((s / 3 : Nat) : Int) (quo_u32 (by omega)) ?_
  exact m_ret 4 (.int .u32 ((s / 3 : Nat) : Int)) [] ⟨(rfl), by kernel_rfl⟩

set_option maxRecDepth 100000 in
theorem rplace_j (s : Nat) (hs : s < 4294967296) :
    Does Tryd.prog 34 #[(.int .u32 ((s : Nat) : Int))] [] [] (fun v H => v = (.int .u32 ((s % 24 : Nat) : Int)) ∧ H = []) := by
  refine m_fn fun F => ?_
  refine m_call 9 [] (repoch_j s (by first | with_reducible assumption | omega | decide)) .nil ?_
  rintro _ _ ⟨rfl, rfl⟩
  refine m_u32 0 ((24 : Int) * ((s / 24 : Nat) : Int)) (24 * (s / 24)) (by omega) ?_
  refine m_u32 0 (((s : Nat) : Int) - ((24 * (s / 24) : Nat) : Int)) (s - (24 * (s / 24))) (by omega) ?_
  exact m_ret 4 (.int .u32 ((s - (24 * (s / 24)) : Nat) : Int)) [] ⟨(by rw [show s - 24 * (s / 24) = s % 24 from by omega]), by kernel_rfl⟩

set_option maxRecDepth 100000 in
theorem rlocking_j (s : Nat) (hs : s < 4294967296) :
    Does Tryd.prog 12 #[(.int .u32 ((s : Nat) : Int))] [] [] (fun v H => v = (.bool (decide (((s % 24 : Nat) : Int) < 16))) ∧ H = []) := by
  refine m_fn fun F => ?_
  refine m_call 8 [] (rplace_j s (by first | with_reducible assumption | omega | decide)) .nil ?_
  rintro _ _ ⟨rfl, rfl⟩
  exact m_ret 5 (.bool (decide (((s % 24 : Nat) : Int) < (16 : Int)))) [] ⟨(rfl), by kernel_rfl⟩


theorem tagof_j (s : ByteArray) (fp : Nat → Prop) (ao : Option Addr) (cap : Nat) (ls : List BSl) (hn : ls.length ≤ 9223372036854775807) (hls : (partsL ls).length ≤ 800000) :
    Does Tryd.prog 31 #[.string s, .slice ao ls.length cap] [rowsR fp ao ls, (.rd (some ⟨1, 0, none⟩) ((hw KL).toList))] [] (fun v H => v = (.agg (hv (tagL (sB s) ls))) ∧ H = []) :=
  Does.of_calls fun w h => tagof_c s fp ao cap ls w (h _ (.head _)) (h _ (.tail _ (.head _))) hn hls

theorem rtagof_j (s : ByteArray) (fp : Nat → Prop) (ao : Option Addr) (cap : Nat) (ls : List BSl) (hn : ls.length ≤ 9223372036854775807) (hls : (partsL ls).length ≤ 800000) :
    Does Tryd.prog 35 #[.string s, .slice ao ls.length cap] [rowsR fp ao ls, (.rd (some ⟨0, 0, none⟩) ((hw KL).toList))] [] (fun v H => v = (.agg (hv (tagL (sB s) ls))) ∧ H = []) :=
  Does.of_calls fun w h => rtagof_c s fp ao cap ls w (h _ (.head _)) (h _ (.tail _ (.head _))) hn hls

set_option maxRecDepth 100000 in
theorem efirst_j (led : List Nat) (_ : H32 led) :
    Does Tryd.prog 30 #[(.agg (hv led))] [] [] (fun v H => v = (.agg ((pairF led).cells)) ∧ H = []) := by
  refine m_fn fun F => ?_
  refine m_new 2 fun b1 => ?_
  refine m_new 0 fun b2 => ?_
  refine m_ld 4 2 ?_
  refine m_new 1 fun b3 => ?_
  refine m_st 0 0 ?_
  refine m_ld 4 1 ?_
  refine m_ld 0 1 ?_
  refine m_st 1 1 ?_
  exact m_retC 3 [2] (.agg ((⟨(⟨led, Z32, Z32, Z32, 1⟩ : EData), (⟨led, Z32, Z32, Z32, 1⟩ : EData)⟩ : EPair).cells)) [] ⟨(rfl), by kernel_rfl⟩


theorem turn_next {w : World} {x : Array Value} {p : EPair} {bp t : Nat} (_ : w.heap[bp]? = some (.cells (aj x p.next.cells) t (0, 0))) (hx : x.size = 129) : Nat.ble (129 + 129) (aj x p.next.cells).size = true ∧ (aj x p.next.cells).extract 129 (129 + 129) = p.next.cells ∧ Nat.ble (161 + 32) (aj x p.next.cells).size = true ∧ (aj x p.next.cells).extract 161 (161 + 32) = hv p.next.seed := by
  have hs : (aj x p.next.cells).size = 258 := by rw [aj_size, hx, EData.size]
  refine ⟨by rw [hs]; rfl, ?_, by rw [hs]; rfl, ?_⟩
  · rw [ext_eq]; exact (ext_ajL (m := 129) (k := 0) hx).trans (by kernel_rfl)
  · rw [ext_eq]; exact (ext_ajL (m := 129) (k := 32) hx).trans (by kernel_rfl)
set_option maxRecDepth 100000 in
set_option maxHeartbeats 1000000 in
theorem eturn_j (bp : Nat) (p : EPair) (b : EBlk) (_ : EPair.Ok p) (_ : EBlk.Ok b) :
    Does Tryd.prog 65 #[(.pointer (some ⟨bp, 0, none⟩)), (.agg (b.cells))] [] [(.blk bp (p.cells) 36)] (fun v H => v = (.tuple #[]) ∧ H = [(.blk bp ((⟨p.next, ⟨b.led, p.next.seed, b.prev, Z32, 1⟩⟩ : EPair).cells) 36)]) := by
  refine m_fn fun F => ?_
  refine m_new 2 fun b1 => ?_
  refine m_view 0 (.blk b1 b.cells 87) .refl ?_
  refine m_raw 2 (fun w => w.heap[b1]? = some (.cells b.cells 87 (0, 0)) ∧ ∃ x, x.size = 129 ∧ w.heap[bp]? = some (.cells (aj x p.next.cells) 36 (0, 0))) (fun i => !Nat.beq i 21) [(0, .q false), (1, .q false), (2, .q false), (3, .q false), (4, .q false), (5, .q true), (6, .q false), (7, .q true), (8, .q false), (9, .q false), (10, .q false), (11, .q false), (12, .q true), (13, .q false), (14, .q true), (15, .q false), (16, .q false), (17, .q false), (18, .e), (19, .q false), (20, .q false), (21, .e)] (fun w hw => ?_)
  obtain ⟨h1, _⟩ : w.heap[b1]? = some (.cells b.cells 87 (0, 0)) ∧ True := ⟨hw.a (.blk b1 b.cells 87) (.tail _ (.head _)), trivial⟩
  obtain ⟨h2, _⟩ : w.heap[bp]? = some (.cells (aj p.now.cells p.next.cells) 36 (0, 0)) ∧ True := ⟨hw.a (.blk bp p.cells 36) (.tail _ (.tail _ (.head _))), trivial⟩
  obtain ⟨hd, _⟩ : Dis (One b1) (One bp) ∧ True := ⟨(List.pairwise_cons.1 hw.p).1 (.blk bp p.cells 36) (.head _), trivial⟩
  refine pl_pures 5 (by kernel_rfl) (by kernel_rfl) (fun _ => ⟨h1, _, EData.size _, h2⟩) ?_
  refine pl_read 5 (.agg p.next.cells) (by kernel_rfl) (by kernel_rfl) (fun w' hs => by obtain ⟨_, x, hx, h⟩ := hs; exact run_loadN 34 (.tmp 8) bp 129 129 _ _ _ _ (by kernel_rfl) (by kernel_rfl) (by kernel_rfl) (by kernel_rfl) h (turn_next h hx).1 (turn_next h hx).2.1) ⟨h1, _, EData.size _, h2⟩ ?_
  refine pl_pures 7 (by kernel_rfl) (by kernel_rfl) (fun _ => ⟨h1, _, EData.size _, h2⟩) ?_
  refine pl_read 7 (.agg (hv b.led)) (by kernel_rfl) (by kernel_rfl) (fun w' hs => run_loadN 23 (.tmp 10) b1 34 32 _ _ _ _ (by kernel_rfl) (by kernel_rfl) (by kernel_rfl) (by kernel_rfl) hs.1 (by kernel_rfl) (by kernel_rfl)) ⟨h1, _, EData.size _, h2⟩ ?_
  refine pl_pures 12 (by kernel_rfl) (by kernel_rfl) (fun _ => ⟨h1, _, EData.size _, h2⟩) ?_
  refine pl_read 12 (.agg (hv p.next.seed)) (by kernel_rfl) (by kernel_rfl) (fun w' hs => by obtain ⟨_, x, hx, h⟩ := hs; exact run_loadN 23 (.tmp 15) bp 161 32 _ _ _ _ (by kernel_rfl) (by kernel_rfl) (by kernel_rfl) (by kernel_rfl) h (turn_next h hx).2.2.1 (turn_next h hx).2.2.2) ⟨h1, _, EData.size _, h2⟩ ?_
  refine pl_pures 14 (by kernel_rfl) (by kernel_rfl) (fun _ => ⟨h1, _, EData.size _, h2⟩) ?_
  refine pl_read 14 (.agg (hv b.prev)) (by kernel_rfl) (by kernel_rfl) (fun w' hs => run_loadN 23 (.tmp 17) b1 2 32 _ _ _ _ (by kernel_rfl) (by kernel_rfl) (by kernel_rfl) (by kernel_rfl) hs.1 (by kernel_rfl) (by kernel_rfl)) ⟨h1, _, EData.size _, h2⟩ ?_
  refine pl_pures 18 (by kernel_rfl) (by kernel_rfl) (fun _ => ⟨h1, _, EData.size _, h2⟩) ?_
  refine pl_do 18 (by kernel_rfl) (by kernel_rfl) (op_store 34 (.tmp 21) (.tmp 9) bp 0 (.agg p.next.cells) _ _ (aj p.next.cells p.next.cells) (by kernel_rfl) (by kernel_rfl) (by kernel_rfl) h2 (by kernel_rfl) (by kernel_rfl) (by kernel_rfl) (by kernel_rfl) (fun w2 g2 _ F2 => ?_))
  obtain ⟨g1, _⟩ : w2.heap[b1]? = some (.cells b.cells 87 (0, 0)) ∧ True := ⟨F2.keep h1 hd, trivial⟩
  obtain ⟨hw2, _⟩ := And.intro (Hs.setB (c := p.cells) (aj p.next.cells p.next.cells) 1 hw (by kernel_rfl) F2 g2) trivial
  refine ⟨fun _ => ⟨g1, _, EData.size _, g2⟩, ?_⟩
  refine pl_pures 21 (by kernel_rfl) (by kernel_rfl) (fun _ => ⟨g1, _, EData.size _, g2⟩) ?_
  refine pl_do 21 (by kernel_rfl) (by kernel_rfl) (op_store 34 (.tmp 23) (.tmp 19) bp 129 (.agg (EData.cells ⟨b.led, p.next.seed, b.prev, Z32, 1⟩)) _ _ (EPair.cells ⟨p.next, ⟨b.led, p.next.seed, b.prev, Z32, 1⟩⟩) (by kernel_rfl) (by kernel_rfl) (by kernel_rfl) g2 (by kernel_rfl) (by kernel_rfl) (by kernel_rfl) (by kernel_rfl) (fun w3 g3 _ F3 => ?_))
  obtain ⟨hw3, _⟩ := And.intro (Hs.setB (c := aj p.next.cells p.next.cells) (EPair.cells ⟨p.next, ⟨b.led, p.next.seed, b.prev, Z32, 1⟩⟩) 1 hw2 (by kernel_rfl) F3 g3) trivial
  refine ⟨off (by kernel_rfl), ?_⟩
  refine pl_end (by kernel_rfl) hw3 ?_
  exact m_ret 1 (.tuple #[]) [1] ⟨rfl, by kernel_rfl⟩

set_option maxRecDepth 100000 in
theorem elock_j (bp : Nat) (p : EPair) (b : EBlk) (hp : EPair.Ok p) (hb : EBlk.Ok b) :
    Does Tryd.prog 67 #[(.agg ((aj #[(.pointer (some ⟨bp, 129, none⟩))] (b.cells))))] [(.rd (some ⟨1, 0, none⟩) ((hw KL).toList))] [(.blk bp (p.cells) 36)] (fun v H => v = (.tuple #[]) ∧ H = [(.blk bp ((⟨p.now, ⟨p.next.led, seedL p.next.seed b.draw, p.next.start, b.prev, p.next.len⟩⟩ : EPair).cells) 36)]) := by
  have hhp_now_len := hp.now.len; have hhp_next_len := hp.next.len; have hhb_frm := hb.frm; have hhb_till := hb.till
  refine m_fn fun F => ?_
  refine m_new 2 fun b1 => ?_
  refine m_plan 3 [2, 3, 4, 5, 6, 7, 8, 9, 10, 11] (.q 0 false (.q 1 true (.q 2 false (.q 3 true (.q 4 false (.q 5 false (.q 6 false (.q 7 false (.q 8 false (.q 9 false (.e 10 (.e 11 (.q 12 false (.q 13 false (.e 14 .n))))))))))))))) [0] ?_
  refine m_ld 1 2 ?_
  refine m_ld 1 2 ?_
  refine m_new 6 fun b2 => ?_
  refine m_call 0 [] (tagof_j (⟨#[115, 101, 101, 100]⟩ : ByteArray) _ (some ⟨b2, 0, none⟩) 2 [⟨(some ⟨bp, 161, none⟩), 32, p.next.seed⟩, ⟨(some ⟨b1, 67, none⟩), 32, b.draw⟩] (Nat.le_of_ble_eq_true (by kernel_rfl)) (by exact parts2 (Nat.le_trans (Nat.le_of_eq hp.next.seed.len) (show 32 ≤ 200000 from by decide)) (Nat.le_trans (Nat.le_of_eq hb.draw.len) (show 32 ≤ 200000 from by decide)))) (.consH (HView.rows 3 (.cons 4 32 32 (.hv 161 p.next.seed hp.next.seed.len) hp.next.seed.len hp.next.seed.byt (by decide) (.cons 2 32 32 (.hv 67 b.draw hb.draw.len) hb.draw.len hb.draw.byt (by decide) .nil))) (.cons 1 (.refl) .nil)) ?_
  rintro _ _ ⟨hv3, rfl⟩
  rw [show ((.agg (hv (tagL (sB (⟨#[115, 101, 101, 100]⟩ : ByteArray)) [⟨(some ⟨bp, 161, none⟩), 32, p.next.seed⟩, ⟨(some ⟨b1, 67, none⟩), 32, b.draw⟩]))) : Value) = (.agg (hv (seedL p.next.seed b.draw))) from rfl] at hv3; subst hv3
  refine m_thaw 0 ?_
  refine m_st 2 2 ?_
  refine m_thaw 1 ?_
  refine m_plan 2 [5, 6, 7] (.q 0 false (.q 1 true (.q 2 false (.q 3 false (.q 4 true (.q 5 false (.q 6 false (.q 7 true (.q 8 false .n))))))))) [0, 1] ?_
  refine m_ld 1 2 ?_
  refine m_ld 2 3 ?_
  refine m_ld 2 2 ?_
  refine m_eqs 0 false (hv p.next.lock) (hv b.prev) (p.next.lock = b.prev) (hv_iff hp.next.lock.len hb.prev.len) (H32.wf hp.next.lock) (H32.wf hb.prev) (fun c4 => ?_) (fun c4 => ?_)
  · -- the same
    refine m_thaw 1 ?_
    exact m_ret 3 (.tuple #[]) [1] ⟨(rfl), by rw [← c4]; kernel_rfl⟩
  · -- not the same
    refine m_thaw 1 ?_
    refine m_ld 4 2 ?_
    refine m_ld 2 2 ?_
    refine m_st 2 1 ?_
    exact m_ret 1 (.tuple #[]) [1] ⟨(rfl), by kernel_rfl⟩

set_option maxRecDepth 100000 in
theorem efollow_j (p : EPair) (b : EBlk) (hp : EPair.Ok p) (hb : EBlk.Ok b) :
    Does Tryd.prog 39 #[(.agg (p.cells)), (.agg (b.cells))] [(.rd (some ⟨1, 0, none⟩) ((hw KL).toList))] [] (fun v H => v = (.tuple #[(.agg ((folP p b).cells)), (.int .i64 ((folE p b : Nat) : Int))]) ∧ H = []) := by
  have hhp_now_len := hp.now.len; have hhp_next_len := hp.next.len; have hhb_frm := hb.frm; have hhb_till := hb.till
  refine m_fn fun F => ?_
  refine m_new 2 fun b1 => ?_
  refine m_new 0 fun b2 => ?_
  refine m_new 0 fun b3 => ?_
  refine m_ld 7 3 ?_
  refine m_ld 1 3 ?_
  refine m_if 3 (((b.till : Nat) : Int) ≤ ((b.frm : Nat) : Int)) (fun c4 => ?_) (fun c4 => ?_)
  · -- yes
    refine m_st 3 0 ?_
    exact m_retC 5 [2, 0] (.tuple #[(.agg ((⟨(⟨Z32, Z32, Z32, Z32, 0⟩ : EData), (⟨Z32, Z32, Z32, Z32, 0⟩ : EData)⟩ : EPair).cells)), (.int .i64 6)]) [] ⟨(by rw [(fol_slot (by omega)).1, (fol_slot (by omega)).2]; rfl), by kernel_rfl⟩
  · -- no
    refine m_ld 6 4 ?_
    refine m_call 0 [] (add32_j p.next.len 1 (by first | with_reducible assumption | omega | decide) (by first | with_reducible assumption | omega | decide)) .nil ?_
    rintro _ _ ⟨rfl, rfl⟩
    refine m_ld 12 3 ?_
    refine m_ld 1 3 ?_
    refine m_call 0 [] (sturns_j b.frm b.till (by first | with_reducible assumption | omega | decide) (by first | with_reducible assumption | omega | decide)) .nil ?_
    rintro _ _ ⟨rfl, rfl⟩
    refine m_if 3 (((b.till / 24 : Nat) : Int) > ((b.frm / 24 : Nat) : Int)) (fun c5 => ?_) (fun c5 => ?_)
    · -- yes
      refine m_ld 1 3 ?_
      refine m_call 0 [2] (eturn_j b1 p b hp hb) .nil ?_
      rintro _ _ ⟨rfl, rfl⟩
      refine m_ld 7 4 ?_
      refine m_call 0 [] (slocking_j b.till (by first | with_reducible assumption | omega | decide)) .nil ?_
      rintro _ _ ⟨rfl, rfl⟩
      refine m_if 2 (((b.till % 24 : Nat) : Int) < 16) (fun c6 => ?_) (fun c6 => ?_)
      · -- yes
        refine m_ld 2 4 ?_
        refine m_call 1 [0] (elock_j b1 (⟨p.next, ⟨b.led, p.next.seed, b.prev, Z32, 1⟩⟩ : EPair) b ⟨hp.next, ⟨hb.led, hp.next.seed, hb.prev, H32.zero, (by first | omega | decide | exact nar_lt _ | with_reducible assumption | (dsimp only; first | omega | exact nar_lt _))⟩⟩ hb) (.cons 1 (.refl) .nil) ?_
        rintro _ _ ⟨rfl, rfl⟩
        refine m_ld 4 2 ?_
        refine m_st 0 1 ?_
        exact m_retC 4 [3, 0] (.tuple #[(.agg ((⟨(⟨p.next, ⟨b.led, p.next.seed, b.prev, Z32, 1⟩⟩ : EPair).now, ⟨(⟨p.next, ⟨b.led, p.next.seed, b.prev, Z32, 1⟩⟩ : EPair).next.led, seedL (⟨p.next, ⟨b.led, p.next.seed, b.prev, Z32, 1⟩⟩ : EPair).next.seed b.draw, (⟨p.next, ⟨b.led, p.next.seed, b.prev, Z32, 1⟩⟩ : EPair).next.start, b.prev, (⟨p.next, ⟨b.led, p.next.seed, b.prev, Z32, 1⟩⟩ : EPair).next.len⟩⟩ : EPair).cells)), (.int .i64 0)]) [] ⟨(by rw [(fol_turn (by omega) (by omega)).1, (fol_turn (by omega) (by omega)).2, lockD_yes (by omega)]; rfl), by kernel_rfl⟩
      · -- no
        refine m_ld 4 2 ?_
        refine m_st 0 1 ?_
        exact m_retC 4 [3, 0] (.tuple #[(.agg ((⟨p.next, ⟨b.led, p.next.seed, b.prev, Z32, 1⟩⟩ : EPair).cells)), (.int .i64 0)]) [] ⟨(by rw [(fol_turn (by omega) (by omega)).1, (fol_turn (by omega) (by omega)).2, lockD_no (by omega)]; rfl), by kernel_rfl⟩
    · -- no
      refine m_if 6 (p.next.len + 1 < 4294967296) (fun c7 => ?_) (fun c7 => ?_)
      · -- yes
        refine m_st 4 2 ?_
        refine m_ld 7 3 ?_
        refine m_call 0 [] (slocking_j b.till (by first | with_reducible assumption | omega | decide)) .nil ?_
        rintro _ _ ⟨rfl, rfl⟩
        refine m_if 2 (((b.till % 24 : Nat) : Int) < 16) (fun c8 => ?_) (fun c8 => ?_)
        · -- yes
          refine m_ld 2 3 ?_
          refine m_call 1 [2] (elock_j b1 (⟨p.now, (⟨p.next.led, p.next.seed, p.next.start, p.next.lock, nar (p.next.len + 1)⟩ : EData)⟩ : EPair) b ⟨hp.now, ⟨hp.next.led, hp.next.seed, hp.next.start, hp.next.lock, (by first | omega | decide | exact nar_lt _ | with_reducible assumption | (dsimp only; first | omega | exact nar_lt _))⟩⟩ hb) (.cons 1 (.refl) .nil) ?_
          rintro _ _ ⟨rfl, rfl⟩
          refine m_ld 4 2 ?_
          refine m_st 0 1 ?_
          exact m_retC 4 [3, 0] (.tuple #[(.agg ((⟨(⟨p.now, (⟨p.next.led, p.next.seed, p.next.start, p.next.lock, nar (p.next.len + 1)⟩ : EData)⟩ : EPair).now, ⟨(⟨p.now, (⟨p.next.led, p.next.seed, p.next.start, p.next.lock, nar (p.next.len + 1)⟩ : EData)⟩ : EPair).next.led, seedL (⟨p.now, (⟨p.next.led, p.next.seed, p.next.start, p.next.lock, nar (p.next.len + 1)⟩ : EData)⟩ : EPair).next.seed b.draw, (⟨p.now, (⟨p.next.led, p.next.seed, p.next.start, p.next.lock, nar (p.next.len + 1)⟩ : EData)⟩ : EPair).next.start, b.prev, (⟨p.now, (⟨p.next.led, p.next.seed, p.next.start, p.next.lock, nar (p.next.len + 1)⟩ : EData)⟩ : EPair).next.len⟩⟩ : EPair).cells)), (.int .i64 0)]) [] ⟨(by rw [(fol_stay (by omega) (by omega) (by omega)).1, (fol_stay (by omega) (by omega) (by omega)).2, lockD_yes (by omega), nar_yes (by omega)]; rfl), by kernel_rfl⟩
        · -- no
          refine m_ld 4 4 ?_
          refine m_st 0 0 ?_
          exact m_retC 4 [2, 0] (.tuple #[(.agg ((⟨p.now, (⟨p.next.led, p.next.seed, p.next.start, p.next.lock, nar (p.next.len + 1)⟩ : EData)⟩ : EPair).cells)), (.int .i64 0)]) [] ⟨(by rw [(fol_stay (by omega) (by omega) (by omega)).1, (fol_stay (by omega) (by omega) (by omega)).2, lockD_no (by omega), nar_yes (by omega)]; rfl), by kernel_rfl⟩
      · -- no
        refine m_st 3 0 ?_
        exact m_retC 6 [2, 0] (.tuple #[(.agg ((⟨(⟨Z32, Z32, Z32, Z32, 0⟩ : EData), (⟨Z32, Z32, Z32, Z32, 0⟩ : EData)⟩ : EPair).cells)), (.int .i64 5)]) [] ⟨(by rw [(fol_over (by omega) (by omega) (by omega)).1, (fol_over (by omega) (by omega) (by omega)).2]; rfl), by kernel_rfl⟩

set_option maxRecDepth 100000 in
theorem rseed_j (a : List Nat) (b : List Nat) (ha : H32 a) (hb : H32 b) :
    Does Tryd.prog 13 #[(.agg (hv a)), (.agg (hv b))] [(.rd (some ⟨0, 0, none⟩) ((hw KL).toList))] [] (fun v H => v = (.agg (hv (seedL a b))) ∧ H = []) := by
  refine m_fn fun F => ?_
  refine m_new 2 fun b1 => ?_
  refine m_new 0 fun b2 => ?_
  refine m_new 0 fun b3 => ?_
  refine m_plan 3 [] (.q 0 false (.q 1 false (.e 2 (.e 3 (.e 4 .n))))) [] ?_
  refine m_new 2 fun b4 => ?_
  refine m_call 0 [] (rtagof_j (⟨#[115, 101, 101, 100]⟩ : ByteArray) _ (some ⟨b4, 0, none⟩) 2 [⟨(some ⟨b1, 0, none⟩), 32, a⟩, ⟨(some ⟨b2, 0, none⟩), 32, b⟩] (Nat.le_of_ble_eq_true (by kernel_rfl)) (by exact parts2 (Nat.le_trans (Nat.le_of_eq ha.len) (show 32 ≤ 200000 from by decide)) (Nat.le_trans (Nat.le_of_eq hb.len) (show 32 ≤ 200000 from by decide)))) (.consH (HView.rows 2 (.cons 5 32 32 (.hv 0 a ha.len) ha.len ha.byt (by decide) (.cons 4 32 32 (.hv 0 b hb.len) hb.len hb.byt (by decide) .nil))) (.cons 1 (.refl) .nil)) ?_
  rintro _ _ ⟨hv5, rfl⟩
  rw [show ((.agg (hv (tagL (sB (⟨#[115, 101, 101, 100]⟩ : ByteArray)) [⟨(some ⟨b1, 0, none⟩), 32, a⟩, ⟨(some ⟨b2, 0, none⟩), 32, b⟩]))) : Value) = (.agg (hv (seedL a b))) from rfl] at hv5; subst hv5
  refine m_st 0 1 ?_
  refine m_thaw 1 ?_
  exact m_retC 2 [3] (.agg (hv (seedL a b))) [] ⟨(rfl), by kernel_rfl⟩


end Go.Proofs.YtinmmamnldephaaDoor
