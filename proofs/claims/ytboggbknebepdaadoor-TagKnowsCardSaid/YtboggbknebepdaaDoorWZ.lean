/- The walks of layer 3's memo. -/
import Derived.Test.YtboggbknebepdaaDoorWY
import Derived.Test.YtboggbknebepdaaDoorMaps
namespace Go.Proofs.YtboggbknebepdaaDoor
open Go Go.RowKit Go.Alm
theorem tagLaidOut : laidOutB Tryd.prog = true := by kernel_rfl
theorem tagKeyLaw : WideMaps.KeyLaw Tryd.prog 83 := deep_law_laid tagLaidOut (m := 3) (by omega) (of_decide_eq_true (by kernel_rfl)) (by kernel_rfl) (by kernel_rfl)
theorem tagKeyOf (x : TKey) : ∃ l, keyOf Tryd.prog 83 (.agg x.cells) = some l := keyOf_deep (by kernel_rfl) (by kernel_rfl) (by kernel_rfl) (by kernel_rfl) x.wf
noncomputable def look_c_R0 : Array Oper := rAt Tryd.prog 41 [0]
noncomputable def look_c_R1 : Array Oper := rAt Tryd.prog 41 [1, 0]
def look_c_sk1 : Nat → Bool := fun i => decide (i ∈ [4, 9])
def look_c_pl1 : List (Nat × PK) := [(0, .q false), (1, .q false), (2, .q false), (3, .q true), (4, .q true), (5, .q true), (6, .q false), (7, .q false), (8, .q false), (9, .e), (10, .e), (11, .q false)]
noncomputable def look_c_R2 : Array Oper := rAt Tryd.prog 41 [1, 1, 0, 0]
noncomputable def look_c_R4 : Array Oper := rAt Tryd.prog 41 [1, 1, 1, 0, 0]
def look_c_sk4 : Nat → Bool := fun i => decide (i ∈ [8, 9, 10, 11])
def look_c_pl4 : List (Nat × PK) := [(0, .q false), (1, .q false), (2, .q false), (3, .q false), (4, .q false), (5, .q false), (6, .q true), (7, .q true), (8, .q false), (9, .q false), (10, .q false), (11, .q true), (12, .q false), (13, .q false)]
noncomputable def look_c_R6 : Array Oper := rAt Tryd.prog 41 [1, 1, 1, 1, 0]
noncomputable def look_c_R3 : Array Oper := rAt Tryd.prog 41 [1, 1, 0, 1, 0]
def look_c_sk3 : Nat → Bool := fun i => decide (i ∈ [2, 3, 4])
def look_c_pl3 : List (Nat × PK) := [(0, .q false), (1, .q true), (2, .q false), (3, .q false), (4, .e), (5, .e), (6, .e)]
noncomputable def look_c_R5 : Array Oper := rAt Tryd.prog 41 [1, 1, 1, 0, 1, 0]
def look_c_sk5 : Nat → Bool := fun i => decide (i ∈ [4, 5])
def look_c_pl5 : List (Nat × PK) := [(0, .q false), (1, .q false), (2, .q false), (3, .q true), (4, .q true), (5, .q true), (6, .e)]
set_option maxRecDepth 100000 in
theorem look_c (bm : Nat) (mb : Nat) (room : Nat) (ks : List TKey) (x : TKey) (last : TKey) (found : List Nat) (asked : Bool) (w : World) (h_m : w.heap[bm]? = some (.cells (memC room mb last found asked) 85 (0, 0))) (h_mp : MapAt Tryd.prog 83 w mb (kvT ks)) (h_ks1 : Rd w (some ⟨1, 0, none⟩) ((hw KL).toList)) (d_mp_m : Dis (One mb) (One bm)) (d_ks1_mp : Dis (Ar (some ⟨1, 0, none⟩) ((hw KL).toList)) (One mb)) (hr : room ≤ 9223372036854775807) (hk : ks.length ≤ 1000000) :
    Calls Tryd.prog 41 #[(.pointer (some ⟨bm, 0, none⟩)), (.agg (TKey.cells x))] w fun e w' => e = .returned (.agg (hv (tagK x))) ∧ MapAt Tryd.prog 83 w' mb (kvT (addK ks x room)) ∧ Fr w w' (One mb) := by
  by_cases hx : x ∈ ks
  · -- there
    have hxb := x.hb
    refine c_enter (mk 45 [(0, (.pointer (some ⟨bm, 0, none⟩))), (1, (.agg (TKey.cells x)))] (fun _ => undef)) Tryd.func41 (by kernel_rfl) (by kernel_rfl) ?_
    refine c_seq [0] [1] (by kernel_rfl) ?_
    refine c_reg 0 look_c_R0 (by kernel_rfl) ?_
    refine at_do (by kernel_rfl) (op_new (.cells (TKey.cells x) 83) (fun N => (.pointer (some ⟨N, 0, none⟩))) (fun _ => by kernel_rfl) (fun w2_ b1_ h3_ q4_ F5_ => ?_))
    have d6_ : Dis (One b1_) (One bm) := Dis.fresh (New.one q4_) (In.one h_m)
    have d7_ : Dis (One b1_) (One mb) := Dis.fresh (New.one q4_) (MapAt.in h_mp)
    have d8_ : Dis (One b1_) (Ar (some ⟨1, 0, none⟩) ((hw KL).toList)) := Dis.fresh (New.one q4_) (Rd.in h_ks1)
    have N9_ : New w (One mb) (One b1_) := New.made q4_ (Fr.size (Fr.refl w (One mb)))
    have T10_ := Fr.tr (Fr.refl w (One mb)) F5_
    refine at_do (by kernel_rfl) (op_new (.cells #[(.int .u8 0), (.int .u8 0), (.int .u8 0), (.int .u8 0), (.int .u8 0), (.int .u8 0), (.int .u8 0), (.int .u8 0), (.int .u8 0), (.int .u8 0), (.int .u8 0), (.int .u8 0), (.int .u8 0), (.int .u8 0), (.int .u8 0), (.int .u8 0), (.int .u8 0), (.int .u8 0), (.int .u8 0), (.int .u8 0), (.int .u8 0), (.int .u8 0), (.int .u8 0), (.int .u8 0), (.int .u8 0), (.int .u8 0), (.int .u8 0), (.int .u8 0), (.int .u8 0), (.int .u8 0), (.int .u8 0), (.int .u8 0)] 25) (fun N => (.pointer (some ⟨N, 0, none⟩))) (fun _ => by kernel_rfl) (fun w12_ b11_ h13_ q14_ F15_ => ?_))
    have h16_ := Fr.keep F5_ h_m Dis.n0
    have d17_ : Dis (One b11_) (One bm) := Dis.fresh (New.one q14_) (In.one h16_)
    have h18_ := MapAt.keep h_mp F5_ Dis.n0
    have d19_ : Dis (One b11_) (One mb) := Dis.fresh (New.one q14_) (MapAt.in h18_)
    have h20_ := Rd.keep' h_ks1 F5_ Dis.n0
    have d21_ : Dis (One b11_) (Ar (some ⟨1, 0, none⟩) ((hw KL).toList)) := Dis.fresh (New.one q14_) (Rd.in h20_)
    have d22_ : Dis (One b11_) (One b1_) := Dis.fresh (New.one q14_) (In.one h3_)
    have N23_ : New w (One mb) (One b11_) := New.made q14_ (Fr.size T10_)
    have T24_ := Fr.tr T10_ F15_
    refine at_done (by kernel_rfl) ?_
    refine then_n ?_
    refine c_seq [1, 0] [1, 1] (by kernel_rfl) ?_
    refine c_plan 1 look_c_R1 (fun w' => w'.heap[bm]? = some (.cells (memC room mb last found asked) 85 (0, 0)) ∧ w'.heap[b1_]? = some (.cells (TKey.cells x) 83 (0, 0)) ∧ MapAt Tryd.prog 83 w' mb (kvT ks) ∧ True) look_c_sk1 look_c_pl1 (by kernel_rfl) (by kernel_rfl) (by kernel_rfl) (by kernel_rfl) (by kernel_rfl) (fun w25_ F26_ => ?_)
    have T27_ := Fr.tr T24_ F26_
    have h29_ := Fr.keep F15_ h16_ Dis.n0
    have h30_ := Fr.keep F26_ h29_ Dis.n0
    have h31_ := Fr.keep F15_ h3_ Dis.n0
    have h32_ := Fr.keep F26_ h31_ Dis.n0
    have h33_ := MapAt.keep h18_ F15_ Dis.n0
    have h34_ := MapAt.keep h33_ F26_ Dis.n0
    have S28_ : w25_.heap[bm]? = some (.cells (memC room mb last found asked) 85 (0, 0)) ∧ w25_.heap[b1_]? = some (.cells (TKey.cells x) 83 (0, 0)) ∧ MapAt Tryd.prog 83 w25_ mb (kvT ks) ∧ True := ⟨h30_, h32_, h34_, trivial⟩
    refine pl_pures 3 (by kernel_rfl) (by kernel_rfl) (off (by kernel_rfl)) ?_
    refine pl_read 3 (.map (some mb)) (by kernel_rfl) (by kernel_rfl) (fun w' hs => run_load1 81 (.tmp 10) bm 1 _ _ _ (.map (some mb)) (by kernel_rfl) (by kernel_rfl) (by kernel_rfl) hs.1 (by kernel_rfl)) S28_ ?_
    refine pl_read 4 (.agg (TKey.cells x)) (by kernel_rfl) (by kernel_rfl) (fun w' hs => run_loadN 83 (.tmp 3) b1_ 0 33 _ _ _ (TKey.cells x) (by kernel_rfl) (by kernel_rfl) (by kernel_rfl) (by kernel_rfl) hs.2.1 (by kernel_rfl) (by kernel_rfl)) S28_ ?_
    refine pl_read 5 (.tuple #[(.agg (hv (tagK x))), (.bool true)]) (by kernel_rfl) (by kernel_rfl) (fun w' hs => (run_lookup (w := w') (t := 81) (e := 25) tagKeyLaw (.tmp 11) (.tmp 12) (.agg x.cells) (.agg #[(.int .u8 0), (.int .u8 0), (.int .u8 0), (.int .u8 0), (.int .u8 0), (.int .u8 0), (.int .u8 0), (.int .u8 0), (.int .u8 0), (.int .u8 0), (.int .u8 0), (.int .u8 0), (.int .u8 0), (.int .u8 0), (.int .u8 0), (.int .u8 0), (.int .u8 0), (.int .u8 0), (.int .u8 0), (.int .u8 0), (.int .u8 0), (.int .u8 0), (.int .u8 0), (.int .u8 0), (.int .u8 0), (.int .u8 0), (.int .u8 0), (.int .u8 0), (.int .u8 0), (.int .u8 0), (.int .u8 0), (.int .u8 0)]) (by kernel_rfl) (by kernel_rfl) (by kernel_rfl) (by kernel_rfl) (by kernel_rfl) hs.2.2.1 (tagKeyOf x)).2 _ (kvT_in hx).1 (kvT_in hx).2) S28_ ?_
    refine pl_pures 9 (by kernel_rfl) (by kernel_rfl) (off (by kernel_rfl)) ?_
    refine pl_do 9 (by kernel_rfl) (by kernel_rfl) (op_new (.cells #[(.int .u8 0), (.int .u8 0), (.int .u8 0), (.int .u8 0), (.int .u8 0), (.int .u8 0), (.int .u8 0), (.int .u8 0), (.int .u8 0), (.int .u8 0), (.int .u8 0), (.int .u8 0), (.int .u8 0), (.int .u8 0), (.int .u8 0), (.int .u8 0), (.int .u8 0), (.int .u8 0), (.int .u8 0), (.int .u8 0), (.int .u8 0), (.int .u8 0), (.int .u8 0), (.int .u8 0), (.int .u8 0), (.int .u8 0), (.int .u8 0), (.int .u8 0), (.int .u8 0), (.int .u8 0), (.int .u8 0), (.int .u8 0)] 25) (fun N => (.pointer (some ⟨N, 0, none⟩))) (fun _ => by kernel_rfl) (fun w36_ b35_ h37_ q38_ F39_ => ?_))
    have d40_ : Dis (One b35_) (One bm) := Dis.fresh (New.one q38_) (In.one h30_)
    have d41_ : Dis (One b35_) (One mb) := Dis.fresh (New.one q38_) (MapAt.in h34_)
    have h42_ := Rd.keep' h20_ F15_ Dis.n0
    have h43_ := Rd.keep' h42_ F26_ Dis.n0
    have d44_ : Dis (One b35_) (Ar (some ⟨1, 0, none⟩) ((hw KL).toList)) := Dis.fresh (New.one q38_) (Rd.in h43_)
    have d45_ : Dis (One b35_) (One b1_) := Dis.fresh (New.one q38_) (In.one h32_)
    have h46_ := Fr.keep F26_ h13_ Dis.n0
    have d47_ : Dis (One b35_) (One b11_) := Dis.fresh (New.one q38_) (In.one h46_)
    have N48_ : New w (One mb) (One b35_) := New.made q38_ (Fr.size T27_)
    have T49_ := Fr.tr T27_ F39_
    have h50_ := Fr.keep F39_ h30_ Dis.n0
    have h51_ := Fr.keep F39_ h32_ Dis.n0
    have h52_ := MapAt.keep h34_ F39_ Dis.n0
    have S53_ : w36_.heap[bm]? = some (.cells (memC room mb last found asked) 85 (0, 0)) ∧ w36_.heap[b1_]? = some (.cells (TKey.cells x) 83 (0, 0)) ∧ MapAt Tryd.prog 83 w36_ mb (kvT ks) ∧ True := ⟨h50_, h51_, h52_, trivial⟩
    refine ⟨fun _ => S53_, ?_⟩
    have h54_ := Rd.keep' h43_ F39_ Dis.n0
    have h55_ := Fr.keep F39_ h46_ Dis.n0
    refine pl_do 10 (by kernel_rfl) (by kernel_rfl) (op_store 25 (.tmp 5) (.tmp 14) b35_ 0 (.agg (hv (tagK x))) _ _ (hv (tagK x)) (by kernel_rfl) (by kernel_rfl) (by kernel_rfl) h37_ (by kernel_rfl) (by kernel_rfl) (by kernel_rfl) (by kernel_rfl) (fun w56_ h57_ z58_ F59_ => ?_))
    have T60_ := Fr.then T49_ F59_ N48_
    have h61_ := Fr.keep F59_ h50_ (Dis.sym d40_)
    have h62_ := MapAt.keep h52_ F59_ (Dis.sym d41_)
    have h63_ := Rd.keep' h54_ F59_ (Dis.sym d44_)
    have h64_ := Fr.keep F59_ h51_ (Dis.sym d45_)
    have h65_ := Fr.keep F59_ h55_ (Dis.sym d47_)
    refine ⟨off (by kernel_rfl), ?_⟩
    refine pl_pures 12 (by kernel_rfl) (by kernel_rfl) (off (by kernel_rfl)) ?_
    refine pl_done (by kernel_rfl) ?_
    refine then_n ?_
    refine c_seq [1, 1, 0] [1, 1, 1] (by kernel_rfl) ?_
    refine c_seq [1, 1, 0, 0] [1, 1, 0, 1] (by kernel_rfl) ?_
    refine c_reg 2 look_c_R2 (by kernel_rfl) ?_
    refine at_pures 2 (by kernel_rfl) (by kernel_rfl) ?_
    refine at_done (by kernel_rfl) ?_
    refine then_n ?_
    refine c_else (.tmp 17) [1, 1, 0, 1, 0] [1, 1, 0, 1, 1] (by kernel_rfl) (by kernel_rfl) ?_
    refine c_skip (by kernel_rfl) ?_
    refine then_n ?_
    refine c_seq [1, 1, 1, 0] [1, 1, 1, 1] (by kernel_rfl) ?_
    refine c_seq [1, 1, 1, 0, 0] [1, 1, 1, 0, 1] (by kernel_rfl) ?_
    refine c_plan 4 look_c_R4 (fun w' => True) look_c_sk4 look_c_pl4 (by kernel_rfl) (by kernel_rfl) (by kernel_rfl) (by kernel_rfl) (by kernel_rfl) (fun w66_ F67_ => ?_)
    have T68_ := Fr.tr T60_ F67_
    have S69_ : True := trivial
    refine pl_pures 6 (by kernel_rfl) (by kernel_rfl) (off (by kernel_rfl)) ?_
    refine pl_roff 6 (by kernel_rfl) (by kernel_rfl) (by kernel_rfl) S69_ ?_
    refine pl_roff 7 (by kernel_rfl) (by kernel_rfl) (by kernel_rfl) S69_ ?_
    refine pl_pures 11 (by kernel_rfl) (by kernel_rfl) (fun _ => S69_) ?_
    refine pl_roff 11 (by kernel_rfl) (by kernel_rfl) (by kernel_rfl) S69_ ?_
    refine pl_pures 14 (by kernel_rfl) (by kernel_rfl) (off (by kernel_rfl)) ?_
    refine pl_done (by kernel_rfl) ?_
    refine then_n ?_
    refine c_else (.tmp 37) [1, 1, 1, 0, 1, 0] [1, 1, 1, 0, 1, 1] (by kernel_rfl) (by kernel_rfl) ?_
    refine c_skip (by kernel_rfl) ?_
    refine then_n ?_
    refine c_seq [1, 1, 1, 1, 0] [1, 1, 1, 1, 1] (by kernel_rfl) ?_
    refine c_reg 6 look_c_R6 (by kernel_rfl) ?_
    have h70_ := Fr.keep F67_ h57_ Dis.n0
    refine at_loadN 25 (.tmp 5) b35_ 0 32 _ _ _ (hv (tagK x)) (by kernel_rfl) (by kernel_rfl) (by kernel_rfl) (by kernel_rfl) (by kernel_rfl) h70_ (by kernel_rfl) (by kernel_rfl) ?_
    have h71_ := Fr.keep F67_ h61_ Dis.n0
    have h72_ := MapAt.keep h62_ F67_ Dis.n0
    have h73_ := Rd.keep' h63_ F67_ Dis.n0
    have h74_ := Fr.keep F67_ h64_ Dis.n0
    have h75_ := Fr.keep F67_ h65_ Dis.n0
    refine at_do (by kernel_rfl) (op_store 25 (.tmp 4) (.tmp 44) b11_ 0 (.agg (hv (tagK x))) _ _ (hv (tagK x)) (by kernel_rfl) (by kernel_rfl) (by kernel_rfl) h75_ (by kernel_rfl) (by kernel_rfl) (by kernel_rfl) (by kernel_rfl) (fun w76_ h77_ z78_ F79_ => ?_))
    have T80_ := Fr.then T68_ F79_ N23_
    have h81_ := Fr.keep F79_ h71_ (Dis.sym d17_)
    have h82_ := MapAt.keep h72_ F79_ (Dis.sym d19_)
    have h83_ := Rd.keep' h73_ F79_ (Dis.sym d21_)
    have h84_ := Fr.keep F79_ h74_ (Dis.sym d22_)
    have h85_ := Fr.keep F79_ h70_ d47_
    refine at_done (by kernel_rfl) ?_
    refine then_n ?_
    refine c_ret (by kernel_rfl) ?_
    refine fin_retL [.cell 4 25] [(.agg (hv (tagK x)))] (.agg (hv (tagK x))) (by kernel_rfl) (by rfl) ⟨ResOne.cellN (off := 0) (n := 32) (vs := (hv (tagK x))) (by kernel_rfl) (by kernel_rfl) (by kernel_rfl) h77_ (by kernel_rfl) (by kernel_rfl), trivial⟩ (by rfl) ?_
    have ek : addK ks x room = ks := if_pos (.inl hx)
    have h86_ : MapAt Tryd.prog 83 w76_ mb (kvT (addK ks x room)) := by rw [ek]; exact h82_
    exact ⟨rfl, h86_, T80_⟩
  · -- not there
    have hxb := x.hb
    refine c_enter (mk 45 [(0, (.pointer (some ⟨bm, 0, none⟩))), (1, (.agg (TKey.cells x)))] (fun _ => undef)) Tryd.func41 (by kernel_rfl) (by kernel_rfl) ?_
    refine c_seq [0] [1] (by kernel_rfl) ?_
    refine c_reg 0 look_c_R0 (by kernel_rfl) ?_
    refine at_do (by kernel_rfl) (op_new (.cells (TKey.cells x) 83) (fun N => (.pointer (some ⟨N, 0, none⟩))) (fun _ => by kernel_rfl) (fun w88_ b87_ h89_ q90_ F91_ => ?_))
    have d92_ : Dis (One b87_) (One bm) := Dis.fresh (New.one q90_) (In.one h_m)
    have d93_ : Dis (One b87_) (One mb) := Dis.fresh (New.one q90_) (MapAt.in h_mp)
    have d94_ : Dis (One b87_) (Ar (some ⟨1, 0, none⟩) ((hw KL).toList)) := Dis.fresh (New.one q90_) (Rd.in h_ks1)
    have N95_ : New w (One mb) (One b87_) := New.made q90_ (Fr.size (Fr.refl w (One mb)))
    have T96_ := Fr.tr (Fr.refl w (One mb)) F91_
    refine at_do (by kernel_rfl) (op_new (.cells #[(.int .u8 0), (.int .u8 0), (.int .u8 0), (.int .u8 0), (.int .u8 0), (.int .u8 0), (.int .u8 0), (.int .u8 0), (.int .u8 0), (.int .u8 0), (.int .u8 0), (.int .u8 0), (.int .u8 0), (.int .u8 0), (.int .u8 0), (.int .u8 0), (.int .u8 0), (.int .u8 0), (.int .u8 0), (.int .u8 0), (.int .u8 0), (.int .u8 0), (.int .u8 0), (.int .u8 0), (.int .u8 0), (.int .u8 0), (.int .u8 0), (.int .u8 0), (.int .u8 0), (.int .u8 0), (.int .u8 0), (.int .u8 0)] 25) (fun N => (.pointer (some ⟨N, 0, none⟩))) (fun _ => by kernel_rfl) (fun w98_ b97_ h99_ q100_ F101_ => ?_))
    have h102_ := Fr.keep F91_ h_m Dis.n0
    have d103_ : Dis (One b97_) (One bm) := Dis.fresh (New.one q100_) (In.one h102_)
    have h104_ := MapAt.keep h_mp F91_ Dis.n0
    have d105_ : Dis (One b97_) (One mb) := Dis.fresh (New.one q100_) (MapAt.in h104_)
    have h106_ := Rd.keep' h_ks1 F91_ Dis.n0
    have d107_ : Dis (One b97_) (Ar (some ⟨1, 0, none⟩) ((hw KL).toList)) := Dis.fresh (New.one q100_) (Rd.in h106_)
    have d108_ : Dis (One b97_) (One b87_) := Dis.fresh (New.one q100_) (In.one h89_)
    have N109_ : New w (One mb) (One b97_) := New.made q100_ (Fr.size T96_)
    have T110_ := Fr.tr T96_ F101_
    refine at_done (by kernel_rfl) ?_
    refine then_n ?_
    refine c_seq [1, 0] [1, 1] (by kernel_rfl) ?_
    refine c_plan 1 look_c_R1 (fun w' => w'.heap[bm]? = some (.cells (memC room mb last found asked) 85 (0, 0)) ∧ w'.heap[b87_]? = some (.cells (TKey.cells x) 83 (0, 0)) ∧ MapAt Tryd.prog 83 w' mb (kvT ks) ∧ True) look_c_sk1 look_c_pl1 (by kernel_rfl) (by kernel_rfl) (by kernel_rfl) (by kernel_rfl) (by kernel_rfl) (fun w111_ F112_ => ?_)
    have T113_ := Fr.tr T110_ F112_
    have h115_ := Fr.keep F101_ h102_ Dis.n0
    have h116_ := Fr.keep F112_ h115_ Dis.n0
    have h117_ := Fr.keep F101_ h89_ Dis.n0
    have h118_ := Fr.keep F112_ h117_ Dis.n0
    have h119_ := MapAt.keep h104_ F101_ Dis.n0
    have h120_ := MapAt.keep h119_ F112_ Dis.n0
    have S114_ : w111_.heap[bm]? = some (.cells (memC room mb last found asked) 85 (0, 0)) ∧ w111_.heap[b87_]? = some (.cells (TKey.cells x) 83 (0, 0)) ∧ MapAt Tryd.prog 83 w111_ mb (kvT ks) ∧ True := ⟨h116_, h118_, h120_, trivial⟩
    refine pl_pures 3 (by kernel_rfl) (by kernel_rfl) (off (by kernel_rfl)) ?_
    refine pl_read 3 (.map (some mb)) (by kernel_rfl) (by kernel_rfl) (fun w' hs => run_load1 81 (.tmp 10) bm 1 _ _ _ (.map (some mb)) (by kernel_rfl) (by kernel_rfl) (by kernel_rfl) hs.1 (by kernel_rfl)) S114_ ?_
    refine pl_read 4 (.agg (TKey.cells x)) (by kernel_rfl) (by kernel_rfl) (fun w' hs => run_loadN 83 (.tmp 3) b87_ 0 33 _ _ _ (TKey.cells x) (by kernel_rfl) (by kernel_rfl) (by kernel_rfl) (by kernel_rfl) hs.2.1 (by kernel_rfl) (by kernel_rfl)) S114_ ?_
    refine pl_read 5 (.tuple #[(.agg #[(.int .u8 0), (.int .u8 0), (.int .u8 0), (.int .u8 0), (.int .u8 0), (.int .u8 0), (.int .u8 0), (.int .u8 0), (.int .u8 0), (.int .u8 0), (.int .u8 0), (.int .u8 0), (.int .u8 0), (.int .u8 0), (.int .u8 0), (.int .u8 0), (.int .u8 0), (.int .u8 0), (.int .u8 0), (.int .u8 0), (.int .u8 0), (.int .u8 0), (.int .u8 0), (.int .u8 0), (.int .u8 0), (.int .u8 0), (.int .u8 0), (.int .u8 0), (.int .u8 0), (.int .u8 0), (.int .u8 0), (.int .u8 0)]), (.bool false)]) (by kernel_rfl) (by kernel_rfl) (fun w' hs => (run_lookup (w := w') (t := 81) (e := 25) tagKeyLaw (.tmp 11) (.tmp 12) (.agg x.cells) (.agg #[(.int .u8 0), (.int .u8 0), (.int .u8 0), (.int .u8 0), (.int .u8 0), (.int .u8 0), (.int .u8 0), (.int .u8 0), (.int .u8 0), (.int .u8 0), (.int .u8 0), (.int .u8 0), (.int .u8 0), (.int .u8 0), (.int .u8 0), (.int .u8 0), (.int .u8 0), (.int .u8 0), (.int .u8 0), (.int .u8 0), (.int .u8 0), (.int .u8 0), (.int .u8 0), (.int .u8 0), (.int .u8 0), (.int .u8 0), (.int .u8 0), (.int .u8 0), (.int .u8 0), (.int .u8 0), (.int .u8 0), (.int .u8 0)]) (by kernel_rfl) (by kernel_rfl) (by kernel_rfl) (by kernel_rfl) (by kernel_rfl) hs.2.2.1 (tagKeyOf x)).1 (kvT_no hx)) S114_ ?_
    refine pl_pures 9 (by kernel_rfl) (by kernel_rfl) (off (by kernel_rfl)) ?_
    refine pl_do 9 (by kernel_rfl) (by kernel_rfl) (op_new (.cells #[(.int .u8 0), (.int .u8 0), (.int .u8 0), (.int .u8 0), (.int .u8 0), (.int .u8 0), (.int .u8 0), (.int .u8 0), (.int .u8 0), (.int .u8 0), (.int .u8 0), (.int .u8 0), (.int .u8 0), (.int .u8 0), (.int .u8 0), (.int .u8 0), (.int .u8 0), (.int .u8 0), (.int .u8 0), (.int .u8 0), (.int .u8 0), (.int .u8 0), (.int .u8 0), (.int .u8 0), (.int .u8 0), (.int .u8 0), (.int .u8 0), (.int .u8 0), (.int .u8 0), (.int .u8 0), (.int .u8 0), (.int .u8 0)] 25) (fun N => (.pointer (some ⟨N, 0, none⟩))) (fun _ => by kernel_rfl) (fun w122_ b121_ h123_ q124_ F125_ => ?_))
    have d126_ : Dis (One b121_) (One bm) := Dis.fresh (New.one q124_) (In.one h116_)
    have d127_ : Dis (One b121_) (One mb) := Dis.fresh (New.one q124_) (MapAt.in h120_)
    have h128_ := Rd.keep' h106_ F101_ Dis.n0
    have h129_ := Rd.keep' h128_ F112_ Dis.n0
    have d130_ : Dis (One b121_) (Ar (some ⟨1, 0, none⟩) ((hw KL).toList)) := Dis.fresh (New.one q124_) (Rd.in h129_)
    have d131_ : Dis (One b121_) (One b87_) := Dis.fresh (New.one q124_) (In.one h118_)
    have h132_ := Fr.keep F112_ h99_ Dis.n0
    have d133_ : Dis (One b121_) (One b97_) := Dis.fresh (New.one q124_) (In.one h132_)
    have N134_ : New w (One mb) (One b121_) := New.made q124_ (Fr.size T113_)
    have T135_ := Fr.tr T113_ F125_
    have h136_ := Fr.keep F125_ h116_ Dis.n0
    have h137_ := Fr.keep F125_ h118_ Dis.n0
    have h138_ := MapAt.keep h120_ F125_ Dis.n0
    have S139_ : w122_.heap[bm]? = some (.cells (memC room mb last found asked) 85 (0, 0)) ∧ w122_.heap[b87_]? = some (.cells (TKey.cells x) 83 (0, 0)) ∧ MapAt Tryd.prog 83 w122_ mb (kvT ks) ∧ True := ⟨h136_, h137_, h138_, trivial⟩
    refine ⟨fun _ => S139_, ?_⟩
    have h140_ := Rd.keep' h129_ F125_ Dis.n0
    have h141_ := Fr.keep F125_ h132_ Dis.n0
    refine pl_do 10 (by kernel_rfl) (by kernel_rfl) (op_store 25 (.tmp 5) (.tmp 14) b121_ 0 (.agg #[(.int .u8 0), (.int .u8 0), (.int .u8 0), (.int .u8 0), (.int .u8 0), (.int .u8 0), (.int .u8 0), (.int .u8 0), (.int .u8 0), (.int .u8 0), (.int .u8 0), (.int .u8 0), (.int .u8 0), (.int .u8 0), (.int .u8 0), (.int .u8 0), (.int .u8 0), (.int .u8 0), (.int .u8 0), (.int .u8 0), (.int .u8 0), (.int .u8 0), (.int .u8 0), (.int .u8 0), (.int .u8 0), (.int .u8 0), (.int .u8 0), (.int .u8 0), (.int .u8 0), (.int .u8 0), (.int .u8 0), (.int .u8 0)]) _ _ #[(.int .u8 0), (.int .u8 0), (.int .u8 0), (.int .u8 0), (.int .u8 0), (.int .u8 0), (.int .u8 0), (.int .u8 0), (.int .u8 0), (.int .u8 0), (.int .u8 0), (.int .u8 0), (.int .u8 0), (.int .u8 0), (.int .u8 0), (.int .u8 0), (.int .u8 0), (.int .u8 0), (.int .u8 0), (.int .u8 0), (.int .u8 0), (.int .u8 0), (.int .u8 0), (.int .u8 0), (.int .u8 0), (.int .u8 0), (.int .u8 0), (.int .u8 0), (.int .u8 0), (.int .u8 0), (.int .u8 0), (.int .u8 0)] (by kernel_rfl) (by kernel_rfl) (by kernel_rfl) h123_ (by kernel_rfl) (by kernel_rfl) (by kernel_rfl) (by kernel_rfl) (fun w142_ h143_ z144_ F145_ => ?_))
    have T146_ := Fr.then T135_ F145_ N134_
    have h147_ := Fr.keep F145_ h136_ (Dis.sym d126_)
    have h148_ := MapAt.keep h138_ F145_ (Dis.sym d127_)
    have h149_ := Rd.keep' h140_ F145_ (Dis.sym d130_)
    have h150_ := Fr.keep F145_ h137_ (Dis.sym d131_)
    have h151_ := Fr.keep F145_ h141_ (Dis.sym d133_)
    refine ⟨off (by kernel_rfl), ?_⟩
    refine pl_pures 12 (by kernel_rfl) (by kernel_rfl) (off (by kernel_rfl)) ?_
    refine pl_done (by kernel_rfl) ?_
    refine then_n ?_
    refine c_seq [1, 1, 0] [1, 1, 1] (by kernel_rfl) ?_
    refine c_seq [1, 1, 0, 0] [1, 1, 0, 1] (by kernel_rfl) ?_
    refine c_reg 2 look_c_R2 (by kernel_rfl) ?_
    refine at_pures 2 (by kernel_rfl) (by kernel_rfl) ?_
    refine at_done (by kernel_rfl) ?_
    refine then_n ?_
    refine c_then (.tmp 17) [1, 1, 0, 1, 0] [1, 1, 0, 1, 1] (by kernel_rfl) (by kernel_rfl) ?_
    refine c_plan 3 look_c_R3 (fun w' => w'.heap[b87_]? = some (.cells (TKey.cells x) 83 (0, 0)) ∧ True) look_c_sk3 look_c_pl3 (by kernel_rfl) (by kernel_rfl) (by kernel_rfl) (by kernel_rfl) (by kernel_rfl) (fun w152_ F153_ => ?_)
    have T154_ := Fr.tr T146_ F153_
    have h156_ := Fr.keep F153_ h150_ Dis.n0
    have S155_ : w152_.heap[b87_]? = some (.cells (TKey.cells x) 83 (0, 0)) ∧ True := ⟨h156_, trivial⟩
    refine pl_pures 1 (by kernel_rfl) (by kernel_rfl) (off (by kernel_rfl)) ?_
    refine pl_read 1 (.string x.s) (by kernel_rfl) (by kernel_rfl) (fun w' hs => run_load1 9 (.tmp 18) b87_ 0 _ _ _ (.string x.s) (by kernel_rfl) (by kernel_rfl) (by kernel_rfl) hs.1 (by kernel_rfl)) S155_ ?_
    refine pl_pures 4 (by kernel_rfl) (by kernel_rfl) (fun _ => S155_) ?_
    refine pl_do 4 (by kernel_rfl) (by kernel_rfl) (op_new (.cells #[(.slice (some ⟨b87_, 1, none⟩) 32 32)] 22) (fun N => (.slice (some ⟨N, 0, none⟩) 1 1)) (fun _ => by kernel_rfl) (fun w158_ b157_ h159_ q160_ F161_ => ?_))
    have h162_ := Fr.keep F153_ h147_ Dis.n0
    have d163_ : Dis (One b157_) (One bm) := Dis.fresh (New.one q160_) (In.one h162_)
    have h164_ := MapAt.keep h148_ F153_ Dis.n0
    have d165_ : Dis (One b157_) (One mb) := Dis.fresh (New.one q160_) (MapAt.in h164_)
    have h166_ := Rd.keep' h149_ F153_ Dis.n0
    have d167_ : Dis (One b157_) (Ar (some ⟨1, 0, none⟩) ((hw KL).toList)) := Dis.fresh (New.one q160_) (Rd.in h166_)
    have d168_ : Dis (One b157_) (One b87_) := Dis.fresh (New.one q160_) (In.one h156_)
    have h169_ := Fr.keep F153_ h151_ Dis.n0
    have d170_ : Dis (One b157_) (One b97_) := Dis.fresh (New.one q160_) (In.one h169_)
    have h171_ := Fr.keep F153_ h143_ Dis.n0
    have d172_ : Dis (One b157_) (One b121_) := Dis.fresh (New.one q160_) (In.one h171_)
    have N173_ : New w (One mb) (One b157_) := New.made q160_ (Fr.size T154_)
    have T174_ := Fr.tr T154_ F161_
    have h175_ := Fr.keep F161_ h156_ Dis.n0
    have S176_ : w158_.heap[b87_]? = some (.cells (TKey.cells x) 83 (0, 0)) ∧ True := ⟨h175_, trivial⟩
    refine ⟨fun _ => S176_, ?_⟩
    have h177_ := Fr.keep F161_ h162_ Dis.n0
    have h178_ := MapAt.keep h164_ F161_ Dis.n0
    have h179_ := Rd.keep' h166_ F161_ Dis.n0
    have h180_ := Fr.keep F161_ h169_ Dis.n0
    have h181_ := Fr.keep F161_ h171_ Dis.n0
    have h184_ : (((TKey.cells x)).toList.drop 1).take 32 = B x.h := Eq.trans (by kernel_rfl) (hv_B x.hl)
    have h182_ : RowsAt (Or2 (One b157_) (Ar (some ⟨b87_, 1, none⟩) (B x.h))) w158_ (some ⟨b157_, 0, none⟩) [⟨(some ⟨b87_, 1, none⟩), 32, x.h⟩] := RowsAt.one h159_ (by rw [x.hl]) (Rd.of_cut (xs := B x.h) h175_ 1 32 h184_) (Sub.refl _) (Rd.in (Rd.of_cut (xs := B x.h) h175_ 1 32 h184_)) (by first | assumption | exact Byt.nil | exact tagL_byt _ _ | exact tagK_byt _ | exact shaL_byt _ | exact Byt.all (by kernel_rfl)) (by first | assumption | omega | exact Nat.le_refl _ | exact Nat.le_of_eq x.hl| decide) (by first | assumption | (simp only [maxLen]; omega) | decide)
    refine pl_do 5 (by kernel_rfl) (by kernel_rfl) (op_call 24 #[(.tmp 19), (.tmp 22)] #[(.string x.s), (.slice (some ⟨b157_, 0, none⟩) 1 1)] (by kernel_rfl) (by kernel_rfl) (by kernel_rfl) ?_)
    have C189_ := tagof_c x.s (Or2 (One b157_) (Ar (some ⟨b87_, 1, none⟩) (B x.h))) (some ⟨b157_, 0, none⟩) 1 ([⟨(some ⟨b87_, 1, none⟩), 32, x.h⟩] : List BSl) w158_ h182_ h179_  (by first | omega | with_reducible assumption | (simp only [List.length_append, List.length_cons, List.length_nil, putB_length]; omega) | decide) (by exact parts1_le (by rw [x.hl]; decide))
    refine Calls.mono C189_ ?_
    rintro e188_ w186_ ⟨rfl, F187_⟩
    refine ⟨_, rfl, ?_⟩
    have T190_ := Fr.tr T174_ F187_
    have h191_ := Fr.keep F187_ h177_ Dis.n0
    have h192_ := MapAt.keep h178_ F187_ Dis.n0
    have h193_ := Rd.keep' h179_ F187_ Dis.n0
    have h194_ := Fr.keep F187_ h175_ Dis.n0
    have h195_ := Fr.keep F187_ h180_ Dis.n0
    have h196_ := Fr.keep F187_ h181_ Dis.n0
    have h197_ := Fr.keep F187_ h159_ Dis.n0
    have h198_ := RowsAt.keep h182_ F187_ Dis.n0
    refine ⟨off (by kernel_rfl), ?_⟩
    refine pl_do 6 (by kernel_rfl) (by kernel_rfl) (op_store 25 (.tmp 5) (.tmp 23) b121_ 0 (.agg (hv (tagL (sB x.s) ([⟨(some ⟨b87_, 1, none⟩), 32, x.h⟩] : List BSl)))) _ _ (hv (tagL (sB x.s) ([⟨(some ⟨b87_, 1, none⟩), 32, x.h⟩] : List BSl))) (by kernel_rfl) (by kernel_rfl) (by kernel_rfl) h196_ (by kernel_rfl) (by kernel_rfl) (by kernel_rfl) (by kernel_rfl) (fun w199_ h200_ z201_ F202_ => ?_))
    have T203_ := Fr.then T190_ F202_ N134_
    have h204_ := Fr.keep F202_ h191_ (Dis.sym d126_)
    have h205_ := MapAt.keep h192_ F202_ (Dis.sym d127_)
    have h206_ := Rd.keep' h193_ F202_ (Dis.sym d130_)
    have h207_ := Fr.keep F202_ h194_ (Dis.sym d131_)
    have h208_ := Fr.keep F202_ h195_ (Dis.sym d133_)
    have h209_ := Fr.keep F202_ h197_ d172_
    have h210_ := RowsAt.keep h198_ F202_ (Dis.or d172_ (Sub.dis Sub.arOne (Dis.sym d131_)))
    refine ⟨off (by kernel_rfl), ?_⟩
    refine pl_done (by kernel_rfl) ?_
    refine then_n ?_
    refine c_seq [1, 1, 1, 0] [1, 1, 1, 1] (by kernel_rfl) ?_
    refine c_seq [1, 1, 1, 0, 0] [1, 1, 1, 0, 1] (by kernel_rfl) ?_
    refine c_plan 4 look_c_R4 (fun w' => w'.heap[bm]? = some (.cells (memC room mb last found asked) 85 (0, 0)) ∧ MapAt Tryd.prog 83 w' mb (kvT ks) ∧ True) look_c_sk4 look_c_pl4 (by kernel_rfl) (by kernel_rfl) (by kernel_rfl) (by kernel_rfl) (by kernel_rfl) (fun w211_ F212_ => ?_)
    have T213_ := Fr.tr T203_ F212_
    have h215_ := Fr.keep F212_ h204_ Dis.n0
    have h216_ := MapAt.keep h205_ F212_ Dis.n0
    have S214_ : w211_.heap[bm]? = some (.cells (memC room mb last found asked) 85 (0, 0)) ∧ MapAt Tryd.prog 83 w211_ mb (kvT ks) ∧ True := ⟨h215_, h216_, trivial⟩
    refine pl_pures 6 (by kernel_rfl) (by kernel_rfl) (off (by kernel_rfl)) ?_
    refine pl_read 6 (.map (some mb)) (by kernel_rfl) (by kernel_rfl) (fun w' hs => run_load1 81 (.tmp 29) bm 1 _ _ _ (.map (some mb)) (by kernel_rfl) (by kernel_rfl) (by kernel_rfl) hs.1 (by kernel_rfl)) S214_ ?_
    refine pl_read 7 (.int .i64 ((kvT ks).length : Int)) (by kernel_rfl) (by kernel_rfl) (fun w' hs => run_lenMap (t := 81) (e := 25) (.tmp 30) (by kernel_rfl) (by kernel_rfl) (by kernel_rfl) hs.2.1) S214_ ?_
    refine pl_pures 11 (by kernel_rfl) (by kernel_rfl) (fun _ => S214_) ?_
    refine pl_read 11 (.int .i64 (room : Int)) (by kernel_rfl) (by kernel_rfl) (fun w' hs => run_load1 3 (.tmp 34) bm 0 _ _ _ (.int .i64 (room : Int)) (by kernel_rfl) (by kernel_rfl) (by kernel_rfl) hs.1 (by kernel_rfl)) S214_ ?_
    refine pl_pures 14 (by kernel_rfl) (by kernel_rfl) (off (by kernel_rfl)) ?_
    refine pl_done (by kernel_rfl) ?_
    refine then_n ?_
    refine c_if (.tmp 37) (decide (((kvT ks).length : Int) < (room : Int))) [1, 1, 1, 0, 1, 0] [1, 1, 1, 0, 1, 1] (by kernel_rfl) (by kernel_rfl) (fun c217_ => ?_) (fun c217_ => ?_)
    · -- yes
      replace c217_ : ((kvT ks).length : Int) < (room : Int) := of_decide_eq_true c217_
      refine c_plan 5 look_c_R5 (fun w' => w'.heap[bm]? = some (.cells (memC room mb last found asked) 85 (0, 0)) ∧ w'.heap[b87_]? = some (.cells (TKey.cells x) 83 (0, 0)) ∧ w'.heap[b121_]? = some (.cells (hv (tagL (sB x.s) ([⟨(some ⟨b87_, 1, none⟩), 32, x.h⟩] : List BSl))) 25 (0, 0)) ∧ True) look_c_sk5 look_c_pl5 (by kernel_rfl) (by kernel_rfl) (by kernel_rfl) (by kernel_rfl) (by kernel_rfl) (fun w218_ F219_ => ?_)
      have T220_ := Fr.tr T213_ F219_
      have h222_ := Fr.keep F219_ h215_ Dis.n0
      have h223_ := Fr.keep F212_ h207_ Dis.n0
      have h224_ := Fr.keep F219_ h223_ Dis.n0
      have h225_ := Fr.keep F212_ h200_ Dis.n0
      have h226_ := Fr.keep F219_ h225_ Dis.n0
      have S221_ : w218_.heap[bm]? = some (.cells (memC room mb last found asked) 85 (0, 0)) ∧ w218_.heap[b87_]? = some (.cells (TKey.cells x) 83 (0, 0)) ∧ w218_.heap[b121_]? = some (.cells (hv (tagL (sB x.s) ([⟨(some ⟨b87_, 1, none⟩), 32, x.h⟩] : List BSl))) 25 (0, 0)) ∧ True := ⟨h222_, h224_, h226_, trivial⟩
      refine pl_pures 3 (by kernel_rfl) (by kernel_rfl) (off (by kernel_rfl)) ?_
      refine pl_read 3 (.map (some mb)) (by kernel_rfl) (by kernel_rfl) (fun w' hs => run_load1 81 (.tmp 40) bm 1 _ _ _ (.map (some mb)) (by kernel_rfl) (by kernel_rfl) (by kernel_rfl) hs.1 (by kernel_rfl)) S221_ ?_
      refine pl_read 4 (.agg (TKey.cells x)) (by kernel_rfl) (by kernel_rfl) (fun w' hs => run_loadN 83 (.tmp 3) b87_ 0 33 _ _ _ (TKey.cells x) (by kernel_rfl) (by kernel_rfl) (by kernel_rfl) (by kernel_rfl) hs.2.1 (by kernel_rfl) (by kernel_rfl)) S221_ ?_
      refine pl_read 5 (.agg (hv (tagL (sB x.s) ([⟨(some ⟨b87_, 1, none⟩), 32, x.h⟩] : List BSl)))) (by kernel_rfl) (by kernel_rfl) (fun w' hs => run_loadN 25 (.tmp 5) b121_ 0 32 _ _ _ (hv (tagL (sB x.s) ([⟨(some ⟨b87_, 1, none⟩), 32, x.h⟩] : List BSl))) (by kernel_rfl) (by kernel_rfl) (by kernel_rfl) (by kernel_rfl) hs.2.2.1 (by kernel_rfl) (by kernel_rfl)) S221_ ?_
      have h227_ := MapAt.keep h216_ F219_ Dis.n0
      have h228_ := Rd.keep' h206_ F212_ Dis.n0
      have h229_ := Rd.keep' h228_ F219_ Dis.n0
      have h230_ := Fr.keep F212_ h208_ Dis.n0
      have h231_ := Fr.keep F219_ h230_ Dis.n0
      have h232_ := Fr.keep F212_ h209_ Dis.n0
      have h233_ := Fr.keep F219_ h232_ Dis.n0
      have h234_ := RowsAt.keep h210_ F212_ Dis.n0
      have h235_ := RowsAt.keep h234_ F219_ Dis.n0
      refine pl_do 6 (by kernel_rfl) (by kernel_rfl) (op_update (t := 81) (e := 25) tagKeyLaw (.tmp 41) (.tmp 42) (.tmp 43) (.agg x.cells) (.agg (hv (tagK x))) (by kernel_rfl) (by kernel_rfl) (by kernel_rfl) (by kernel_rfl) (by kernel_rfl) h227_ (tagKeyOf x) (kvT_no hx) (fun w236_ h237_ z238_ F239_ => ?_))
      rw [kvT_snoc] at h237_
      have T240_ := Fr.then T220_ F239_ (New.refl w (One mb))
      have h241_ := Fr.keep F239_ h222_ (Dis.sym d_mp_m)
      have h242_ := Rd.keep' h229_ F239_ d_ks1_mp
      have h243_ := Fr.keep F239_ h224_ d93_
      have h244_ := Fr.keep F239_ h231_ d105_
      have h245_ := Fr.keep F239_ h226_ d127_
      have h246_ := Fr.keep F239_ h233_ d165_
      have h247_ := RowsAt.keep h235_ F239_ (Dis.or d165_ (Sub.dis Sub.arOne d93_))
      refine ⟨off (by kernel_rfl), ?_⟩
      refine pl_done (by kernel_rfl) ?_
      refine then_n ?_
      refine c_seq [1, 1, 1, 1, 0] [1, 1, 1, 1, 1] (by kernel_rfl) ?_
      refine c_reg 6 look_c_R6 (by kernel_rfl) ?_
      refine at_loadN 25 (.tmp 5) b121_ 0 32 _ _ _ (hv (tagL (sB x.s) ([⟨(some ⟨b87_, 1, none⟩), 32, x.h⟩] : List BSl))) (by kernel_rfl) (by kernel_rfl) (by kernel_rfl) (by kernel_rfl) (by kernel_rfl) h245_ (by kernel_rfl) (by kernel_rfl) ?_
      refine at_do (by kernel_rfl) (op_store 25 (.tmp 4) (.tmp 44) b97_ 0 (.agg (hv (tagL (sB x.s) ([⟨(some ⟨b87_, 1, none⟩), 32, x.h⟩] : List BSl)))) _ _ (hv (tagL (sB x.s) ([⟨(some ⟨b87_, 1, none⟩), 32, x.h⟩] : List BSl))) (by kernel_rfl) (by kernel_rfl) (by kernel_rfl) h244_ (by kernel_rfl) (by kernel_rfl) (by kernel_rfl) (by kernel_rfl) (fun w248_ h249_ z250_ F251_ => ?_))
      have T252_ := Fr.then T240_ F251_ N109_
      have h253_ := Fr.keep F251_ h241_ (Dis.sym d103_)
      have h254_ := MapAt.keep h237_ F251_ (Dis.sym d105_)
      have h255_ := Rd.keep' h242_ F251_ (Dis.sym d107_)
      have h256_ := Fr.keep F251_ h243_ (Dis.sym d108_)
      have h257_ := Fr.keep F251_ h245_ d133_
      have h258_ := Fr.keep F251_ h246_ d170_
      have h259_ := RowsAt.keep h247_ F251_ (Dis.or d170_ (Sub.dis Sub.arOne (Dis.sym d108_)))
      refine at_done (by kernel_rfl) ?_
      refine then_n ?_
      refine c_ret (by kernel_rfl) ?_
      refine fin_retL [.cell 4 25] [(.agg (hv (tagL (sB x.s) ([⟨(some ⟨b87_, 1, none⟩), 32, x.h⟩] : List BSl))))] (.agg (hv (tagL (sB x.s) ([⟨(some ⟨b87_, 1, none⟩), 32, x.h⟩] : List BSl)))) (by kernel_rfl) (by rfl) ⟨ResOne.cellN (off := 0) (n := 32) (vs := (hv (tagL (sB x.s) ([⟨(some ⟨b87_, 1, none⟩), 32, x.h⟩] : List BSl)))) (by kernel_rfl) (by kernel_rfl) (by kernel_rfl) h249_ (by kernel_rfl) (by kernel_rfl), trivial⟩ (by rfl) ?_
      have ek : addK ks x room = ks ++ [x] := if_neg (fun h => h.elim hx (by rw [kvT_length] at *; omega))
      have h260_ : MapAt Tryd.prog 83 w248_ mb (kvT (addK ks x room)) := by rw [ek]; exact h254_
      exact ⟨rfl, h260_, T252_⟩
    · -- no
      replace c217_ : ¬ (((kvT ks).length : Int) < (room : Int)) := of_decide_eq_false c217_
      refine c_skip (by kernel_rfl) ?_
      refine then_n ?_
      refine c_seq [1, 1, 1, 1, 0] [1, 1, 1, 1, 1] (by kernel_rfl) ?_
      refine c_reg 6 look_c_R6 (by kernel_rfl) ?_
      have h261_ := Fr.keep F212_ h200_ Dis.n0
      refine at_loadN 25 (.tmp 5) b121_ 0 32 _ _ _ (hv (tagL (sB x.s) ([⟨(some ⟨b87_, 1, none⟩), 32, x.h⟩] : List BSl))) (by kernel_rfl) (by kernel_rfl) (by kernel_rfl) (by kernel_rfl) (by kernel_rfl) h261_ (by kernel_rfl) (by kernel_rfl) ?_
      have h262_ := Rd.keep' h206_ F212_ Dis.n0
      have h263_ := Fr.keep F212_ h207_ Dis.n0
      have h264_ := Fr.keep F212_ h208_ Dis.n0
      have h265_ := Fr.keep F212_ h209_ Dis.n0
      have h266_ := RowsAt.keep h210_ F212_ Dis.n0
      refine at_do (by kernel_rfl) (op_store 25 (.tmp 4) (.tmp 44) b97_ 0 (.agg (hv (tagL (sB x.s) ([⟨(some ⟨b87_, 1, none⟩), 32, x.h⟩] : List BSl)))) _ _ (hv (tagL (sB x.s) ([⟨(some ⟨b87_, 1, none⟩), 32, x.h⟩] : List BSl))) (by kernel_rfl) (by kernel_rfl) (by kernel_rfl) h264_ (by kernel_rfl) (by kernel_rfl) (by kernel_rfl) (by kernel_rfl) (fun w267_ h268_ z269_ F270_ => ?_))
      have T271_ := Fr.then T213_ F270_ N109_
      have h272_ := Fr.keep F270_ h215_ (Dis.sym d103_)
      have h273_ := MapAt.keep h216_ F270_ (Dis.sym d105_)
      have h274_ := Rd.keep' h262_ F270_ (Dis.sym d107_)
      have h275_ := Fr.keep F270_ h263_ (Dis.sym d108_)
      have h276_ := Fr.keep F270_ h261_ d133_
      have h277_ := Fr.keep F270_ h265_ d170_
      have h278_ := RowsAt.keep h266_ F270_ (Dis.or d170_ (Sub.dis Sub.arOne (Dis.sym d108_)))
      refine at_done (by kernel_rfl) ?_
      refine then_n ?_
      refine c_ret (by kernel_rfl) ?_
      refine fin_retL [.cell 4 25] [(.agg (hv (tagL (sB x.s) ([⟨(some ⟨b87_, 1, none⟩), 32, x.h⟩] : List BSl))))] (.agg (hv (tagL (sB x.s) ([⟨(some ⟨b87_, 1, none⟩), 32, x.h⟩] : List BSl)))) (by kernel_rfl) (by rfl) ⟨ResOne.cellN (off := 0) (n := 32) (vs := (hv (tagL (sB x.s) ([⟨(some ⟨b87_, 1, none⟩), 32, x.h⟩] : List BSl)))) (by kernel_rfl) (by kernel_rfl) (by kernel_rfl) h268_ (by kernel_rfl) (by kernel_rfl), trivial⟩ (by rfl) ?_
      have ek : addK ks x room = ks := if_pos (.inr (by rw [kvT_length] at *; omega))
      have h279_ : MapAt Tryd.prog 83 w267_ mb (kvT (addK ks x room)) := by rw [ek]; exact h273_
      exact ⟨rfl, h279_, T271_⟩

noncomputable def newmemo_c_R0 : Array Oper := rAt Tryd.prog 26 [0]
noncomputable def newmemo_c_R1 : Array Oper := rAt Tryd.prog 26 [1, 0]
set_option maxRecDepth 100000 in
theorem newmemo_c (room : Nat) (w : World) :
    Calls Tryd.prog 26 #[(.int .i64 (room : Int))] w fun e w' => ∃ (bm' : Nat), ∃ (mb' : Nat), ∃ (last_memo' : TKey), ∃ (found_memo' : List Nat), ∃ (asked_memo' : Bool), e = .returned (.pointer (some ⟨bm', 0, none⟩)) ∧ MemoAt Tryd.prog 83 85 w' bm' mb' room [] last_memo' found_memo' asked_memo' ∧ Fr w w' N0 ∧ New w N0 (Or2 (One bm') (One mb')) := by
  refine c_enter (mk 7 [(0, (.int .i64 (room : Int)))] (fun _ => undef)) Tryd.func26 (by kernel_rfl) (by kernel_rfl) ?_
  refine c_seq [0] [1] (by kernel_rfl) ?_
  refine c_reg 0 newmemo_c_R0 (by kernel_rfl) ?_
  refine at_pures 1 (by kernel_rfl) (by kernel_rfl) ?_
  refine at_done (by kernel_rfl) ?_
  refine then_n ?_
  refine c_seq [1, 0] [1, 1] (by kernel_rfl) ?_
  refine c_reg 1 newmemo_c_R1 (by kernel_rfl) ?_
  refine at_pures 1 (by kernel_rfl) (by kernel_rfl) ?_
  refine at_do (by kernel_rfl) (op_new (.map #[] 0) (fun N => .map (some N)) (fun _ => by kernel_rfl) (fun w2_ b1_ h3_ q4_ F5_ => ?_))
  have N6_ : New w N0 (One b1_) := New.made q4_ (Fr.size (Fr.refl w N0))
  have T7_ := Fr.tr (Fr.refl w N0) F5_
  have h8_ : MapAt Tryd.prog 83 w2_ b1_ [] := MapAt.nil h3_
  refine at_pures 3 (by kernel_rfl) (by kernel_rfl) ?_
  refine at_do (by kernel_rfl) (op_new (.cells #[(.int .i64 (room : Int)), (.map (some b1_)), (.string (⟨#[]⟩ : ByteArray)), (.int .u8 0), (.int .u8 0), (.int .u8 0), (.int .u8 0), (.int .u8 0), (.int .u8 0), (.int .u8 0), (.int .u8 0), (.int .u8 0), (.int .u8 0), (.int .u8 0), (.int .u8 0), (.int .u8 0), (.int .u8 0), (.int .u8 0), (.int .u8 0), (.int .u8 0), (.int .u8 0), (.int .u8 0), (.int .u8 0), (.int .u8 0), (.int .u8 0), (.int .u8 0), (.int .u8 0), (.int .u8 0), (.int .u8 0), (.int .u8 0), (.int .u8 0), (.int .u8 0), (.int .u8 0), (.int .u8 0), (.int .u8 0), (.int .u8 0), (.int .u8 0), (.int .u8 0), (.int .u8 0), (.int .u8 0), (.int .u8 0), (.int .u8 0), (.int .u8 0), (.int .u8 0), (.int .u8 0), (.int .u8 0), (.int .u8 0), (.int .u8 0), (.int .u8 0), (.int .u8 0), (.int .u8 0), (.int .u8 0), (.int .u8 0), (.int .u8 0), (.int .u8 0), (.int .u8 0), (.int .u8 0), (.int .u8 0), (.int .u8 0), (.int .u8 0), (.int .u8 0), (.int .u8 0), (.int .u8 0), (.int .u8 0), (.int .u8 0), (.int .u8 0), (.int .u8 0), (.bool false)] 85) (fun N => (.pointer (some ⟨N, 0, none⟩))) (fun _ => by kernel_rfl) (fun w10_ b9_ h11_ q12_ F13_ => ?_))
  have d14_ : Dis (One b9_) (One b1_) := Dis.fresh (New.one q12_) (MapAt.in h8_)
  have N15_ : New w N0 (One b9_) := New.made q12_ (Fr.size T7_)
  have T16_ := Fr.tr T7_ F13_
  refine at_pures 5 (by kernel_rfl) (by kernel_rfl) ?_
  refine at_done (by kernel_rfl) ?_
  refine then_n ?_
  refine c_ret (by kernel_rfl) ?_
  refine fin_ret (.pointer (some ⟨b9_, 0, none⟩)) (by kernel_rfl) (by kernel_rfl) ?_
  have h17_ := MapAt.keep h8_ F13_ Dis.n0
  have h18_ : MemoAt Tryd.prog 83 85 w10_ b9_ b1_ room [] K0 (List.replicate 32 0) false := ⟨cast (by kernel_rfl) h11_, h17_, d14_, fun h => by cases h⟩
  exact ⟨b9_, b1_, K0, (List.replicate 32 0), false, rfl, h18_, T16_, (New.two N15_ N6_)⟩

noncomputable def known_c_R0 : Array Oper := rAt Tryd.prog 28 [0]
noncomputable def known_c_R1 : Array Oper := rAt Tryd.prog 28 [1, 0]
set_option maxRecDepth 100000 in
theorem known_c (bm : Nat) (mb : Nat) (room : Nat) (ks : List TKey) (last : TKey) (found : List Nat) (asked : Bool) (w : World) (h_memo : MemoAt Tryd.prog 83 85 w bm mb room ks last found asked) :
    Calls Tryd.prog 28 #[(.pointer (some ⟨bm, 0, none⟩))] w fun e w' => e = .returned (.int .i64 (ks.length : Int)) ∧ Fr w w' N0 := by
  have hmb := MemoAt.blk h_memo; have hmm := MemoAt.map h_memo; have hmd := MemoAt.dis h_memo; have hinv := MemoAt.inv h_memo
  refine c_enter (mk 8 [(0, (.pointer (some ⟨bm, 0, none⟩)))] (fun _ => undef)) Tryd.func28 (by kernel_rfl) (by kernel_rfl) ?_
  refine c_seq [0] [1] (by kernel_rfl) ?_
  refine c_reg 0 known_c_R0 (by kernel_rfl) ?_
  refine at_pures 1 (by kernel_rfl) (by kernel_rfl) ?_
  refine at_done (by kernel_rfl) ?_
  refine then_n ?_
  refine c_seq [1, 0] [1, 1] (by kernel_rfl) ?_
  refine c_reg 1 known_c_R1 (by kernel_rfl) ?_
  refine at_pures 3 (by kernel_rfl) (by kernel_rfl) ?_
  refine at_load1 81 (.tmp 5) bm 1 _ _ _ (.map (some mb)) (by kernel_rfl) (by kernel_rfl) (by kernel_rfl) (by kernel_rfl) hmb (by kernel_rfl) ?_
  refine at_run (.int .i64 ((kvT ks).length : Int)) _ (by kernel_rfl) (run_lenMap (t := 81) (e := 25) (.tmp 6) (by kernel_rfl) (by kernel_rfl) (by kernel_rfl) hmm) ?_
  refine at_pures 6 (by kernel_rfl) (by kernel_rfl) ?_
  refine at_done (by kernel_rfl) ?_
  refine then_n ?_
  refine c_ret (by kernel_rfl) ?_
  refine fin_ret (.int .i64 ((kvT ks).length : Int)) (by kernel_rfl) (by kernel_rfl) ?_
  exact ⟨(by rw [kvT_length]), (Fr.refl w N0)⟩

noncomputable def memoof_c_R0 : Array Oper := rAt Tryd.prog 27 [0]
noncomputable def memoof_c_R1 : Array Oper := rAt Tryd.prog 27 [1, 0]
noncomputable def memoof_c_R2 : Array Oper := rAt Tryd.prog 27 [1, 1, 0, 0]
def memoof_c_sk2 : Nat → Bool := fun i => decide (i ∈ [10])
def memoof_c_pl2 : List (Nat × PK) := [(0, .q false), (1, .q false), (2, .q false), (3, .q true), (4, .q false), (5, .q false), (6, .q false), (7, .q false), (8, .q false), (9, .q true), (10, .q true), (11, .q false), (12, .q false)]
noncomputable def memoof_c_R3 : Array Oper := rAt Tryd.prog 27 [1, 1, 0, 1, 0]
def memoof_c_sk3 : Nat → Bool := fun i => decide (i ∈ [4, 5, 6])
def memoof_c_pl3 : List (Nat × PK) := [(0, .q false), (1, .q false), (2, .q false), (3, .q true), (4, .q false), (5, .q true), (6, .e), (7, .q false), (8, .q false), (9, .e), (10, .q false), (11, .q false), (12, .e), (13, .q false), (14, .q false), (15, .e)]
noncomputable def memoof_c_R4 : Array Oper := rAt Tryd.prog 27 [1, 1, 1, 0]
set_option maxRecDepth 100000 in
theorem memoof_c (bm : Nat) (mb : Nat) (room : Nat) (ks : List TKey) (last : TKey) (found : List Nat) (asked : Bool) (x : TKey) (w : World) (h_memo : MemoAt Tryd.prog 83 85 w bm mb room ks last found asked) (h_ks1 : Rd w (some ⟨1, 0, none⟩) ((hw KL).toList)) (d_ks1_memo : Dis (Ar (some ⟨1, 0, none⟩) ((hw KL).toList)) (Or2 (One bm) (One mb))) (hr : room ≤ 9223372036854775807) (hk : ks.length ≤ 1000000) :
    Calls Tryd.prog 27 #[(.pointer (some ⟨bm, 0, none⟩)), (.string x.s), (.agg (hv x.h))] w fun e w' => ∃ (last_memo' : TKey), ∃ (found_memo' : List Nat), ∃ (asked_memo' : Bool), e = .returned (.agg (hv (tagK x))) ∧ MemoAt Tryd.prog 83 85 w' bm mb room (addK ks x room) last_memo' found_memo' asked_memo' ∧ Fr w w' (Or2 (One bm) (One mb)) ∧ New w (Or2 (One bm) (One mb)) (Or2 (One bm) (One mb)) := by
  rcases memo3 asked last x with ha | ⟨ha, he⟩ | ⟨ha, he⟩
  · -- not asked yet
    subst ha
    have hmb := MemoAt.blk h_memo; have hmm := MemoAt.map h_memo; have hmd := MemoAt.dis h_memo; have hinv := MemoAt.inv h_memo
    refine c_enter (mk 41 [(0, (.pointer (some ⟨bm, 0, none⟩))), (1, (.string x.s)), (2, (.agg (hv x.h)))] (fun _ => undef)) Tryd.func27 (by kernel_rfl) (by kernel_rfl) ?_
    refine c_seq [0] [1] (by kernel_rfl) ?_
    refine c_reg 0 memoof_c_R0 (by kernel_rfl) ?_
    refine at_do (by kernel_rfl) (op_new (.cells (hv x.h) 25) (fun N => (.pointer (some ⟨N, 0, none⟩))) (fun _ => by kernel_rfl) (fun w2_ b1_ h3_ q4_ F5_ => ?_))
    have d6_ : Dis (One b1_) (One bm) := Dis.fresh (New.one q4_) (In.one hmb)
    have d7_ : Dis (One b1_) (One mb) := Dis.fresh (New.one q4_) (MapAt.in hmm)
    have d8_ : Dis (One b1_) (Ar (some ⟨1, 0, none⟩) ((hw KL).toList)) := Dis.fresh (New.one q4_) (Rd.in h_ks1)
    have N9_ : New w (Or2 (One bm) (One mb)) (One b1_) := New.made q4_ (Fr.size (Fr.refl w (Or2 (One bm) (One mb))))
    have T10_ := Fr.tr (Fr.refl w (Or2 (One bm) (One mb))) F5_
    refine at_do (by kernel_rfl) (op_new (.cells #[(.int .u8 0), (.int .u8 0), (.int .u8 0), (.int .u8 0), (.int .u8 0), (.int .u8 0), (.int .u8 0), (.int .u8 0), (.int .u8 0), (.int .u8 0), (.int .u8 0), (.int .u8 0), (.int .u8 0), (.int .u8 0), (.int .u8 0), (.int .u8 0), (.int .u8 0), (.int .u8 0), (.int .u8 0), (.int .u8 0), (.int .u8 0), (.int .u8 0), (.int .u8 0), (.int .u8 0), (.int .u8 0), (.int .u8 0), (.int .u8 0), (.int .u8 0), (.int .u8 0), (.int .u8 0), (.int .u8 0), (.int .u8 0)] 25) (fun N => (.pointer (some ⟨N, 0, none⟩))) (fun _ => by kernel_rfl) (fun w12_ b11_ h13_ q14_ F15_ => ?_))
    have h16_ := Fr.keep F5_ hmb Dis.n0
    have d17_ : Dis (One b11_) (One bm) := Dis.fresh (New.one q14_) (In.one h16_)
    have h18_ := MapAt.keep hmm F5_ Dis.n0
    have d19_ : Dis (One b11_) (One mb) := Dis.fresh (New.one q14_) (MapAt.in h18_)
    have h20_ := Rd.keep' h_ks1 F5_ Dis.n0
    have d21_ : Dis (One b11_) (Ar (some ⟨1, 0, none⟩) ((hw KL).toList)) := Dis.fresh (New.one q14_) (Rd.in h20_)
    have d22_ : Dis (One b11_) (One b1_) := Dis.fresh (New.one q14_) (In.one h3_)
    have N23_ : New w (Or2 (One bm) (One mb)) (One b11_) := New.made q14_ (Fr.size T10_)
    have T24_ := Fr.tr T10_ F15_
    refine at_done (by kernel_rfl) ?_
    refine then_n ?_
    refine c_seq [1, 0] [1, 1] (by kernel_rfl) ?_
    refine c_reg 1 memoof_c_R1 (by kernel_rfl) ?_
    refine at_pures 1 (by kernel_rfl) (by kernel_rfl) ?_
    have h25_ := Fr.keep F15_ h3_ Dis.n0
    refine at_loadN 25 (.tmp 5) b1_ 0 32 _ _ _ (hv x.h) (by kernel_rfl) (by kernel_rfl) (by kernel_rfl) (by kernel_rfl) (by kernel_rfl) h25_ (by kernel_rfl) (by kernel_rfl) ?_
    refine at_pures 3 (by kernel_rfl) (by kernel_rfl) ?_
    refine at_do (by kernel_rfl) (op_new (.cells #[(.string (⟨#[]⟩ : ByteArray)), (.int .u8 0), (.int .u8 0), (.int .u8 0), (.int .u8 0), (.int .u8 0), (.int .u8 0), (.int .u8 0), (.int .u8 0), (.int .u8 0), (.int .u8 0), (.int .u8 0), (.int .u8 0), (.int .u8 0), (.int .u8 0), (.int .u8 0), (.int .u8 0), (.int .u8 0), (.int .u8 0), (.int .u8 0), (.int .u8 0), (.int .u8 0), (.int .u8 0), (.int .u8 0), (.int .u8 0), (.int .u8 0), (.int .u8 0), (.int .u8 0), (.int .u8 0), (.int .u8 0), (.int .u8 0), (.int .u8 0), (.int .u8 0)] 83) (fun N => (.pointer (some ⟨N, 0, none⟩))) (fun _ => by kernel_rfl) (fun w27_ b26_ h28_ q29_ F30_ => ?_))
    have h31_ := Fr.keep F15_ h16_ Dis.n0
    have d32_ : Dis (One b26_) (One bm) := Dis.fresh (New.one q29_) (In.one h31_)
    have h33_ := MapAt.keep h18_ F15_ Dis.n0
    have d34_ : Dis (One b26_) (One mb) := Dis.fresh (New.one q29_) (MapAt.in h33_)
    have h35_ := Rd.keep' h20_ F15_ Dis.n0
    have d36_ : Dis (One b26_) (Ar (some ⟨1, 0, none⟩) ((hw KL).toList)) := Dis.fresh (New.one q29_) (Rd.in h35_)
    have d37_ : Dis (One b26_) (One b1_) := Dis.fresh (New.one q29_) (In.one h25_)
    have d38_ : Dis (One b26_) (One b11_) := Dis.fresh (New.one q29_) (In.one h13_)
    have N39_ : New w (Or2 (One bm) (One mb)) (One b26_) := New.made q29_ (Fr.size T24_)
    have T40_ := Fr.tr T24_ F30_
    have h41_ := Fr.keep F30_ h31_ Dis.n0
    have h42_ := MapAt.keep h33_ F30_ Dis.n0
    have h43_ := Rd.keep' h35_ F30_ Dis.n0
    have h44_ := Fr.keep F30_ h25_ Dis.n0
    have h45_ := Fr.keep F30_ h13_ Dis.n0
    refine at_do (by kernel_rfl) (op_store 83 (.tmp 7) (.tmp 10) b26_ 0 (.agg (aj #[(.string x.s)] (hv x.h))) _ _ (aj #[(.string x.s)] (hv x.h)) (by kernel_rfl) (by kernel_rfl) (by kernel_rfl) h28_ (by kernel_rfl) (by kernel_rfl) (by kernel_rfl) (by kernel_rfl) (fun w46_ h47_ z48_ F49_ => ?_))
    have T50_ := Fr.then T40_ F49_ N39_
    have h51_ := Fr.keep F49_ h41_ (Dis.sym d32_)
    have h52_ := MapAt.keep h42_ F49_ (Dis.sym d34_)
    have h53_ := Rd.keep' h43_ F49_ (Dis.sym d36_)
    have h54_ := Fr.keep F49_ h44_ (Dis.sym d37_)
    have h55_ := Fr.keep F49_ h45_ (Dis.sym d38_)
    have h56_ : w46_.heap[b26_]? = some (.cells (TKey.cells x) 83 (0, 0)) := h47_
    refine at_done (by kernel_rfl) ?_
    refine then_n ?_
    refine c_seq [1, 1, 0] [1, 1, 1] (by kernel_rfl) ?_
    refine c_seq [1, 1, 0, 0] [1, 1, 0, 1] (by kernel_rfl) ?_
    refine c_plan 2 memoof_c_R2 (fun w' => w'.heap[bm]? = some (.cells (memC room mb last found false) 85 (0, 0)) ∧ True) memoof_c_sk2 memoof_c_pl2 (by kernel_rfl) (by kernel_rfl) (by kernel_rfl) (by kernel_rfl) (by kernel_rfl) (fun w57_ F58_ => ?_)
    have T59_ := Fr.tr T50_ F58_
    have h61_ := Fr.keep F58_ h51_ Dis.n0
    have S60_ : w57_.heap[bm]? = some (.cells (memC room mb last found false) 85 (0, 0)) ∧ True := ⟨h61_, trivial⟩
    refine pl_pures 3 (by kernel_rfl) (by kernel_rfl) (off (by kernel_rfl)) ?_
    refine pl_read 3 (.bool false) (by kernel_rfl) (by kernel_rfl) (fun w' hs => run_load1 4 (.tmp 13) bm 67 _ _ _ (.bool false) (by kernel_rfl) (by kernel_rfl) (by kernel_rfl) hs.1 (by kernel_rfl)) S60_ ?_
    refine pl_pures 9 (by kernel_rfl) (by kernel_rfl) (off (by kernel_rfl)) ?_
    refine pl_roff 9 (by kernel_rfl) (by kernel_rfl) (by kernel_rfl) S60_ ?_
    refine pl_roff 10 (by kernel_rfl) (by kernel_rfl) (by kernel_rfl) S60_ ?_
    refine pl_pures 13 (by kernel_rfl) (by kernel_rfl) (off (by kernel_rfl)) ?_
    refine pl_done (by kernel_rfl) ?_
    refine then_n ?_
    refine c_then (.tmp 23) [1, 1, 0, 1, 0] [1, 1, 0, 1, 1] (by kernel_rfl) (by kernel_rfl) ?_
    refine c_plan 3 memoof_c_R3 (fun w' => w'.heap[b26_]? = some (.cells (TKey.cells x) 83 (0, 0)) ∧ True) memoof_c_sk3 memoof_c_pl3 (by kernel_rfl) (by kernel_rfl) (by kernel_rfl) (by kernel_rfl) (by kernel_rfl) (fun w62_ F63_ => ?_)
    have T64_ := Fr.tr T59_ F63_
    have h66_ := Fr.keep F58_ h56_ Dis.n0
    have h67_ := Fr.keep F63_ h66_ Dis.n0
    have S65_ : w62_.heap[b26_]? = some (.cells (TKey.cells x) 83 (0, 0)) ∧ True := ⟨h67_, trivial⟩
    refine pl_pures 3 (by kernel_rfl) (by kernel_rfl) (off (by kernel_rfl)) ?_
    refine pl_read 3 (.agg (TKey.cells x)) (by kernel_rfl) (by kernel_rfl) (fun w' hs => run_loadN 83 (.tmp 7) b26_ 0 33 _ _ _ (TKey.cells x) (by kernel_rfl) (by kernel_rfl) (by kernel_rfl) (by kernel_rfl) hs.1 (by kernel_rfl) (by kernel_rfl)) S65_ ?_
    refine pl_pures 5 (by kernel_rfl) (by kernel_rfl) (fun _ => S65_) ?_
    refine pl_read 5 (.agg (TKey.cells x)) (by kernel_rfl) (by kernel_rfl) (fun w' hs => run_loadN 83 (.tmp 7) b26_ 0 33 _ _ _ (TKey.cells x) (by kernel_rfl) (by kernel_rfl) (by kernel_rfl) (by kernel_rfl) hs.1 (by kernel_rfl) (by kernel_rfl)) S65_ ?_
    have h68_ := Fr.keep F63_ h61_ Dis.n0
    have h69_ := MapAt.keep h52_ F58_ Dis.n0
    have h70_ := MapAt.keep h69_ F63_ Dis.n0
    have h71_ := Rd.keep' h53_ F58_ Dis.n0
    have h72_ := Rd.keep' h71_ F63_ Dis.n0
    have h73_ := Fr.keep F58_ h54_ Dis.n0
    have h74_ := Fr.keep F63_ h73_ Dis.n0
    have h75_ := Fr.keep F58_ h55_ Dis.n0
    have h76_ := Fr.keep F63_ h75_ Dis.n0
    refine pl_do 6 (by kernel_rfl) (by kernel_rfl) (op_call 41 #[(.tmp 28), (.tmp 29)] #[(.pointer (some ⟨bm, 0, none⟩)), (.agg (TKey.cells x))] (by kernel_rfl) (by kernel_rfl) (by kernel_rfl) ?_)
    have C82_ := look_c bm mb room ks x last found false w62_ h68_ h70_ h72_ (Dis.sym hmd) (Dis.sym (Dis.right (Dis.sym d_ks1_memo))) (by first | omega | with_reducible assumption | (simp only [List.length_append, List.length_cons, List.length_nil, putB_length]; omega) | decide) (by first | omega | with_reducible assumption | (simp only [List.length_append, List.length_cons, List.length_nil, putB_length]; omega) | decide)
    refine Calls.mono C82_ ?_
    rintro e81_ w79_ ⟨rfl, h77_, F80_⟩
    refine ⟨_, rfl, ?_⟩
    have T83_ := Fr.then T64_ F80_ (New.right (New.refl w (Or2 (One bm) (One mb))))
    have h84_ := Fr.keep F80_ h68_ hmd
    have h85_ := Rd.keep' h72_ F80_ (Dis.sym (Dis.right (Dis.sym d_ks1_memo)))
    have h86_ := Fr.keep F80_ h74_ d7_
    have h87_ := Fr.keep F80_ h76_ d19_
    have h88_ := Fr.keep F80_ h67_ d34_
    have S89_ : w79_.heap[b26_]? = some (.cells (TKey.cells x) 83 (0, 0)) ∧ True := ⟨h88_, trivial⟩
    refine ⟨fun _ => S89_, ?_⟩
    refine pl_pures 9 (by kernel_rfl) (by kernel_rfl) (off (by kernel_rfl)) ?_
    refine pl_do 9 (by kernel_rfl) (by kernel_rfl) (op_store 83 (.tmp 32) (.tmp 27) bm 2 (.agg (TKey.cells x)) _ _ (aj (aj (aj #[(.int .i64 (room : Int)), (.map (some mb))] (TKey.cells x)) (hv found)) #[(.bool false)]) (by kernel_rfl) (by kernel_rfl) (by kernel_rfl) h84_ (by kernel_rfl) (by kernel_rfl) (by kernel_rfl) (by kernel_rfl) (fun w90_ h91_ z92_ F93_ => ?_))
    have T94_ := Fr.then T83_ F93_ (New.left (New.refl w (Or2 (One bm) (One mb))))
    have h95_ := MapAt.keep h77_ F93_ (Dis.sym hmd)
    have h96_ := Rd.keep' h85_ F93_ (Dis.sym (Dis.left (Dis.sym d_ks1_memo)))
    have h97_ := Fr.keep F93_ h86_ d6_
    have h98_ := Fr.keep F93_ h87_ d17_
    have h99_ := Fr.keep F93_ h88_ d32_
    refine ⟨off (by kernel_rfl), ?_⟩
    refine pl_pures 12 (by kernel_rfl) (by kernel_rfl) (off (by kernel_rfl)) ?_
    refine pl_do 12 (by kernel_rfl) (by kernel_rfl) (op_store 25 (.tmp 34) (.tmp 30) bm 35 (.agg (hv (tagK x))) _ _ (aj (aj (aj #[(.int .i64 (room : Int)), (.map (some mb))] (TKey.cells x)) (hv (tagK x))) #[(.bool false)]) (by kernel_rfl) (by kernel_rfl) (by kernel_rfl) h91_ (by kernel_rfl) (by kernel_rfl) (by kernel_rfl) (by kernel_rfl) (fun w100_ h101_ z102_ F103_ => ?_))
    have T104_ := Fr.then T94_ F103_ (New.left (New.refl w (Or2 (One bm) (One mb))))
    have h105_ := MapAt.keep h95_ F103_ (Dis.sym hmd)
    have h106_ := Rd.keep' h96_ F103_ (Dis.sym (Dis.left (Dis.sym d_ks1_memo)))
    have h107_ := Fr.keep F103_ h97_ d6_
    have h108_ := Fr.keep F103_ h98_ d17_
    have h109_ := Fr.keep F103_ h99_ d32_
    refine ⟨off (by kernel_rfl), ?_⟩
    refine pl_pures 15 (by kernel_rfl) (by kernel_rfl) (off (by kernel_rfl)) ?_
    refine pl_do 15 (by kernel_rfl) (by kernel_rfl) (op_store 4 (.tmp 36) (.const (.bool true)) bm 67 (.bool true) _ _ (aj (aj (aj #[(.int .i64 (room : Int)), (.map (some mb))] (TKey.cells x)) (hv (tagK x))) #[(.bool true)]) (by kernel_rfl) (by kernel_rfl) (by kernel_rfl) h101_ (by kernel_rfl) (by kernel_rfl) (by kernel_rfl) (by kernel_rfl) (fun w110_ h111_ z112_ F113_ => ?_))
    have T114_ := Fr.then T104_ F113_ (New.left (New.refl w (Or2 (One bm) (One mb))))
    have h115_ := MapAt.keep h105_ F113_ (Dis.sym hmd)
    have h116_ := Rd.keep' h106_ F113_ (Dis.sym (Dis.left (Dis.sym d_ks1_memo)))
    have h117_ := Fr.keep F113_ h107_ d6_
    have h118_ := Fr.keep F113_ h108_ d17_
    have h119_ := Fr.keep F113_ h109_ d32_
    refine ⟨off (by kernel_rfl), ?_⟩
    refine pl_done (by kernel_rfl) ?_
    refine then_n ?_
    refine c_seq [1, 1, 1, 0] [1, 1, 1, 1] (by kernel_rfl) ?_
    refine c_reg 4 memoof_c_R4 (by kernel_rfl) ?_
    refine at_pures 3 (by kernel_rfl) (by kernel_rfl) ?_
    refine at_loadN 25 (.tmp 39) bm 35 32 _ _ _ (hv (tagK x)) (by kernel_rfl) (by kernel_rfl) (by kernel_rfl) (by kernel_rfl) (by kernel_rfl) h111_ (by kernel_rfl) (by kernel_rfl) ?_
    refine at_do (by kernel_rfl) (op_store 25 (.tmp 6) (.tmp 40) b11_ 0 (.agg (hv (tagK x))) _ _ (hv (tagK x)) (by kernel_rfl) (by kernel_rfl) (by kernel_rfl) h118_ (by kernel_rfl) (by kernel_rfl) (by kernel_rfl) (by kernel_rfl) (fun w120_ h121_ z122_ F123_ => ?_))
    have T124_ := Fr.then T114_ F123_ N23_
    have h125_ := Fr.keep F123_ h111_ (Dis.sym d17_)
    have h126_ := MapAt.keep h115_ F123_ (Dis.sym d19_)
    have h127_ := Rd.keep' h116_ F123_ (Dis.sym d21_)
    have h128_ := Fr.keep F123_ h117_ (Dis.sym d22_)
    have h129_ := Fr.keep F123_ h119_ d38_
    refine at_done (by kernel_rfl) ?_
    refine then_n ?_
    refine c_ret (by kernel_rfl) ?_
    refine fin_retL [.cell 6 25] [(.agg (hv (tagK x)))] (.agg (hv (tagK x))) (by kernel_rfl) (by rfl) ⟨ResOne.cellN (off := 0) (n := 32) (vs := (hv (tagK x))) (by kernel_rfl) (by kernel_rfl) (by kernel_rfl) h121_ (by kernel_rfl) (by kernel_rfl), trivial⟩ (by rfl) ?_
    have h130_ : MemoAt Tryd.prog 83 85 w120_ bm mb room (addK ks x room) x (tagK x) true := ⟨h125_, h126_, hmd, fun _ => ⟨rfl, addK_inv ks x room⟩⟩
    exact ⟨x, (tagK x), true, rfl, h130_, T124_, (New.refl w (Or2 (One bm) (One mb)))⟩
  · -- the same
    subst ha
    have hmb := MemoAt.blk h_memo; have hmm := MemoAt.map h_memo; have hmd := MemoAt.dis h_memo; have hinv := MemoAt.inv h_memo
    refine c_enter (mk 41 [(0, (.pointer (some ⟨bm, 0, none⟩))), (1, (.string x.s)), (2, (.agg (hv x.h)))] (fun _ => undef)) Tryd.func27 (by kernel_rfl) (by kernel_rfl) ?_
    refine c_seq [0] [1] (by kernel_rfl) ?_
    refine c_reg 0 memoof_c_R0 (by kernel_rfl) ?_
    refine at_do (by kernel_rfl) (op_new (.cells (hv x.h) 25) (fun N => (.pointer (some ⟨N, 0, none⟩))) (fun _ => by kernel_rfl) (fun w132_ b131_ h133_ q134_ F135_ => ?_))
    have d136_ : Dis (One b131_) (One bm) := Dis.fresh (New.one q134_) (In.one hmb)
    have d137_ : Dis (One b131_) (One mb) := Dis.fresh (New.one q134_) (MapAt.in hmm)
    have d138_ : Dis (One b131_) (Ar (some ⟨1, 0, none⟩) ((hw KL).toList)) := Dis.fresh (New.one q134_) (Rd.in h_ks1)
    have N139_ : New w (Or2 (One bm) (One mb)) (One b131_) := New.made q134_ (Fr.size (Fr.refl w (Or2 (One bm) (One mb))))
    have T140_ := Fr.tr (Fr.refl w (Or2 (One bm) (One mb))) F135_
    refine at_do (by kernel_rfl) (op_new (.cells #[(.int .u8 0), (.int .u8 0), (.int .u8 0), (.int .u8 0), (.int .u8 0), (.int .u8 0), (.int .u8 0), (.int .u8 0), (.int .u8 0), (.int .u8 0), (.int .u8 0), (.int .u8 0), (.int .u8 0), (.int .u8 0), (.int .u8 0), (.int .u8 0), (.int .u8 0), (.int .u8 0), (.int .u8 0), (.int .u8 0), (.int .u8 0), (.int .u8 0), (.int .u8 0), (.int .u8 0), (.int .u8 0), (.int .u8 0), (.int .u8 0), (.int .u8 0), (.int .u8 0), (.int .u8 0), (.int .u8 0), (.int .u8 0)] 25) (fun N => (.pointer (some ⟨N, 0, none⟩))) (fun _ => by kernel_rfl) (fun w142_ b141_ h143_ q144_ F145_ => ?_))
    have h146_ := Fr.keep F135_ hmb Dis.n0
    have d147_ : Dis (One b141_) (One bm) := Dis.fresh (New.one q144_) (In.one h146_)
    have h148_ := MapAt.keep hmm F135_ Dis.n0
    have d149_ : Dis (One b141_) (One mb) := Dis.fresh (New.one q144_) (MapAt.in h148_)
    have h150_ := Rd.keep' h_ks1 F135_ Dis.n0
    have d151_ : Dis (One b141_) (Ar (some ⟨1, 0, none⟩) ((hw KL).toList)) := Dis.fresh (New.one q144_) (Rd.in h150_)
    have d152_ : Dis (One b141_) (One b131_) := Dis.fresh (New.one q144_) (In.one h133_)
    have N153_ : New w (Or2 (One bm) (One mb)) (One b141_) := New.made q144_ (Fr.size T140_)
    have T154_ := Fr.tr T140_ F145_
    refine at_done (by kernel_rfl) ?_
    refine then_n ?_
    refine c_seq [1, 0] [1, 1] (by kernel_rfl) ?_
    refine c_reg 1 memoof_c_R1 (by kernel_rfl) ?_
    refine at_pures 1 (by kernel_rfl) (by kernel_rfl) ?_
    have h155_ := Fr.keep F145_ h133_ Dis.n0
    refine at_loadN 25 (.tmp 5) b131_ 0 32 _ _ _ (hv x.h) (by kernel_rfl) (by kernel_rfl) (by kernel_rfl) (by kernel_rfl) (by kernel_rfl) h155_ (by kernel_rfl) (by kernel_rfl) ?_
    refine at_pures 3 (by kernel_rfl) (by kernel_rfl) ?_
    refine at_do (by kernel_rfl) (op_new (.cells #[(.string (⟨#[]⟩ : ByteArray)), (.int .u8 0), (.int .u8 0), (.int .u8 0), (.int .u8 0), (.int .u8 0), (.int .u8 0), (.int .u8 0), (.int .u8 0), (.int .u8 0), (.int .u8 0), (.int .u8 0), (.int .u8 0), (.int .u8 0), (.int .u8 0), (.int .u8 0), (.int .u8 0), (.int .u8 0), (.int .u8 0), (.int .u8 0), (.int .u8 0), (.int .u8 0), (.int .u8 0), (.int .u8 0), (.int .u8 0), (.int .u8 0), (.int .u8 0), (.int .u8 0), (.int .u8 0), (.int .u8 0), (.int .u8 0), (.int .u8 0), (.int .u8 0)] 83) (fun N => (.pointer (some ⟨N, 0, none⟩))) (fun _ => by kernel_rfl) (fun w157_ b156_ h158_ q159_ F160_ => ?_))
    have h161_ := Fr.keep F145_ h146_ Dis.n0
    have d162_ : Dis (One b156_) (One bm) := Dis.fresh (New.one q159_) (In.one h161_)
    have h163_ := MapAt.keep h148_ F145_ Dis.n0
    have d164_ : Dis (One b156_) (One mb) := Dis.fresh (New.one q159_) (MapAt.in h163_)
    have h165_ := Rd.keep' h150_ F145_ Dis.n0
    have d166_ : Dis (One b156_) (Ar (some ⟨1, 0, none⟩) ((hw KL).toList)) := Dis.fresh (New.one q159_) (Rd.in h165_)
    have d167_ : Dis (One b156_) (One b131_) := Dis.fresh (New.one q159_) (In.one h155_)
    have d168_ : Dis (One b156_) (One b141_) := Dis.fresh (New.one q159_) (In.one h143_)
    have N169_ : New w (Or2 (One bm) (One mb)) (One b156_) := New.made q159_ (Fr.size T154_)
    have T170_ := Fr.tr T154_ F160_
    have h171_ := Fr.keep F160_ h161_ Dis.n0
    have h172_ := MapAt.keep h163_ F160_ Dis.n0
    have h173_ := Rd.keep' h165_ F160_ Dis.n0
    have h174_ := Fr.keep F160_ h155_ Dis.n0
    have h175_ := Fr.keep F160_ h143_ Dis.n0
    refine at_do (by kernel_rfl) (op_store 83 (.tmp 7) (.tmp 10) b156_ 0 (.agg (aj #[(.string x.s)] (hv x.h))) _ _ (aj #[(.string x.s)] (hv x.h)) (by kernel_rfl) (by kernel_rfl) (by kernel_rfl) h158_ (by kernel_rfl) (by kernel_rfl) (by kernel_rfl) (by kernel_rfl) (fun w176_ h177_ z178_ F179_ => ?_))
    have T180_ := Fr.then T170_ F179_ N169_
    have h181_ := Fr.keep F179_ h171_ (Dis.sym d162_)
    have h182_ := MapAt.keep h172_ F179_ (Dis.sym d164_)
    have h183_ := Rd.keep' h173_ F179_ (Dis.sym d166_)
    have h184_ := Fr.keep F179_ h174_ (Dis.sym d167_)
    have h185_ := Fr.keep F179_ h175_ (Dis.sym d168_)
    have h186_ : w176_.heap[b156_]? = some (.cells (TKey.cells x) 83 (0, 0)) := h177_
    refine at_done (by kernel_rfl) ?_
    refine then_n ?_
    refine c_seq [1, 1, 0] [1, 1, 1] (by kernel_rfl) ?_
    refine c_seq [1, 1, 0, 0] [1, 1, 0, 1] (by kernel_rfl) ?_
    refine c_plan 2 memoof_c_R2 (fun w' => w'.heap[bm]? = some (.cells (memC room mb last found true) 85 (0, 0)) ∧ w'.heap[b156_]? = some (.cells (TKey.cells x) 83 (0, 0)) ∧ True) memoof_c_sk2 memoof_c_pl2 (by kernel_rfl) (by kernel_rfl) (by kernel_rfl) (by kernel_rfl) (by kernel_rfl) (fun w187_ F188_ => ?_)
    have T189_ := Fr.tr T180_ F188_
    have h191_ := Fr.keep F188_ h181_ Dis.n0
    have h192_ := Fr.keep F188_ h186_ Dis.n0
    have S190_ : w187_.heap[bm]? = some (.cells (memC room mb last found true) 85 (0, 0)) ∧ w187_.heap[b156_]? = some (.cells (TKey.cells x) 83 (0, 0)) ∧ True := ⟨h191_, h192_, trivial⟩
    refine pl_pures 3 (by kernel_rfl) (by kernel_rfl) (off (by kernel_rfl)) ?_
    refine pl_read 3 (.bool true) (by kernel_rfl) (by kernel_rfl) (fun w' hs => run_load1 4 (.tmp 13) bm 67 _ _ _ (.bool true) (by kernel_rfl) (by kernel_rfl) (by kernel_rfl) hs.1 (by kernel_rfl)) S190_ ?_
    refine pl_pures 9 (by kernel_rfl) (by kernel_rfl) (off (by kernel_rfl)) ?_
    refine pl_read 9 (.agg (TKey.cells last)) (by kernel_rfl) (by kernel_rfl) (fun w' hs => run_loadN 83 (.tmp 19) bm 2 33 _ _ _ (TKey.cells last) (by kernel_rfl) (by kernel_rfl) (by kernel_rfl) (by kernel_rfl) hs.1 (by kernel_rfl) (by kernel_rfl)) S190_ ?_
    refine pl_read 10 (.agg (TKey.cells x)) (by kernel_rfl) (by kernel_rfl) (fun w' hs => run_loadN 83 (.tmp 7) b156_ 0 33 _ _ _ (TKey.cells x) (by kernel_rfl) (by kernel_rfl) (by kernel_rfl) (by kernel_rfl) hs.2.1 (by kernel_rfl) (by kernel_rfl)) S190_ ?_
    refine pl_quiet 11 (.bool false) (by kernel_rfl) (by kernel_rfl) (fun w' => by subst he; exact run_eqd_self false 9997 3 83 (.tmp 20) (.tmp 21) last.cells rfl (by kernel_rfl) (by kernel_rfl) (by kernel_rfl) (by kernel_rfl) (by kernel_rfl) (by kernel_rfl) (by kernel_rfl) (by kernel_rfl) last.wf) (off (by kernel_rfl)) ?_
    refine pl_pures 13 (by kernel_rfl) (by kernel_rfl) (off (by kernel_rfl)) ?_
    refine pl_done (by kernel_rfl) ?_
    refine then_n ?_
    refine c_else (.tmp 23) [1, 1, 0, 1, 0] [1, 1, 0, 1, 1] (by kernel_rfl) (by kernel_rfl) ?_
    refine c_skip (by kernel_rfl) ?_
    refine then_n ?_
    refine c_seq [1, 1, 1, 0] [1, 1, 1, 1] (by kernel_rfl) ?_
    refine c_reg 4 memoof_c_R4 (by kernel_rfl) ?_
    refine at_pures 3 (by kernel_rfl) (by kernel_rfl) ?_
    refine at_loadN 25 (.tmp 39) bm 35 32 _ _ _ (hv found) (by kernel_rfl) (by kernel_rfl) (by kernel_rfl) (by kernel_rfl) (by kernel_rfl) h191_ (by kernel_rfl) (by kernel_rfl) ?_
    have h193_ := MapAt.keep h182_ F188_ Dis.n0
    have h194_ := Rd.keep' h183_ F188_ Dis.n0
    have h195_ := Fr.keep F188_ h184_ Dis.n0
    have h196_ := Fr.keep F188_ h185_ Dis.n0
    refine at_do (by kernel_rfl) (op_store 25 (.tmp 6) (.tmp 40) b141_ 0 (.agg (hv found)) _ _ (hv found) (by kernel_rfl) (by kernel_rfl) (by kernel_rfl) h196_ (by kernel_rfl) (by kernel_rfl) (by kernel_rfl) (by kernel_rfl) (fun w197_ h198_ z199_ F200_ => ?_))
    have T201_ := Fr.then T189_ F200_ N153_
    have h202_ := Fr.keep F200_ h191_ (Dis.sym d147_)
    have h203_ := MapAt.keep h193_ F200_ (Dis.sym d149_)
    have h204_ := Rd.keep' h194_ F200_ (Dis.sym d151_)
    have h205_ := Fr.keep F200_ h195_ (Dis.sym d152_)
    have h206_ := Fr.keep F200_ h192_ d168_
    refine at_done (by kernel_rfl) ?_
    refine then_n ?_
    refine c_ret (by kernel_rfl) ?_
    refine fin_retL [.cell 6 25] [(.agg (hv found))] (.agg (hv found)) (by kernel_rfl) (by rfl) ⟨ResOne.cellN (off := 0) (n := 32) (vs := (hv found)) (by kernel_rfl) (by kernel_rfl) (by kernel_rfl) h198_ (by kernel_rfl) (by kernel_rfl), trivial⟩ (by rfl) ?_
    have ek : addK ks x room = ks := if_pos (he ▸ (hinv rfl).2)
    have h207_ : MemoAt Tryd.prog 83 85 w197_ bm mb room (addK ks x room) last found true := ⟨h202_, by rw [ek]; exact h203_, hmd, by rw [ek]; exact hinv⟩
    exact ⟨last, found, true, (by rw [(hinv rfl).1, he]), h207_, T201_, (New.refl w (Or2 (One bm) (One mb)))⟩
  · -- another
    subst ha
    have hmb := MemoAt.blk h_memo; have hmm := MemoAt.map h_memo; have hmd := MemoAt.dis h_memo; have hinv := MemoAt.inv h_memo
    refine c_enter (mk 41 [(0, (.pointer (some ⟨bm, 0, none⟩))), (1, (.string x.s)), (2, (.agg (hv x.h)))] (fun _ => undef)) Tryd.func27 (by kernel_rfl) (by kernel_rfl) ?_
    refine c_seq [0] [1] (by kernel_rfl) ?_
    refine c_reg 0 memoof_c_R0 (by kernel_rfl) ?_
    refine at_do (by kernel_rfl) (op_new (.cells (hv x.h) 25) (fun N => (.pointer (some ⟨N, 0, none⟩))) (fun _ => by kernel_rfl) (fun w209_ b208_ h210_ q211_ F212_ => ?_))
    have d213_ : Dis (One b208_) (One bm) := Dis.fresh (New.one q211_) (In.one hmb)
    have d214_ : Dis (One b208_) (One mb) := Dis.fresh (New.one q211_) (MapAt.in hmm)
    have d215_ : Dis (One b208_) (Ar (some ⟨1, 0, none⟩) ((hw KL).toList)) := Dis.fresh (New.one q211_) (Rd.in h_ks1)
    have N216_ : New w (Or2 (One bm) (One mb)) (One b208_) := New.made q211_ (Fr.size (Fr.refl w (Or2 (One bm) (One mb))))
    have T217_ := Fr.tr (Fr.refl w (Or2 (One bm) (One mb))) F212_
    refine at_do (by kernel_rfl) (op_new (.cells #[(.int .u8 0), (.int .u8 0), (.int .u8 0), (.int .u8 0), (.int .u8 0), (.int .u8 0), (.int .u8 0), (.int .u8 0), (.int .u8 0), (.int .u8 0), (.int .u8 0), (.int .u8 0), (.int .u8 0), (.int .u8 0), (.int .u8 0), (.int .u8 0), (.int .u8 0), (.int .u8 0), (.int .u8 0), (.int .u8 0), (.int .u8 0), (.int .u8 0), (.int .u8 0), (.int .u8 0), (.int .u8 0), (.int .u8 0), (.int .u8 0), (.int .u8 0), (.int .u8 0), (.int .u8 0), (.int .u8 0), (.int .u8 0)] 25) (fun N => (.pointer (some ⟨N, 0, none⟩))) (fun _ => by kernel_rfl) (fun w219_ b218_ h220_ q221_ F222_ => ?_))
    have h223_ := Fr.keep F212_ hmb Dis.n0
    have d224_ : Dis (One b218_) (One bm) := Dis.fresh (New.one q221_) (In.one h223_)
    have h225_ := MapAt.keep hmm F212_ Dis.n0
    have d226_ : Dis (One b218_) (One mb) := Dis.fresh (New.one q221_) (MapAt.in h225_)
    have h227_ := Rd.keep' h_ks1 F212_ Dis.n0
    have d228_ : Dis (One b218_) (Ar (some ⟨1, 0, none⟩) ((hw KL).toList)) := Dis.fresh (New.one q221_) (Rd.in h227_)
    have d229_ : Dis (One b218_) (One b208_) := Dis.fresh (New.one q221_) (In.one h210_)
    have N230_ : New w (Or2 (One bm) (One mb)) (One b218_) := New.made q221_ (Fr.size T217_)
    have T231_ := Fr.tr T217_ F222_
    refine at_done (by kernel_rfl) ?_
    refine then_n ?_
    refine c_seq [1, 0] [1, 1] (by kernel_rfl) ?_
    refine c_reg 1 memoof_c_R1 (by kernel_rfl) ?_
    refine at_pures 1 (by kernel_rfl) (by kernel_rfl) ?_
    have h232_ := Fr.keep F222_ h210_ Dis.n0
    refine at_loadN 25 (.tmp 5) b208_ 0 32 _ _ _ (hv x.h) (by kernel_rfl) (by kernel_rfl) (by kernel_rfl) (by kernel_rfl) (by kernel_rfl) h232_ (by kernel_rfl) (by kernel_rfl) ?_
    refine at_pures 3 (by kernel_rfl) (by kernel_rfl) ?_
    refine at_do (by kernel_rfl) (op_new (.cells #[(.string (⟨#[]⟩ : ByteArray)), (.int .u8 0), (.int .u8 0), (.int .u8 0), (.int .u8 0), (.int .u8 0), (.int .u8 0), (.int .u8 0), (.int .u8 0), (.int .u8 0), (.int .u8 0), (.int .u8 0), (.int .u8 0), (.int .u8 0), (.int .u8 0), (.int .u8 0), (.int .u8 0), (.int .u8 0), (.int .u8 0), (.int .u8 0), (.int .u8 0), (.int .u8 0), (.int .u8 0), (.int .u8 0), (.int .u8 0), (.int .u8 0), (.int .u8 0), (.int .u8 0), (.int .u8 0), (.int .u8 0), (.int .u8 0), (.int .u8 0), (.int .u8 0)] 83) (fun N => (.pointer (some ⟨N, 0, none⟩))) (fun _ => by kernel_rfl) (fun w234_ b233_ h235_ q236_ F237_ => ?_))
    have h238_ := Fr.keep F222_ h223_ Dis.n0
    have d239_ : Dis (One b233_) (One bm) := Dis.fresh (New.one q236_) (In.one h238_)
    have h240_ := MapAt.keep h225_ F222_ Dis.n0
    have d241_ : Dis (One b233_) (One mb) := Dis.fresh (New.one q236_) (MapAt.in h240_)
    have h242_ := Rd.keep' h227_ F222_ Dis.n0
    have d243_ : Dis (One b233_) (Ar (some ⟨1, 0, none⟩) ((hw KL).toList)) := Dis.fresh (New.one q236_) (Rd.in h242_)
    have d244_ : Dis (One b233_) (One b208_) := Dis.fresh (New.one q236_) (In.one h232_)
    have d245_ : Dis (One b233_) (One b218_) := Dis.fresh (New.one q236_) (In.one h220_)
    have N246_ : New w (Or2 (One bm) (One mb)) (One b233_) := New.made q236_ (Fr.size T231_)
    have T247_ := Fr.tr T231_ F237_
    have h248_ := Fr.keep F237_ h238_ Dis.n0
    have h249_ := MapAt.keep h240_ F237_ Dis.n0
    have h250_ := Rd.keep' h242_ F237_ Dis.n0
    have h251_ := Fr.keep F237_ h232_ Dis.n0
    have h252_ := Fr.keep F237_ h220_ Dis.n0
    refine at_do (by kernel_rfl) (op_store 83 (.tmp 7) (.tmp 10) b233_ 0 (.agg (aj #[(.string x.s)] (hv x.h))) _ _ (aj #[(.string x.s)] (hv x.h)) (by kernel_rfl) (by kernel_rfl) (by kernel_rfl) h235_ (by kernel_rfl) (by kernel_rfl) (by kernel_rfl) (by kernel_rfl) (fun w253_ h254_ z255_ F256_ => ?_))
    have T257_ := Fr.then T247_ F256_ N246_
    have h258_ := Fr.keep F256_ h248_ (Dis.sym d239_)
    have h259_ := MapAt.keep h249_ F256_ (Dis.sym d241_)
    have h260_ := Rd.keep' h250_ F256_ (Dis.sym d243_)
    have h261_ := Fr.keep F256_ h251_ (Dis.sym d244_)
    have h262_ := Fr.keep F256_ h252_ (Dis.sym d245_)
    have h263_ : w253_.heap[b233_]? = some (.cells (TKey.cells x) 83 (0, 0)) := h254_
    refine at_done (by kernel_rfl) ?_
    refine then_n ?_
    refine c_seq [1, 1, 0] [1, 1, 1] (by kernel_rfl) ?_
    refine c_seq [1, 1, 0, 0] [1, 1, 0, 1] (by kernel_rfl) ?_
    refine c_plan 2 memoof_c_R2 (fun w' => w'.heap[bm]? = some (.cells (memC room mb last found true) 85 (0, 0)) ∧ w'.heap[b233_]? = some (.cells (TKey.cells x) 83 (0, 0)) ∧ True) memoof_c_sk2 memoof_c_pl2 (by kernel_rfl) (by kernel_rfl) (by kernel_rfl) (by kernel_rfl) (by kernel_rfl) (fun w264_ F265_ => ?_)
    have T266_ := Fr.tr T257_ F265_
    have h268_ := Fr.keep F265_ h258_ Dis.n0
    have h269_ := Fr.keep F265_ h263_ Dis.n0
    have S267_ : w264_.heap[bm]? = some (.cells (memC room mb last found true) 85 (0, 0)) ∧ w264_.heap[b233_]? = some (.cells (TKey.cells x) 83 (0, 0)) ∧ True := ⟨h268_, h269_, trivial⟩
    refine pl_pures 3 (by kernel_rfl) (by kernel_rfl) (off (by kernel_rfl)) ?_
    refine pl_read 3 (.bool true) (by kernel_rfl) (by kernel_rfl) (fun w' hs => run_load1 4 (.tmp 13) bm 67 _ _ _ (.bool true) (by kernel_rfl) (by kernel_rfl) (by kernel_rfl) hs.1 (by kernel_rfl)) S267_ ?_
    refine pl_pures 9 (by kernel_rfl) (by kernel_rfl) (off (by kernel_rfl)) ?_
    refine pl_read 9 (.agg (TKey.cells last)) (by kernel_rfl) (by kernel_rfl) (fun w' hs => run_loadN 83 (.tmp 19) bm 2 33 _ _ _ (TKey.cells last) (by kernel_rfl) (by kernel_rfl) (by kernel_rfl) (by kernel_rfl) hs.1 (by kernel_rfl) (by kernel_rfl)) S267_ ?_
    refine pl_read 10 (.agg (TKey.cells x)) (by kernel_rfl) (by kernel_rfl) (fun w' hs => run_loadN 83 (.tmp 7) b233_ 0 33 _ _ _ (TKey.cells x) (by kernel_rfl) (by kernel_rfl) (by kernel_rfl) (by kernel_rfl) hs.2.1 (by kernel_rfl) (by kernel_rfl)) S267_ ?_
    refine pl_quiet 11 (.bool true) (by kernel_rfl) (by kernel_rfl) (fun w' => run_eqd_ne false 9997 3 83 (.tmp 20) (.tmp 21) last.cells x.cells rfl (by kernel_rfl) (by kernel_rfl) (by kernel_rfl) (by kernel_rfl) (by kernel_rfl) (by kernel_rfl) (by kernel_rfl) (by kernel_rfl) (by kernel_rfl) (by kernel_rfl) last.wf x.wf (fun e => he (TKey.inj e))) (off (by kernel_rfl)) ?_
    refine pl_pures 13 (by kernel_rfl) (by kernel_rfl) (off (by kernel_rfl)) ?_
    refine pl_done (by kernel_rfl) ?_
    refine then_n ?_
    refine c_then (.tmp 23) [1, 1, 0, 1, 0] [1, 1, 0, 1, 1] (by kernel_rfl) (by kernel_rfl) ?_
    refine c_plan 3 memoof_c_R3 (fun w' => w'.heap[b233_]? = some (.cells (TKey.cells x) 83 (0, 0)) ∧ True) memoof_c_sk3 memoof_c_pl3 (by kernel_rfl) (by kernel_rfl) (by kernel_rfl) (by kernel_rfl) (by kernel_rfl) (fun w270_ F271_ => ?_)
    have T272_ := Fr.tr T266_ F271_
    have h274_ := Fr.keep F271_ h269_ Dis.n0
    have S273_ : w270_.heap[b233_]? = some (.cells (TKey.cells x) 83 (0, 0)) ∧ True := ⟨h274_, trivial⟩
    refine pl_pures 3 (by kernel_rfl) (by kernel_rfl) (off (by kernel_rfl)) ?_
    refine pl_read 3 (.agg (TKey.cells x)) (by kernel_rfl) (by kernel_rfl) (fun w' hs => run_loadN 83 (.tmp 7) b233_ 0 33 _ _ _ (TKey.cells x) (by kernel_rfl) (by kernel_rfl) (by kernel_rfl) (by kernel_rfl) hs.1 (by kernel_rfl) (by kernel_rfl)) S273_ ?_
    refine pl_pures 5 (by kernel_rfl) (by kernel_rfl) (fun _ => S273_) ?_
    refine pl_read 5 (.agg (TKey.cells x)) (by kernel_rfl) (by kernel_rfl) (fun w' hs => run_loadN 83 (.tmp 7) b233_ 0 33 _ _ _ (TKey.cells x) (by kernel_rfl) (by kernel_rfl) (by kernel_rfl) (by kernel_rfl) hs.1 (by kernel_rfl) (by kernel_rfl)) S273_ ?_
    have h275_ := Fr.keep F271_ h268_ Dis.n0
    have h276_ := MapAt.keep h259_ F265_ Dis.n0
    have h277_ := MapAt.keep h276_ F271_ Dis.n0
    have h278_ := Rd.keep' h260_ F265_ Dis.n0
    have h279_ := Rd.keep' h278_ F271_ Dis.n0
    have h280_ := Fr.keep F265_ h261_ Dis.n0
    have h281_ := Fr.keep F271_ h280_ Dis.n0
    have h282_ := Fr.keep F265_ h262_ Dis.n0
    have h283_ := Fr.keep F271_ h282_ Dis.n0
    refine pl_do 6 (by kernel_rfl) (by kernel_rfl) (op_call 41 #[(.tmp 28), (.tmp 29)] #[(.pointer (some ⟨bm, 0, none⟩)), (.agg (TKey.cells x))] (by kernel_rfl) (by kernel_rfl) (by kernel_rfl) ?_)
    have C289_ := look_c bm mb room ks x last found true w270_ h275_ h277_ h279_ (Dis.sym hmd) (Dis.sym (Dis.right (Dis.sym d_ks1_memo))) (by first | omega | with_reducible assumption | (simp only [List.length_append, List.length_cons, List.length_nil, putB_length]; omega) | decide) (by first | omega | with_reducible assumption | (simp only [List.length_append, List.length_cons, List.length_nil, putB_length]; omega) | decide)
    refine Calls.mono C289_ ?_
    rintro e288_ w286_ ⟨rfl, h284_, F287_⟩
    refine ⟨_, rfl, ?_⟩
    have T290_ := Fr.then T272_ F287_ (New.right (New.refl w (Or2 (One bm) (One mb))))
    have h291_ := Fr.keep F287_ h275_ hmd
    have h292_ := Rd.keep' h279_ F287_ (Dis.sym (Dis.right (Dis.sym d_ks1_memo)))
    have h293_ := Fr.keep F287_ h281_ d214_
    have h294_ := Fr.keep F287_ h283_ d226_
    have h295_ := Fr.keep F287_ h274_ d241_
    have S296_ : w286_.heap[b233_]? = some (.cells (TKey.cells x) 83 (0, 0)) ∧ True := ⟨h295_, trivial⟩
    refine ⟨fun _ => S296_, ?_⟩
    refine pl_pures 9 (by kernel_rfl) (by kernel_rfl) (off (by kernel_rfl)) ?_
    refine pl_do 9 (by kernel_rfl) (by kernel_rfl) (op_store 83 (.tmp 32) (.tmp 27) bm 2 (.agg (TKey.cells x)) _ _ (aj (aj (aj #[(.int .i64 (room : Int)), (.map (some mb))] (TKey.cells x)) (hv found)) #[(.bool true)]) (by kernel_rfl) (by kernel_rfl) (by kernel_rfl) h291_ (by kernel_rfl) (by kernel_rfl) (by kernel_rfl) (by kernel_rfl) (fun w297_ h298_ z299_ F300_ => ?_))
    have T301_ := Fr.then T290_ F300_ (New.left (New.refl w (Or2 (One bm) (One mb))))
    have h302_ := MapAt.keep h284_ F300_ (Dis.sym hmd)
    have h303_ := Rd.keep' h292_ F300_ (Dis.sym (Dis.left (Dis.sym d_ks1_memo)))
    have h304_ := Fr.keep F300_ h293_ d213_
    have h305_ := Fr.keep F300_ h294_ d224_
    have h306_ := Fr.keep F300_ h295_ d239_
    refine ⟨off (by kernel_rfl), ?_⟩
    refine pl_pures 12 (by kernel_rfl) (by kernel_rfl) (off (by kernel_rfl)) ?_
    refine pl_do 12 (by kernel_rfl) (by kernel_rfl) (op_store 25 (.tmp 34) (.tmp 30) bm 35 (.agg (hv (tagK x))) _ _ (aj (aj (aj #[(.int .i64 (room : Int)), (.map (some mb))] (TKey.cells x)) (hv (tagK x))) #[(.bool true)]) (by kernel_rfl) (by kernel_rfl) (by kernel_rfl) h298_ (by kernel_rfl) (by kernel_rfl) (by kernel_rfl) (by kernel_rfl) (fun w307_ h308_ z309_ F310_ => ?_))
    have T311_ := Fr.then T301_ F310_ (New.left (New.refl w (Or2 (One bm) (One mb))))
    have h312_ := MapAt.keep h302_ F310_ (Dis.sym hmd)
    have h313_ := Rd.keep' h303_ F310_ (Dis.sym (Dis.left (Dis.sym d_ks1_memo)))
    have h314_ := Fr.keep F310_ h304_ d213_
    have h315_ := Fr.keep F310_ h305_ d224_
    have h316_ := Fr.keep F310_ h306_ d239_
    refine ⟨off (by kernel_rfl), ?_⟩
    refine pl_pures 15 (by kernel_rfl) (by kernel_rfl) (off (by kernel_rfl)) ?_
    refine pl_do 15 (by kernel_rfl) (by kernel_rfl) (op_store 4 (.tmp 36) (.const (.bool true)) bm 67 (.bool true) _ _ (aj (aj (aj #[(.int .i64 (room : Int)), (.map (some mb))] (TKey.cells x)) (hv (tagK x))) #[(.bool true)]) (by kernel_rfl) (by kernel_rfl) (by kernel_rfl) h308_ (by kernel_rfl) (by kernel_rfl) (by kernel_rfl) (by kernel_rfl) (fun w317_ h318_ z319_ F320_ => ?_))
    have T321_ := Fr.then T311_ F320_ (New.left (New.refl w (Or2 (One bm) (One mb))))
    have h322_ := MapAt.keep h312_ F320_ (Dis.sym hmd)
    have h323_ := Rd.keep' h313_ F320_ (Dis.sym (Dis.left (Dis.sym d_ks1_memo)))
    have h324_ := Fr.keep F320_ h314_ d213_
    have h325_ := Fr.keep F320_ h315_ d224_
    have h326_ := Fr.keep F320_ h316_ d239_
    refine ⟨off (by kernel_rfl), ?_⟩
    refine pl_done (by kernel_rfl) ?_
    refine then_n ?_
    refine c_seq [1, 1, 1, 0] [1, 1, 1, 1] (by kernel_rfl) ?_
    refine c_reg 4 memoof_c_R4 (by kernel_rfl) ?_
    refine at_pures 3 (by kernel_rfl) (by kernel_rfl) ?_
    refine at_loadN 25 (.tmp 39) bm 35 32 _ _ _ (hv (tagK x)) (by kernel_rfl) (by kernel_rfl) (by kernel_rfl) (by kernel_rfl) (by kernel_rfl) h318_ (by kernel_rfl) (by kernel_rfl) ?_
    refine at_do (by kernel_rfl) (op_store 25 (.tmp 6) (.tmp 40) b218_ 0 (.agg (hv (tagK x))) _ _ (hv (tagK x)) (by kernel_rfl) (by kernel_rfl) (by kernel_rfl) h325_ (by kernel_rfl) (by kernel_rfl) (by kernel_rfl) (by kernel_rfl) (fun w327_ h328_ z329_ F330_ => ?_))
    have T331_ := Fr.then T321_ F330_ N230_
    have h332_ := Fr.keep F330_ h318_ (Dis.sym d224_)
    have h333_ := MapAt.keep h322_ F330_ (Dis.sym d226_)
    have h334_ := Rd.keep' h323_ F330_ (Dis.sym d228_)
    have h335_ := Fr.keep F330_ h324_ (Dis.sym d229_)
    have h336_ := Fr.keep F330_ h326_ d245_
    refine at_done (by kernel_rfl) ?_
    refine then_n ?_
    refine c_ret (by kernel_rfl) ?_
    refine fin_retL [.cell 6 25] [(.agg (hv (tagK x)))] (.agg (hv (tagK x))) (by kernel_rfl) (by rfl) ⟨ResOne.cellN (off := 0) (n := 32) (vs := (hv (tagK x))) (by kernel_rfl) (by kernel_rfl) (by kernel_rfl) h328_ (by kernel_rfl) (by kernel_rfl), trivial⟩ (by rfl) ?_
    have h337_ : MemoAt Tryd.prog 83 85 w327_ bm mb room (addK ks x room) x (tagK x) true := ⟨h332_, h333_, hmd, fun _ => ⟨rfl, addK_inv ks x room⟩⟩
    exact ⟨x, (tagK x), true, rfl, h337_, T331_, (New.refl w (Or2 (One bm) (One mb)))⟩
end Go.Proofs.YtboggbknebepdaaDoor
