/- The wire, for the machine. -/
import Derived.Test.YtinmmamnldephaaDoorLib5
import Derived.Test.YtinmmamnldephaaDoorWF
namespace Go.Proofs.YtinmmamnldephaaDoor
open Go Go.RowKit Go.Alm
theorem wnum_o (bw : Nat) (v : Value) (l : List Nat) (n : Nat) (hl : l.length ≤ 1000000) (hn : n < 4294967296) :
    Does Tryd.prog 58 #[(.pointer (some ⟨bw, 0, none⟩)), (.int .u32 ((n : Nat) : Int))] [] [(.gen (wrRe 5 115 bw v l))] (fun v H => ∃ (v' : Value), v = (.tuple #[]) ∧ H = [(.gen (wrRe 5 115 bw v' (l ++ putB n 4 4)))]) :=
  Does.old (wrS bw v) (fun w hw => (num_c bw v l n w (hw.a (.gen (wrRe 5 115 bw v l)) (by simp)) hl hn).mono fun e w' ⟨he, v', h1, h2, h3⟩ => ⟨v', he, h1, h2, New.ofOwn (r := .gen (wrRe 5 115 bw v l)) (r' := .gen (wrRe 5 115 bw v' (l ++ putB n 4 4))) h3⟩) (fun k hk => ⟨_, List.mem_singleton.2 rfl, hk⟩)

theorem whash_o (bw : Nat) (v : Value) (l : List Nat) (h : List Nat) (hl : l.length ≤ 1000000) (hh : H32 h) :
    Does Tryd.prog 57 #[(.pointer (some ⟨bw, 0, none⟩)), (.agg (hv h))] [] [(.gen (wrRe 5 115 bw v l))] (fun v H => ∃ (v' : Value), v = (.tuple #[]) ∧ H = [(.gen (wrRe 5 115 bw v' (l ++ h)))]) :=
  Does.old (wrS bw v) (fun w hw => (hash_c bw v l h w (hw.a (.gen (wrRe 5 115 bw v l)) (by simp)) hl hh.len).mono fun e w' ⟨he, v', h1, h2, h3⟩ => ⟨v', he, h1, h2, New.ofOwn (r := .gen (wrRe 5 115 bw v l)) (r' := .gen (wrRe 5 115 bw v' (l ++ h))) h3⟩) (fun k hk => ⟨_, List.mem_singleton.2 rfl, hk⟩)

theorem wbytes_o (bw : Nat) (v : Value) (l : List Nat) (hl : l.length ≤ 2000000) :
    Does Tryd.prog 59 #[(.pointer (some ⟨bw, 0, none⟩))] [(.gen (wrRe 5 115 bw v l))] [] (fun v H => ∃ (ao' : Option Addr), ∃ (cap' : Nat), v = (.slice ao' l.length cap') ∧ H = [(.row 5 1 ao' l.length cap' (B l))]) :=
  Does.oldRow fun w hw => bytes_c bw v l w (hw.a (.gen (wrRe 5 115 bw v l)) (by simp)) hl

end Go.Proofs.YtinmmamnldephaaDoor
