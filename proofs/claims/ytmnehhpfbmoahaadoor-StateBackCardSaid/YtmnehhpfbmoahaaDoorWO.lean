/- The wire, for the machine. -/
import Derived.Test.YtmnehhpfbmoahaaDoorLib5
import Derived.Test.YtmnehhpfbmoahaaDoorWF
namespace Go.Proofs.YtmnehhpfbmoahaaDoor
open Go Go.RowKit Go.Alm
theorem wbyte_o (bw : Nat) (v : Value) (l : List Nat) (n : Nat) (hl : l.length ≤ 1000000) (hn : n < 256) :
    Does Tryd.prog 172 #[(.pointer (some ⟨bw, 0, none⟩)), (.int .u8 ((n : Nat) : Int))] [] [(.gen (wrRe 5 191 bw v l))] (fun v H => ∃ (v' : Value), v = (.tuple #[]) ∧ H = [(.gen (wrRe 5 191 bw v' (l ++ putB n 1 1)))]) :=
  Does.old (wrS bw v) (fun w hw => (byte_c bw v l n w (hw.a (.gen (wrRe 5 191 bw v l)) (by simp)) hl hn).mono fun e w' ⟨he, v', h1, h2, h3⟩ => ⟨v', he, h1, h2, New.ofOwn (r := .gen (wrRe 5 191 bw v l)) (r' := .gen (wrRe 5 191 bw v' (l ++ putB n 1 1))) h3⟩) (fun k hk => ⟨_, List.mem_singleton.2 rfl, hk⟩)

theorem wnum_o (bw : Nat) (v : Value) (l : List Nat) (n : Nat) (hl : l.length ≤ 1000000) (hn : n < 4294967296) :
    Does Tryd.prog 116 #[(.pointer (some ⟨bw, 0, none⟩)), (.int .u32 ((n : Nat) : Int))] [] [(.gen (wrRe 5 191 bw v l))] (fun v H => ∃ (v' : Value), v = (.tuple #[]) ∧ H = [(.gen (wrRe 5 191 bw v' (l ++ putB n 4 4)))]) :=
  Does.old (wrS bw v) (fun w hw => (num_c bw v l n w (hw.a (.gen (wrRe 5 191 bw v l)) (by simp)) hl hn).mono fun e w' ⟨he, v', h1, h2, h3⟩ => ⟨v', he, h1, h2, New.ofOwn (r := .gen (wrRe 5 191 bw v l)) (r' := .gen (wrRe 5 191 bw v' (l ++ putB n 4 4))) h3⟩) (fun k hk => ⟨_, List.mem_singleton.2 rfl, hk⟩)

theorem wlong_o (bw : Nat) (v : Value) (l : List Nat) (n : Nat) (hl : l.length ≤ 1000000) (hn : n < 18446744073709551616) :
    Does Tryd.prog 148 #[(.pointer (some ⟨bw, 0, none⟩)), (.int .u64 ((n : Nat) : Int))] [] [(.gen (wrRe 5 191 bw v l))] (fun v H => ∃ (v' : Value), v = (.tuple #[]) ∧ H = [(.gen (wrRe 5 191 bw v' (l ++ putB n 8 8)))]) :=
  Does.old (wrS bw v) (fun w hw => (long_c bw v l n w (hw.a (.gen (wrRe 5 191 bw v l)) (by simp)) hl hn).mono fun e w' ⟨he, v', h1, h2, h3⟩ => ⟨v', he, h1, h2, New.ofOwn (r := .gen (wrRe 5 191 bw v l)) (r' := .gen (wrRe 5 191 bw v' (l ++ putB n 8 8))) h3⟩) (fun k hk => ⟨_, List.mem_singleton.2 rfl, hk⟩)

theorem whash_o (bw : Nat) (v : Value) (l : List Nat) (h : List Nat) (hl : l.length ≤ 1000000) (hh : H32 h) :
    Does Tryd.prog 115 #[(.pointer (some ⟨bw, 0, none⟩)), (.agg (hv h))] [] [(.gen (wrRe 5 191 bw v l))] (fun v H => ∃ (v' : Value), v = (.tuple #[]) ∧ H = [(.gen (wrRe 5 191 bw v' (l ++ h)))]) :=
  Does.old (wrS bw v) (fun w hw => (hash_c bw v l h w (hw.a (.gen (wrRe 5 191 bw v l)) (by simp)) hl hh.len).mono fun e w' ⟨he, v', h1, h2, h3⟩ => ⟨v', he, h1, h2, New.ofOwn (r := .gen (wrRe 5 191 bw v l)) (r' := .gen (wrRe 5 191 bw v' (l ++ h))) h3⟩) (fun k hk => ⟨_, List.mem_singleton.2 rfl, hk⟩)

theorem wbytes_o (bw : Nat) (v : Value) (l : List Nat) (hl : l.length ≤ 2000000) :
    Does Tryd.prog 117 #[(.pointer (some ⟨bw, 0, none⟩))] [(.gen (wrRe 5 191 bw v l))] [] (fun v H => ∃ (ao' : Option Addr), ∃ (cap' : Nat), v = (.slice ao' l.length cap') ∧ H = [(.row 5 1 ao' l.length cap' (B l))]) :=
  Does.oldRow fun w hw => bytes_c bw v l w (hw.a (.gen (wrRe 5 191 bw v l)) (by simp)) hl

theorem rnum_o (br : Nat) (ao : Option Addr) (cap : Nat) (r : Rs) (hB : Byt r.l) :
    Does Tryd.prog 123 #[(.pointer (some ⟨br, 0, none⟩))] [] [(.gen (rrRe 255 br ao cap r))] (fun v H => ∃ (ao' : Option Addr), ∃ (cap' : Nat), v = (.int .u32 ((r.num 4 : Nat) : Int)) ∧ H = [(.gen (rrRe 255 br ao' cap' (r.take 4)))]) :=
  Does.old2 (One br) (fun w hw => (rnum_c br ao cap r w (hw.a (.gen (rrRe 255 br ao cap r)) (by simp)) hB).mono fun e w' ⟨a, c, he, h1, h2, h3⟩ => ⟨a, c, he, h1, h2, New.ofOwn (r := .gen (rrRe 255 br ao cap r)) (r' := .gen (rrRe 255 br a c (r.take 4))) h3⟩) (fun k hk => ⟨_, List.mem_singleton.2 rfl, .inl hk⟩)

theorem rhash_o (br : Nat) (ao : Option Addr) (cap : Nat) (r : Rs) :
    Does Tryd.prog 122 #[(.pointer (some ⟨br, 0, none⟩))] [] [(.gen (rrRe 255 br ao cap r))] (fun v H => ∃ (ao' : Option Addr), ∃ (cap' : Nat), v = (.agg (hv r.hash)) ∧ H = [(.gen (rrRe 255 br ao' cap' (r.take 32)))]) :=
  Does.old2 (One br) (fun w hw => (rhash_c br ao cap r w (hw.a (.gen (rrRe 255 br ao cap r)) (by simp))).mono fun e w' ⟨a, c, he, h1, h2, h3⟩ => ⟨a, c, he, h1, h2, New.ofOwn (r := .gen (rrRe 255 br ao cap r)) (r' := .gen (rrRe 255 br a c (r.take 32))) h3⟩) (fun k hk => ⟨_, List.mem_singleton.2 rfl, .inl hk⟩)

theorem rend_o (br : Nat) (ao : Option Addr) (cap : Nat) (r : Rs) :
    Does Tryd.prog 124 #[(.pointer (some ⟨br, 0, none⟩))] [(.gen (rrRe 255 br ao cap r))] [] (fun v H => v = (.int .i64 ((r.end : Nat) : Int)) ∧ H = []) :=
  Does.of_calls fun w hw => rend_c br ao cap r w (hw (.gen (rrRe 255 br ao cap r)) (by simp))

theorem rnew_o (ao : Option Addr) (cap : Nat) (l : List Nat) (hl : l.length ≤ 2000000) :
    Does Tryd.prog 121 #[(.slice ao l.length cap)] [(.rd ao (B l))] [] (fun v H => ∃ (br : Nat), ∃ (ao' : Option Addr), ∃ (cap' : Nat), v = (.pointer (some ⟨br, 0, none⟩)) ∧ H = [(.gen (rrRe 255 br ao' cap' (⟨0, l⟩ : Rs)))]) :=
  Does.old3 N0 (fun w hw => (rnew_c _ l w ⟨ao, cap, rfl, hw.a (.rd ao (B l)) (by simp)⟩ hl).mono fun e w' ⟨b, a, c, he, h1, h2, h3⟩ => ⟨b, a, c, he, h1, h2, New.ofNone (r' := .gen (rrRe 255 b a c ⟨0, l⟩)) h3⟩) (fun _ h => h.elim)

theorem rput_o (n size : Nat) (hn : n < 18446744073709551616) (hs : size ≤ 8) :
    Does Tryd.prog 161 #[(.int .u64 (n : Int)), (.int .i64 (size : Int))] [] [] (fun v H => ∃ (ao' : Option Addr), ∃ (cap' : Nat), v = (.slice ao' size cap') ∧ H = [(.row 5 1 ao' size cap' (B (putB n size size)))]) :=
  Does.oldRow fun w _ => rput_c n size w hn hs

end Go.Proofs.YtmnehhpfbmoahaaDoor
