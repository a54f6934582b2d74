/- The reference's reader, for the machine. -/
import Derived.Test.YtmnehhpfbmoahaaDoorWO
import Derived.Test.YtmnehhpfbmoahaaDoorLib6
namespace Go.Proofs.YtmnehhpfbmoahaaDoor
open Go Go.RowKit Go.Alm
theorem rnumber_f (pb : Nat) (ao : Option Addr) (cap : Nat) (l : List Nat) (r : Rs) (hc : l.length ≤ cap) (hl : l.length ≤ 1000000) (hB : Byt l) :
    Does Tryd.prog 126 #[(.pointer (some ⟨pb, 0, none⟩)), (.int .i64 4)] [(.rd ao (B l))] [(.gen (rfRe 210 pb ao cap l r))] (fun v H => v = (.int .u64 ((r.num 4 : Nat) : Int)) ∧ H = [(.gen (rfRe 210 pb ao cap l (r.take 4)))]) :=
  (Does.old (X := Unit) (v := fun _ => (.int .u64 ((r.num 4 : Nat) : Int))) (H' := fun _ => (.gen (rfRe 210 pb ao cap l (r.take 4)))) (One pb) (fun w hw => by
    obtain ⟨a, e, hb, ha, rfl⟩ := hw.a (.gen (rfRe 210 pb ao cap l r)) (by simp)
    exact (rnumber_c pb ao cap l a e 4 w (hw.a (.rd ao (B l)) (by simp)) hb (Dis.sym (hw.d (.rd ao (B l)) (by simp) (.gen (rfRe 210 pb ao cap l (Rf.r l ⟨a, e⟩))) (List.mem_singleton.2 rfl))) ha hc hl (by decide) hB).mono fun _ w' ⟨a1, e1, hv, hb1, hF, ha1, hr⟩ => ⟨(), hv, ⟨a1, e1, hb1, ha1, hr⟩, hF, fun k hk => .inl ⟨(.gen (rfRe 210 pb ao cap l (Rf.r l ⟨a, e⟩))), List.mem_singleton.2 rfl, hk⟩⟩) (fun k hk => ⟨(.gen (rfRe 210 pb ao cap l r)), List.mem_singleton.2 rfl, hk⟩)).mono fun _ _ ⟨_, h⟩ => h

theorem rhash_f (pb : Nat) (ao : Option Addr) (cap : Nat) (l : List Nat) (r : Rs) (hc : l.length ≤ cap) (hl : l.length ≤ 1000000) :
    Does Tryd.prog 125 #[(.pointer (some ⟨pb, 0, none⟩))] [(.rd ao (B l))] [(.gen (rfRe 210 pb ao cap l r))] (fun v H => v = (.agg (hv r.hash)) ∧ H = [(.gen (rfRe 210 pb ao cap l (r.take 32)))]) :=
  (Does.old (X := Unit) (v := fun _ => (.agg (hv r.hash))) (H' := fun _ => (.gen (rfRe 210 pb ao cap l (r.take 32)))) (One pb) (fun w hw => by
    obtain ⟨a, e, hb, ha, rfl⟩ := hw.a (.gen (rfRe 210 pb ao cap l r)) (by simp)
    exact (rhash4_c pb ao cap l a e w (hw.a (.rd ao (B l)) (by simp)) hb (Dis.sym (hw.d (.rd ao (B l)) (by simp) (.gen (rfRe 210 pb ao cap l (Rf.r l ⟨a, e⟩))) (List.mem_singleton.2 rfl))) ha hc hl).mono fun _ w' ⟨a1, e1, hv, hb1, hF, ha1, hr⟩ => ⟨(), hv, ⟨a1, e1, hb1, ha1, hr⟩, hF, fun k hk => .inl ⟨(.gen (rfRe 210 pb ao cap l (Rf.r l ⟨a, e⟩))), List.mem_singleton.2 rfl, hk⟩⟩) (fun k hk => ⟨(.gen (rfRe 210 pb ao cap l r)), List.mem_singleton.2 rfl, hk⟩)).mono fun _ _ ⟨_, h⟩ => h

theorem rend_f (pb : Nat) (ao : Option Addr) (cap : Nat) (l : List Nat) (r : Rs) (hc : l.length ≤ cap) (hl : l.length ≤ 1000000) :
    Does Tryd.prog 128 #[(.pointer (some ⟨pb, 0, none⟩))] [(.gen (rfRe 210 pb ao cap l r)), (.rd ao (B l))] [] (fun v H => v = (.int .i64 ((r.end : Nat) : Int)) ∧ H = []) :=
  Does.of_calls fun w hw => by
    obtain ⟨a, e, hb, ha, rfl⟩ := hw (.gen (rfRe 210 pb ao cap l r)) (by simp)
    exact rend4_c pb ao cap l a e w (hw (.rd ao (B l)) (by simp)) hb ha hc hl

theorem same_o (aoa : Option Addr) (ca : Nat) (la : List Nat) (aob : Option Addr) (cb : Nat) (lb : List Nat) (hla : la.length ≤ 100000000) (hlb : lb.length ≤ 100000000) :
    Does Tryd.prog 65 #[.slice aoa la.length ca, .slice aob lb.length cb] [.rd aoa (B la), .rd aob (B lb)] [] (fun v H => v = (.bool (decide (la = lb))) ∧ H = []) :=
  Does.of_calls fun w hw => same_c _ la _ lb w ⟨aoa, ca, rfl, hw (.rd aoa (B la)) (by simp)⟩ ⟨aob, cb, rfl, hw (.rd aob (B lb)) (by simp)⟩ hla hlb

end Go.Proofs.YtmnehhpfbmoahaaDoor
