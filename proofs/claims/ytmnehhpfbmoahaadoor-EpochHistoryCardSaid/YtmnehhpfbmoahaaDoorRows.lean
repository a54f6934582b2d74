/-
  NARROWER THAN 'FOR EVERY INPUT', by the rows' own cells (each row's printed sentence says how): EpochTells: laid · EpochHistory: laid · EpochDraws: laid · EpochTurn: laid · TreeDoes: laid · TreeLeads: laid · TreeOrder: laid · TreeAlone: laid · OrderTells: laid · OrderIs: laid · OrderGreatest: laid · StateTells: laid · StateReads: laid · StateBack: laid · ProofTells: laid · ProofClash: laid · ProofMoved: laid · ProofAccepts: laid.
  DERIVED. THE GIVEN ROWS OF THIS SEAT. 18 by the template 'for every input the law returns true; each argument reads behind the call as it read before'; 0 by the template 'total and deterministic' (their statements: YtmnehhpfbmoahaaDoorTotals.lean).
  GIVEN WITH THE SEED: the statements are not yours to turn. If you find one false, say at which input.
  Laid BY PROGRAM, IN A SANDBOX (cutbox-rows.mjs): the forced cells as the released guide's own fill.sh prints them over the translation e40d561a52f1b13f… (all of the seat's roots in one cut). By AI agents, Wed Nov 11 2026. No macro, syntax, notation, axiom, sorry.
-/
import Derived.Test.YtmnehhpfbmoahaaDoorChecked
import GoSem.Claim
import GoSem.ClaimJoined
import GoSem.ClaimMapViews
import Derived.JoinedTies
import Derived.KernelRfl
namespace Go.Proofs.YtmnehhpfbmoahaaDoor
/- THE CELL 'sum', in the pinned program and in every row, IS THE sha256 OF THE DUMP (.gsa) THAT YtmnehhpfbmoahaaDoorProg.lean LOADS. Nothing in Lean hashes anything: it is a label: what it is worth is what the hold of that sum in a sandbox is worth. -/
noncomputable def Tryd.pinned : Pinned := { name := "ytmnehhpfbmoahaadoor", sum := "e40d561a52f1b13fb11d4719c171c33ac5fa20eb1e8ff0e52470c2516c39fcb2", checked := Tryd.checked }
namespace Rows
def none {H : Type} : Left H := { results := [], args := [] }

/- WHAT THE LISTED PACKAGE-LEVEL VARIABLES READ AS WHEN THE CALL BEGINS. Each datum BY PROGRAM (the guide's laid-datum.mjs) off the statement by which the dump's own 'gosem.cut.vars' lays the variable. In a bare row this is a premise. The card (YtmnehhpfbmoahaaDoorCards.lean) ties it to the program's text. -/
def laid_almagest_almagestref02_k {H : Type} : DataW H := .agg [.lit (.int .u32 1116352408), .lit (.int .u32 1899447441), .lit (.int .u32 3049323471), .lit (.int .u32 3921009573), .lit (.int .u32 961987163), .lit (.int .u32 1508970993), .lit (.int .u32 2453635748), .lit (.int .u32 2870763221), .lit (.int .u32 3624381080), .lit (.int .u32 310598401), .lit (.int .u32 607225278), .lit (.int .u32 1426881987), .lit (.int .u32 1925078388), .lit (.int .u32 2162078206), .lit (.int .u32 2614888103), .lit (.int .u32 3248222580), .lit (.int .u32 3835390401), .lit (.int .u32 4022224774), .lit (.int .u32 264347078), .lit (.int .u32 604807628), .lit (.int .u32 770255983), .lit (.int .u32 1249150122), .lit (.int .u32 1555081692), .lit (.int .u32 1996064986), .lit (.int .u32 2554220882), .lit (.int .u32 2821834349), .lit (.int .u32 2952996808), .lit (.int .u32 3210313671), .lit (.int .u32 3336571891), .lit (.int .u32 3584528711), .lit (.int .u32 113926993), .lit (.int .u32 338241895), .lit (.int .u32 666307205), .lit (.int .u32 773529912), .lit (.int .u32 1294757372), .lit (.int .u32 1396182291), .lit (.int .u32 1695183700), .lit (.int .u32 1986661051), .lit (.int .u32 2177026350), .lit (.int .u32 2456956037), .lit (.int .u32 2730485921), .lit (.int .u32 2820302411), .lit (.int .u32 3259730800), .lit (.int .u32 3345764771), .lit (.int .u32 3516065817), .lit (.int .u32 3600352804), .lit (.int .u32 4094571909), .lit (.int .u32 275423344), .lit (.int .u32 430227734), .lit (.int .u32 506948616), .lit (.int .u32 659060556), .lit (.int .u32 883997877), .lit (.int .u32 958139571), .lit (.int .u32 1322822218), .lit (.int .u32 1537002063), .lit (.int .u32 1747873779), .lit (.int .u32 1955562222), .lit (.int .u32 2024104815), .lit (.int .u32 2227730452), .lit (.int .u32 2361852424), .lit (.int .u32 2428436474), .lit (.int .u32 2756734187), .lit (.int .u32 3204031479), .lit (.int .u32 3329325298)]
def laid_almagest_sha_keys {H : Type} : DataW H := .agg [.lit (.int .u32 1116352408), .lit (.int .u32 1899447441), .lit (.int .u32 3049323471), .lit (.int .u32 3921009573), .lit (.int .u32 961987163), .lit (.int .u32 1508970993), .lit (.int .u32 2453635748), .lit (.int .u32 2870763221), .lit (.int .u32 3624381080), .lit (.int .u32 310598401), .lit (.int .u32 607225278), .lit (.int .u32 1426881987), .lit (.int .u32 1925078388), .lit (.int .u32 2162078206), .lit (.int .u32 2614888103), .lit (.int .u32 3248222580), .lit (.int .u32 3835390401), .lit (.int .u32 4022224774), .lit (.int .u32 264347078), .lit (.int .u32 604807628), .lit (.int .u32 770255983), .lit (.int .u32 1249150122), .lit (.int .u32 1555081692), .lit (.int .u32 1996064986), .lit (.int .u32 2554220882), .lit (.int .u32 2821834349), .lit (.int .u32 2952996808), .lit (.int .u32 3210313671), .lit (.int .u32 3336571891), .lit (.int .u32 3584528711), .lit (.int .u32 113926993), .lit (.int .u32 338241895), .lit (.int .u32 666307205), .lit (.int .u32 773529912), .lit (.int .u32 1294757372), .lit (.int .u32 1396182291), .lit (.int .u32 1695183700), .lit (.int .u32 1986661051), .lit (.int .u32 2177026350), .lit (.int .u32 2456956037), .lit (.int .u32 2730485921), .lit (.int .u32 2820302411), .lit (.int .u32 3259730800), .lit (.int .u32 3345764771), .lit (.int .u32 3516065817), .lit (.int .u32 3600352804), .lit (.int .u32 4094571909), .lit (.int .u32 275423344), .lit (.int .u32 430227734), .lit (.int .u32 506948616), .lit (.int .u32 659060556), .lit (.int .u32 883997877), .lit (.int .u32 958139571), .lit (.int .u32 1322822218), .lit (.int .u32 1537002063), .lit (.int .u32 1747873779), .lit (.int .u32 1955562222), .lit (.int .u32 2024104815), .lit (.int .u32 2227730452), .lit (.int .u32 2361852424), .lit (.int .u32 2428436474), .lit (.int .u32 2756734187), .lit (.int .u32 3204031479), .lit (.int .u32 3329325298)]

/-- 'almagestlaw08.EpochTells': WHATEVER THE INPUT: true; the input reads as it did. -/
def epochTellsSpec : ChangeSpec := { name := "epochTells", fn := fun _ => fun
  | [d1, d2, d3] => { results := [.lit (.bool true)], args := [d1, d2, d3] }
  | _ => none }
def epochTellsRow : OpenClaim := { program := "ytmnehhpfbmoahaadoor", sum := "e40d561a52f1b13fb11d4719c171c33ac5fa20eb1e8ff0e52470c2516c39fcb2", func := "almagest/almagestlaw08.EpochTells", spec := "epochTells", named := ["almagest/sha.keys", "almagest/almagestref02.k"], apart := false, laid := [("almagest/almagestref02.k", laid_almagest_almagestref02_k), ("almagest/sha.keys", laid_almagest_sha_keys)] }
def EpochTellsSaid : Prop := epochTellsRow.holds Tryd.pinned (OpenSpec.ofChange epochTellsSpec)

/-- ITS FALSE NEIGHBOUR: 'it returns false'. Refute it at one input. -/
def epochTellsWrong : ChangeSpec := { name := "epochTells", fn := fun _ => fun
  | [d1, d2, d3] => { results := [.lit (.bool false)], args := [d1, d2, d3] }
  | _ => none }
def EpochTellsWrongFalsely : Prop := epochTellsRow.holds Tryd.pinned (OpenSpec.ofChange epochTellsWrong)

/-- 'almagestlaw08.EpochHistory': WHATEVER THE INPUT: true; the input reads as it did. -/
def epochHistorySpec : ChangeSpec := { name := "epochHistory", fn := fun _ => fun
  | [d1, d2] => { results := [.lit (.bool true)], args := [d1, d2] }
  | _ => none }
def epochHistoryRow : OpenClaim := { program := "ytmnehhpfbmoahaadoor", sum := "e40d561a52f1b13fb11d4719c171c33ac5fa20eb1e8ff0e52470c2516c39fcb2", func := "almagest/almagestlaw08.EpochHistory", spec := "epochHistory", named := ["almagest/sha.keys", "almagest/almagestref02.k"], apart := false, laid := [("almagest/almagestref02.k", laid_almagest_almagestref02_k), ("almagest/sha.keys", laid_almagest_sha_keys)] }
def EpochHistorySaid : Prop := epochHistoryRow.holds Tryd.pinned (OpenSpec.ofChange epochHistorySpec)

/-- ITS FALSE NEIGHBOUR: 'it returns false'. Refute it at one input. -/
def epochHistoryWrong : ChangeSpec := { name := "epochHistory", fn := fun _ => fun
  | [d1, d2] => { results := [.lit (.bool false)], args := [d1, d2] }
  | _ => none }
def EpochHistoryWrongFalsely : Prop := epochHistoryRow.holds Tryd.pinned (OpenSpec.ofChange epochHistoryWrong)

/-- 'almagestlaw08.EpochDraws': WHATEVER THE INPUT: true; the input reads as it did. -/
def epochDrawsSpec : ChangeSpec := { name := "epochDraws", fn := fun _ => fun
  | [d1, d2, d3] => { results := [.lit (.bool true)], args := [d1, d2, d3] }
  | _ => none }
def epochDrawsRow : OpenClaim := { program := "ytmnehhpfbmoahaadoor", sum := "e40d561a52f1b13fb11d4719c171c33ac5fa20eb1e8ff0e52470c2516c39fcb2", func := "almagest/almagestlaw08.EpochDraws", spec := "epochDraws", named := ["almagest/sha.keys", "almagest/almagestref02.k"], apart := false, laid := [("almagest/almagestref02.k", laid_almagest_almagestref02_k), ("almagest/sha.keys", laid_almagest_sha_keys)] }
def EpochDrawsSaid : Prop := epochDrawsRow.holds Tryd.pinned (OpenSpec.ofChange epochDrawsSpec)

/-- ITS FALSE NEIGHBOUR: 'it returns false'. Refute it at one input. -/
def epochDrawsWrong : ChangeSpec := { name := "epochDraws", fn := fun _ => fun
  | [d1, d2, d3] => { results := [.lit (.bool false)], args := [d1, d2, d3] }
  | _ => none }
def EpochDrawsWrongFalsely : Prop := epochDrawsRow.holds Tryd.pinned (OpenSpec.ofChange epochDrawsWrong)

/-- 'almagestlaw08.EpochTurn': WHATEVER THE INPUT: true; the input reads as it did. -/
def epochTurnSpec : ChangeSpec := { name := "epochTurn", fn := fun _ => fun
  | [d1, d2] => { results := [.lit (.bool true)], args := [d1, d2] }
  | _ => none }
def epochTurnRow : OpenClaim := { program := "ytmnehhpfbmoahaadoor", sum := "e40d561a52f1b13fb11d4719c171c33ac5fa20eb1e8ff0e52470c2516c39fcb2", func := "almagest/almagestlaw08.EpochTurn", spec := "epochTurn", named := ["almagest/sha.keys", "almagest/almagestref02.k"], apart := false, laid := [("almagest/almagestref02.k", laid_almagest_almagestref02_k), ("almagest/sha.keys", laid_almagest_sha_keys)] }
def EpochTurnSaid : Prop := epochTurnRow.holds Tryd.pinned (OpenSpec.ofChange epochTurnSpec)

/-- ITS FALSE NEIGHBOUR: 'it returns false'. Refute it at one input. -/
def epochTurnWrong : ChangeSpec := { name := "epochTurn", fn := fun _ => fun
  | [d1, d2] => { results := [.lit (.bool false)], args := [d1, d2] }
  | _ => none }
def EpochTurnWrongFalsely : Prop := epochTurnRow.holds Tryd.pinned (OpenSpec.ofChange epochTurnWrong)

/-- 'almagestlaw15.TreeDoes': WHATEVER THE INPUT: true; the input reads as it did. -/
def treeDoesSpec : ChangeSpec := { name := "treeDoes", fn := fun _ => fun
  | [d1, d2] => { results := [.lit (.bool true)], args := [d1, d2] }
  | _ => none }
def treeDoesRow : OpenClaim := { program := "ytmnehhpfbmoahaadoor", sum := "e40d561a52f1b13fb11d4719c171c33ac5fa20eb1e8ff0e52470c2516c39fcb2", func := "almagest/almagestlaw15.TreeDoes", spec := "treeDoes", recurses := true, named := ["almagest/sha.keys", "almagest/almagestref02.k"], apart := false, laid := [("almagest/almagestref02.k", laid_almagest_almagestref02_k), ("almagest/sha.keys", laid_almagest_sha_keys)] }
def TreeDoesSaid : Prop := treeDoesRow.holds Tryd.pinned (OpenSpec.ofChange treeDoesSpec)

/-- ITS FALSE NEIGHBOUR: 'it returns false'. Refute it at one input. -/
def treeDoesWrong : ChangeSpec := { name := "treeDoes", fn := fun _ => fun
  | [d1, d2] => { results := [.lit (.bool false)], args := [d1, d2] }
  | _ => none }
def TreeDoesWrongFalsely : Prop := treeDoesRow.holds Tryd.pinned (OpenSpec.ofChange treeDoesWrong)

/-- 'almagestlaw15.TreeLeads': WHATEVER THE INPUT: true; the input reads as it did. -/
def treeLeadsSpec : ChangeSpec := { name := "treeLeads", fn := fun _ => fun
  | [d] => { results := [.lit (.bool true)], args := [d] }
  | _ => none }
def treeLeadsRow : OpenClaim := { program := "ytmnehhpfbmoahaadoor", sum := "e40d561a52f1b13fb11d4719c171c33ac5fa20eb1e8ff0e52470c2516c39fcb2", func := "almagest/almagestlaw15.TreeLeads", spec := "treeLeads", recurses := true, named := ["almagest/sha.keys"], apart := false, laid := [("almagest/sha.keys", laid_almagest_sha_keys)] }
def TreeLeadsSaid : Prop := treeLeadsRow.holds Tryd.pinned (OpenSpec.ofChange treeLeadsSpec)

/-- ITS FALSE NEIGHBOUR: 'it returns false'. Refute it at one input. -/
def treeLeadsWrong : ChangeSpec := { name := "treeLeads", fn := fun _ => fun
  | [d] => { results := [.lit (.bool false)], args := [d] }
  | _ => none }
def TreeLeadsWrongFalsely : Prop := treeLeadsRow.holds Tryd.pinned (OpenSpec.ofChange treeLeadsWrong)

/-- 'almagestlaw15.TreeOrder': WHATEVER THE INPUT: true; the input reads as it did. -/
def treeOrderSpec : ChangeSpec := { name := "treeOrder", fn := fun _ => fun
  | [d] => { results := [.lit (.bool true)], args := [d] }
  | _ => none }
def treeOrderRow : OpenClaim := { program := "ytmnehhpfbmoahaadoor", sum := "e40d561a52f1b13fb11d4719c171c33ac5fa20eb1e8ff0e52470c2516c39fcb2", func := "almagest/almagestlaw15.TreeOrder", spec := "treeOrder", recurses := true, named := ["almagest/sha.keys"], apart := false, laid := [("almagest/sha.keys", laid_almagest_sha_keys)] }
def TreeOrderSaid : Prop := treeOrderRow.holds Tryd.pinned (OpenSpec.ofChange treeOrderSpec)

/-- ITS FALSE NEIGHBOUR: 'it returns false'. Refute it at one input. -/
def treeOrderWrong : ChangeSpec := { name := "treeOrder", fn := fun _ => fun
  | [d] => { results := [.lit (.bool false)], args := [d] }
  | _ => none }
def TreeOrderWrongFalsely : Prop := treeOrderRow.holds Tryd.pinned (OpenSpec.ofChange treeOrderWrong)

/-- 'almagestlaw15.TreeAlone': WHATEVER THE INPUT: true; the input reads as it did. -/
def treeAloneSpec : ChangeSpec := { name := "treeAlone", fn := fun _ => fun
  | [d1, d2] => { results := [.lit (.bool true)], args := [d1, d2] }
  | _ => none }
def treeAloneRow : OpenClaim := { program := "ytmnehhpfbmoahaadoor", sum := "e40d561a52f1b13fb11d4719c171c33ac5fa20eb1e8ff0e52470c2516c39fcb2", func := "almagest/almagestlaw15.TreeAlone", spec := "treeAlone", recurses := true, named := ["almagest/sha.keys"], apart := false, laid := [("almagest/sha.keys", laid_almagest_sha_keys)] }
def TreeAloneSaid : Prop := treeAloneRow.holds Tryd.pinned (OpenSpec.ofChange treeAloneSpec)

/-- ITS FALSE NEIGHBOUR: 'it returns false'. Refute it at one input. -/
def treeAloneWrong : ChangeSpec := { name := "treeAlone", fn := fun _ => fun
  | [d1, d2] => { results := [.lit (.bool false)], args := [d1, d2] }
  | _ => none }
def TreeAloneWrongFalsely : Prop := treeAloneRow.holds Tryd.pinned (OpenSpec.ofChange treeAloneWrong)

/-- 'almagestlaw12.OrderTells': WHATEVER THE INPUT: true; the input reads as it did. -/
def orderTellsSpec : ChangeSpec := { name := "orderTells", fn := fun _ => fun
  | [d1, d2, d3, d4] => { results := [.lit (.bool true)], args := [d1, d2, d3, d4] }
  | _ => none }
def orderTellsRow : OpenClaim := { program := "ytmnehhpfbmoahaadoor", sum := "e40d561a52f1b13fb11d4719c171c33ac5fa20eb1e8ff0e52470c2516c39fcb2", func := "almagest/almagestlaw12.OrderTells", spec := "orderTells", unfollowed := true, recurses := true, named := ["almagest/sha.keys", "almagest/almagestref02.k"], apart := false, laid := [("almagest/almagestref02.k", laid_almagest_almagestref02_k), ("almagest/sha.keys", laid_almagest_sha_keys)] }
def OrderTellsSaid : Prop := orderTellsRow.holds Tryd.pinned (OpenSpec.ofChange orderTellsSpec)

/-- ITS FALSE NEIGHBOUR: 'it returns false'. Refute it at one input. -/
def orderTellsWrong : ChangeSpec := { name := "orderTells", fn := fun _ => fun
  | [d1, d2, d3, d4] => { results := [.lit (.bool false)], args := [d1, d2, d3, d4] }
  | _ => none }
def OrderTellsWrongFalsely : Prop := orderTellsRow.holds Tryd.pinned (OpenSpec.ofChange orderTellsWrong)

/-- 'almagestlaw12.OrderIs': WHATEVER THE INPUT: true; the input reads as it did. -/
def orderIsSpec : ChangeSpec := { name := "orderIs", fn := fun _ => fun
  | [d1, d2, d3] => { results := [.lit (.bool true)], args := [d1, d2, d3] }
  | _ => none }
def orderIsRow : OpenClaim := { program := "ytmnehhpfbmoahaadoor", sum := "e40d561a52f1b13fb11d4719c171c33ac5fa20eb1e8ff0e52470c2516c39fcb2", func := "almagest/almagestlaw12.OrderIs", spec := "orderIs", unfollowed := true, recurses := true, named := ["almagest/sha.keys"], apart := false, laid := [("almagest/sha.keys", laid_almagest_sha_keys)] }
def OrderIsSaid : Prop := orderIsRow.holds Tryd.pinned (OpenSpec.ofChange orderIsSpec)

/-- ITS FALSE NEIGHBOUR: 'it returns false'. Refute it at one input. -/
def orderIsWrong : ChangeSpec := { name := "orderIs", fn := fun _ => fun
  | [d1, d2, d3] => { results := [.lit (.bool false)], args := [d1, d2, d3] }
  | _ => none }
def OrderIsWrongFalsely : Prop := orderIsRow.holds Tryd.pinned (OpenSpec.ofChange orderIsWrong)

/-- 'almagestlaw12.OrderGreatest': WHATEVER THE INPUT: true; the input reads as it did. -/
def orderGreatestSpec : ChangeSpec := { name := "orderGreatest", fn := fun _ => fun
  | [d1, d2] => { results := [.lit (.bool true)], args := [d1, d2] }
  | _ => none }
def orderGreatestRow : OpenClaim := { program := "ytmnehhpfbmoahaadoor", sum := "e40d561a52f1b13fb11d4719c171c33ac5fa20eb1e8ff0e52470c2516c39fcb2", func := "almagest/almagestlaw12.OrderGreatest", spec := "orderGreatest", unfollowed := true, recurses := true, named := ["almagest/sha.keys"], apart := false, laid := [("almagest/sha.keys", laid_almagest_sha_keys)] }
def OrderGreatestSaid : Prop := orderGreatestRow.holds Tryd.pinned (OpenSpec.ofChange orderGreatestSpec)

/-- ITS FALSE NEIGHBOUR: 'it returns false'. Refute it at one input. -/
def orderGreatestWrong : ChangeSpec := { name := "orderGreatest", fn := fun _ => fun
  | [d1, d2] => { results := [.lit (.bool false)], args := [d1, d2] }
  | _ => none }
def OrderGreatestWrongFalsely : Prop := orderGreatestRow.holds Tryd.pinned (OpenSpec.ofChange orderGreatestWrong)

/-- 'almagestlaw09.StateTells': WHATEVER THE INPUT: true; the input reads as it did. -/
def stateTellsSpec : ChangeSpec := { name := "stateTells", fn := fun _ => fun
  | [d1, d2] => { results := [.lit (.bool true)], args := [d1, d2] }
  | _ => none }
def stateTellsRow : OpenClaim := { program := "ytmnehhpfbmoahaadoor", sum := "e40d561a52f1b13fb11d4719c171c33ac5fa20eb1e8ff0e52470c2516c39fcb2", func := "almagest/almagestlaw09.StateTells", spec := "stateTells", unfollowed := true, recurses := true, named := ["almagest/sha.keys", "almagest/almagestref02.k"], apart := false, laid := [("almagest/almagestref02.k", laid_almagest_almagestref02_k), ("almagest/sha.keys", laid_almagest_sha_keys)] }
def StateTellsSaid : Prop := stateTellsRow.holds Tryd.pinned (OpenSpec.ofChange stateTellsSpec)

/-- ITS FALSE NEIGHBOUR: 'it returns false'. Refute it at one input. -/
def stateTellsWrong : ChangeSpec := { name := "stateTells", fn := fun _ => fun
  | [d1, d2] => { results := [.lit (.bool false)], args := [d1, d2] }
  | _ => none }
def StateTellsWrongFalsely : Prop := stateTellsRow.holds Tryd.pinned (OpenSpec.ofChange stateTellsWrong)

/-- 'almagestlaw09.StateReads': WHATEVER THE INPUT: true; the input reads as it did. -/
def stateReadsSpec : ChangeSpec := { name := "stateReads", fn := fun _ => fun
  | [d] => { results := [.lit (.bool true)], args := [d] }
  | _ => none }
def stateReadsRow : OpenClaim := { program := "ytmnehhpfbmoahaadoor", sum := "e40d561a52f1b13fb11d4719c171c33ac5fa20eb1e8ff0e52470c2516c39fcb2", func := "almagest/almagestlaw09.StateReads", spec := "stateReads", unfollowed := true, recurses := true, named := ["almagest/sha.keys"], apart := false, laid := [("almagest/sha.keys", laid_almagest_sha_keys)] }
def StateReadsSaid : Prop := stateReadsRow.holds Tryd.pinned (OpenSpec.ofChange stateReadsSpec)

/-- ITS FALSE NEIGHBOUR: 'it returns false'. Refute it at one input. -/
def stateReadsWrong : ChangeSpec := { name := "stateReads", fn := fun _ => fun
  | [d] => { results := [.lit (.bool false)], args := [d] }
  | _ => none }
def StateReadsWrongFalsely : Prop := stateReadsRow.holds Tryd.pinned (OpenSpec.ofChange stateReadsWrong)

/-- 'almagestlaw09.StateBack': WHATEVER THE INPUT: true; the input reads as it did. -/
def stateBackSpec : ChangeSpec := { name := "stateBack", fn := fun _ => fun
  | [d1, d2, d3] => { results := [.lit (.bool true)], args := [d1, d2, d3] }
  | _ => none }
def stateBackRow : OpenClaim := { program := "ytmnehhpfbmoahaadoor", sum := "e40d561a52f1b13fb11d4719c171c33ac5fa20eb1e8ff0e52470c2516c39fcb2", func := "almagest/almagestlaw09.StateBack", spec := "stateBack", unfollowed := true, recurses := true, named := ["almagest/sha.keys"], apart := false, laid := [("almagest/sha.keys", laid_almagest_sha_keys)] }
def StateBackSaid : Prop := stateBackRow.holds Tryd.pinned (OpenSpec.ofChange stateBackSpec)

/-- ITS FALSE NEIGHBOUR: 'it returns false'. Refute it at one input. -/
def stateBackWrong : ChangeSpec := { name := "stateBack", fn := fun _ => fun
  | [d1, d2, d3] => { results := [.lit (.bool false)], args := [d1, d2, d3] }
  | _ => none }
def StateBackWrongFalsely : Prop := stateBackRow.holds Tryd.pinned (OpenSpec.ofChange stateBackWrong)

/-- 'almagestlaw16.ProofTells': WHATEVER THE INPUT: true; the input reads as it did. -/
def proofTellsSpec : ChangeSpec := { name := "proofTells", fn := fun _ => fun
  | [d1, d2, d3, d4, d5, d6] => { results := [.lit (.bool true)], args := [d1, d2, d3, d4, d5, d6] }
  | _ => none }
def proofTellsRow : OpenClaim := { program := "ytmnehhpfbmoahaadoor", sum := "e40d561a52f1b13fb11d4719c171c33ac5fa20eb1e8ff0e52470c2516c39fcb2", func := "almagest/almagestlaw16.ProofTells", spec := "proofTells", unfollowed := true, recurses := true, named := ["almagest/sha.keys", "almagest/almagestref02.k"], apart := false, laid := [("almagest/almagestref02.k", laid_almagest_almagestref02_k), ("almagest/sha.keys", laid_almagest_sha_keys)] }
def ProofTellsSaid : Prop := proofTellsRow.holds Tryd.pinned (OpenSpec.ofChange proofTellsSpec)

/-- ITS FALSE NEIGHBOUR: 'it returns false'. Refute it at one input. -/
def proofTellsWrong : ChangeSpec := { name := "proofTells", fn := fun _ => fun
  | [d1, d2, d3, d4, d5, d6] => { results := [.lit (.bool false)], args := [d1, d2, d3, d4, d5, d6] }
  | _ => none }
def ProofTellsWrongFalsely : Prop := proofTellsRow.holds Tryd.pinned (OpenSpec.ofChange proofTellsWrong)

/-- 'almagestlaw16.ProofClash': WHATEVER THE INPUT: true; the input reads as it did. -/
def proofClashSpec : ChangeSpec := { name := "proofClash", fn := fun _ => fun
  | [d1, d2, d3] => { results := [.lit (.bool true)], args := [d1, d2, d3] }
  | _ => none }
def proofClashRow : OpenClaim := { program := "ytmnehhpfbmoahaadoor", sum := "e40d561a52f1b13fb11d4719c171c33ac5fa20eb1e8ff0e52470c2516c39fcb2", func := "almagest/almagestlaw16.ProofClash", spec := "proofClash", unfollowed := true, recurses := true, named := ["almagest/sha.keys", "almagest/almagestref02.k"], apart := false, laid := [("almagest/almagestref02.k", laid_almagest_almagestref02_k), ("almagest/sha.keys", laid_almagest_sha_keys)] }
def ProofClashSaid : Prop := proofClashRow.holds Tryd.pinned (OpenSpec.ofChange proofClashSpec)

/-- ITS FALSE NEIGHBOUR: 'it returns false'. Refute it at one input. -/
def proofClashWrong : ChangeSpec := { name := "proofClash", fn := fun _ => fun
  | [d1, d2, d3] => { results := [.lit (.bool false)], args := [d1, d2, d3] }
  | _ => none }
def ProofClashWrongFalsely : Prop := proofClashRow.holds Tryd.pinned (OpenSpec.ofChange proofClashWrong)

/-- 'almagestlaw16.ProofMoved': WHATEVER THE INPUT: true; the input reads as it did. -/
def proofMovedSpec : ChangeSpec := { name := "proofMoved", fn := fun _ => fun
  | [d1, d2, d3, d4, d5, d6] => { results := [.lit (.bool true)], args := [d1, d2, d3, d4, d5, d6] }
  | _ => none }
def proofMovedRow : OpenClaim := { program := "ytmnehhpfbmoahaadoor", sum := "e40d561a52f1b13fb11d4719c171c33ac5fa20eb1e8ff0e52470c2516c39fcb2", func := "almagest/almagestlaw16.ProofMoved", spec := "proofMoved", unfollowed := true, recurses := true, named := ["almagest/sha.keys"], apart := false, laid := [("almagest/sha.keys", laid_almagest_sha_keys)] }
def ProofMovedSaid : Prop := proofMovedRow.holds Tryd.pinned (OpenSpec.ofChange proofMovedSpec)

/-- ITS FALSE NEIGHBOUR: 'it returns false'. Refute it at one input. -/
def proofMovedWrong : ChangeSpec := { name := "proofMoved", fn := fun _ => fun
  | [d1, d2, d3, d4, d5, d6] => { results := [.lit (.bool false)], args := [d1, d2, d3, d4, d5, d6] }
  | _ => none }
def ProofMovedWrongFalsely : Prop := proofMovedRow.holds Tryd.pinned (OpenSpec.ofChange proofMovedWrong)

/-- 'almagestlaw16.ProofAccepts': WHATEVER THE INPUT: true; the input reads as it did. -/
def proofAcceptsSpec : ChangeSpec := { name := "proofAccepts", fn := fun _ => fun
  | [d] => { results := [.lit (.bool true)], args := [d] }
  | _ => none }
def proofAcceptsRow : OpenClaim := { program := "ytmnehhpfbmoahaadoor", sum := "e40d561a52f1b13fb11d4719c171c33ac5fa20eb1e8ff0e52470c2516c39fcb2", func := "almagest/almagestlaw16.ProofAccepts", spec := "proofAccepts", unfollowed := true, recurses := true, named := ["almagest/sha.keys"], apart := false, laid := [("almagest/sha.keys", laid_almagest_sha_keys)] }
def ProofAcceptsSaid : Prop := proofAcceptsRow.holds Tryd.pinned (OpenSpec.ofChange proofAcceptsSpec)

/-- ITS FALSE NEIGHBOUR: 'it returns false'. Refute it at one input. -/
def proofAcceptsWrong : ChangeSpec := { name := "proofAccepts", fn := fun _ => fun
  | [d] => { results := [.lit (.bool false)], args := [d] }
  | _ => none }
def ProofAcceptsWrongFalsely : Prop := proofAcceptsRow.holds Tryd.pinned (OpenSpec.ofChange proofAcceptsWrong)

/- THE SECOND FORM. 'bulk': how many values and letters a reading holds, each counted each time it is reached (what is shared counts as often as it is met; a slice's spare places count too). A statement '..UptoSaid' is the law's where the arguments, and the package variables that the reading takes, are together of bulk at most 1048576: NARROWER than '..Said'. Prove '..Said' where nothing that the law and all that it calls make is longer than what came in: it says more and counts as full. Else prove '..UptoSaid'. A law counts once. -/
mutual
def uptoBulk {H : Type} : DataW H → Nat
  | .lit (.string bytes) => bytes.length + 1
  | .lit _ => 1
  | .nil => 1
  | .ptr d => uptoBulk d + 1
  | .slice elems spare => uptoBulkAll elems + uptoBulkAll spare + 1
  | .agg parts => uptoBulkAll parts + 1
  | .iface _ d => uptoBulk d + 1
  | .map entries => uptoBulkEntries entries + 1
  | .held _ => 1
def uptoBulkAll {H : Type} : List (DataW H) → Nat
  | [] => 0
  | d :: r => uptoBulk d + uptoBulkAll r
def uptoBulkEntries {H : Type} : List (Lit × DataW H) → Nat
  | [] => 0
  | x :: r => uptoBulkEntry x + uptoBulkEntries r
def uptoBulkEntry {H : Type} : Lit × DataW H → Nat
  | (.string bytes, d) => bytes.length + uptoBulk d + 1
  | (_, d) => uptoBulk d + 1
 end
def uptoSmall : (H : Type) → List (DataW H) → Bool := fun _ ds => decide (uptoBulkAll ds ≤ 1048576)
def OpenSpec.upto (s : _root_.Go.ChangeSpec) : _root_.Go.OpenSpec := { _root_.Go.OpenSpec.ofChange s with cond := some uptoSmall }

/-- 'almagestlaw08.EpochTells', WHERE WHAT IT READS IS OF BULK AT MOST 1048576: true; the input reads as it did. -/
def epochTellsUptoRow : OpenClaim := { program := "ytmnehhpfbmoahaadoor", sum := "e40d561a52f1b13fb11d4719c171c33ac5fa20eb1e8ff0e52470c2516c39fcb2", func := "almagest/almagestlaw08.EpochTells", spec := "epochTells", named := ["almagest/sha.keys", "almagest/almagestref02.k"], apart := false, laid := [("almagest/almagestref02.k", laid_almagest_almagestref02_k), ("almagest/sha.keys", laid_almagest_sha_keys)], narrowed := true }
def EpochTellsUptoSaid : Prop := epochTellsUptoRow.holds Tryd.pinned (OpenSpec.upto epochTellsSpec)

/-- 'almagestlaw08.EpochHistory', WHERE WHAT IT READS IS OF BULK AT MOST 1048576: true; the input reads as it did. -/
def epochHistoryUptoRow : OpenClaim := { program := "ytmnehhpfbmoahaadoor", sum := "e40d561a52f1b13fb11d4719c171c33ac5fa20eb1e8ff0e52470c2516c39fcb2", func := "almagest/almagestlaw08.EpochHistory", spec := "epochHistory", named := ["almagest/sha.keys", "almagest/almagestref02.k"], apart := false, laid := [("almagest/almagestref02.k", laid_almagest_almagestref02_k), ("almagest/sha.keys", laid_almagest_sha_keys)], narrowed := true }
def EpochHistoryUptoSaid : Prop := epochHistoryUptoRow.holds Tryd.pinned (OpenSpec.upto epochHistorySpec)

/-- 'almagestlaw08.EpochDraws', WHERE WHAT IT READS IS OF BULK AT MOST 1048576: true; the input reads as it did. -/
def epochDrawsUptoRow : OpenClaim := { program := "ytmnehhpfbmoahaadoor", sum := "e40d561a52f1b13fb11d4719c171c33ac5fa20eb1e8ff0e52470c2516c39fcb2", func := "almagest/almagestlaw08.EpochDraws", spec := "epochDraws", named := ["almagest/sha.keys", "almagest/almagestref02.k"], apart := false, laid := [("almagest/almagestref02.k", laid_almagest_almagestref02_k), ("almagest/sha.keys", laid_almagest_sha_keys)], narrowed := true }
def EpochDrawsUptoSaid : Prop := epochDrawsUptoRow.holds Tryd.pinned (OpenSpec.upto epochDrawsSpec)

/-- 'almagestlaw08.EpochTurn', WHERE WHAT IT READS IS OF BULK AT MOST 1048576: true; the input reads as it did. -/
def epochTurnUptoRow : OpenClaim := { program := "ytmnehhpfbmoahaadoor", sum := "e40d561a52f1b13fb11d4719c171c33ac5fa20eb1e8ff0e52470c2516c39fcb2", func := "almagest/almagestlaw08.EpochTurn", spec := "epochTurn", named := ["almagest/sha.keys", "almagest/almagestref02.k"], apart := false, laid := [("almagest/almagestref02.k", laid_almagest_almagestref02_k), ("almagest/sha.keys", laid_almagest_sha_keys)], narrowed := true }
def EpochTurnUptoSaid : Prop := epochTurnUptoRow.holds Tryd.pinned (OpenSpec.upto epochTurnSpec)

/-- 'almagestlaw15.TreeDoes', WHERE WHAT IT READS IS OF BULK AT MOST 1048576: true; the input reads as it did. -/
def treeDoesUptoRow : OpenClaim := { program := "ytmnehhpfbmoahaadoor", sum := "e40d561a52f1b13fb11d4719c171c33ac5fa20eb1e8ff0e52470c2516c39fcb2", func := "almagest/almagestlaw15.TreeDoes", spec := "treeDoes", recurses := true, named := ["almagest/sha.keys", "almagest/almagestref02.k"], apart := false, laid := [("almagest/almagestref02.k", laid_almagest_almagestref02_k), ("almagest/sha.keys", laid_almagest_sha_keys)], narrowed := true }
def TreeDoesUptoSaid : Prop := treeDoesUptoRow.holds Tryd.pinned (OpenSpec.upto treeDoesSpec)

/-- 'almagestlaw15.TreeLeads', WHERE WHAT IT READS IS OF BULK AT MOST 1048576: true; the input reads as it did. -/
def treeLeadsUptoRow : OpenClaim := { program := "ytmnehhpfbmoahaadoor", sum := "e40d561a52f1b13fb11d4719c171c33ac5fa20eb1e8ff0e52470c2516c39fcb2", func := "almagest/almagestlaw15.TreeLeads", spec := "treeLeads", recurses := true, named := ["almagest/sha.keys"], apart := false, laid := [("almagest/sha.keys", laid_almagest_sha_keys)], narrowed := true }
def TreeLeadsUptoSaid : Prop := treeLeadsUptoRow.holds Tryd.pinned (OpenSpec.upto treeLeadsSpec)

/-- 'almagestlaw15.TreeOrder', WHERE WHAT IT READS IS OF BULK AT MOST 1048576: true; the input reads as it did. -/
def treeOrderUptoRow : OpenClaim := { program := "ytmnehhpfbmoahaadoor", sum := "e40d561a52f1b13fb11d4719c171c33ac5fa20eb1e8ff0e52470c2516c39fcb2", func := "almagest/almagestlaw15.TreeOrder", spec := "treeOrder", recurses := true, named := ["almagest/sha.keys"], apart := false, laid := [("almagest/sha.keys", laid_almagest_sha_keys)], narrowed := true }
def TreeOrderUptoSaid : Prop := treeOrderUptoRow.holds Tryd.pinned (OpenSpec.upto treeOrderSpec)

/-- 'almagestlaw15.TreeAlone', WHERE WHAT IT READS IS OF BULK AT MOST 1048576: true; the input reads as it did. -/
def treeAloneUptoRow : OpenClaim := { program := "ytmnehhpfbmoahaadoor", sum := "e40d561a52f1b13fb11d4719c171c33ac5fa20eb1e8ff0e52470c2516c39fcb2", func := "almagest/almagestlaw15.TreeAlone", spec := "treeAlone", recurses := true, named := ["almagest/sha.keys"], apart := false, laid := [("almagest/sha.keys", laid_almagest_sha_keys)], narrowed := true }
def TreeAloneUptoSaid : Prop := treeAloneUptoRow.holds Tryd.pinned (OpenSpec.upto treeAloneSpec)

/-- 'almagestlaw12.OrderTells', WHERE WHAT IT READS IS OF BULK AT MOST 1048576: true; the input reads as it did. -/
def orderTellsUptoRow : OpenClaim := { program := "ytmnehhpfbmoahaadoor", sum := "e40d561a52f1b13fb11d4719c171c33ac5fa20eb1e8ff0e52470c2516c39fcb2", func := "almagest/almagestlaw12.OrderTells", spec := "orderTells", unfollowed := true, recurses := true, named := ["almagest/sha.keys", "almagest/almagestref02.k"], apart := false, laid := [("almagest/almagestref02.k", laid_almagest_almagestref02_k), ("almagest/sha.keys", laid_almagest_sha_keys)], narrowed := true }
def OrderTellsUptoSaid : Prop := orderTellsUptoRow.holds Tryd.pinned (OpenSpec.upto orderTellsSpec)

/-- 'almagestlaw12.OrderIs', WHERE WHAT IT READS IS OF BULK AT MOST 1048576: true; the input reads as it did. -/
def orderIsUptoRow : OpenClaim := { program := "ytmnehhpfbmoahaadoor", sum := "e40d561a52f1b13fb11d4719c171c33ac5fa20eb1e8ff0e52470c2516c39fcb2", func := "almagest/almagestlaw12.OrderIs", spec := "orderIs", unfollowed := true, recurses := true, named := ["almagest/sha.keys"], apart := false, laid := [("almagest/sha.keys", laid_almagest_sha_keys)], narrowed := true }
def OrderIsUptoSaid : Prop := orderIsUptoRow.holds Tryd.pinned (OpenSpec.upto orderIsSpec)

/-- 'almagestlaw12.OrderGreatest', WHERE WHAT IT READS IS OF BULK AT MOST 1048576: true; the input reads as it did. -/
def orderGreatestUptoRow : OpenClaim := { program := "ytmnehhpfbmoahaadoor", sum := "e40d561a52f1b13fb11d4719c171c33ac5fa20eb1e8ff0e52470c2516c39fcb2", func := "almagest/almagestlaw12.OrderGreatest", spec := "orderGreatest", unfollowed := true, recurses := true, named := ["almagest/sha.keys"], apart := false, laid := [("almagest/sha.keys", laid_almagest_sha_keys)], narrowed := true }
def OrderGreatestUptoSaid : Prop := orderGreatestUptoRow.holds Tryd.pinned (OpenSpec.upto orderGreatestSpec)

/-- 'almagestlaw09.StateTells', WHERE WHAT IT READS IS OF BULK AT MOST 1048576: true; the input reads as it did. -/
def stateTellsUptoRow : OpenClaim := { program := "ytmnehhpfbmoahaadoor", sum := "e40d561a52f1b13fb11d4719c171c33ac5fa20eb1e8ff0e52470c2516c39fcb2", func := "almagest/almagestlaw09.StateTells", spec := "stateTells", unfollowed := true, recurses := true, named := ["almagest/sha.keys", "almagest/almagestref02.k"], apart := false, laid := [("almagest/almagestref02.k", laid_almagest_almagestref02_k), ("almagest/sha.keys", laid_almagest_sha_keys)], narrowed := true }
def StateTellsUptoSaid : Prop := stateTellsUptoRow.holds Tryd.pinned (OpenSpec.upto stateTellsSpec)

/-- 'almagestlaw09.StateReads', WHERE WHAT IT READS IS OF BULK AT MOST 1048576: true; the input reads as it did. -/
def stateReadsUptoRow : OpenClaim := { program := "ytmnehhpfbmoahaadoor", sum := "e40d561a52f1b13fb11d4719c171c33ac5fa20eb1e8ff0e52470c2516c39fcb2", func := "almagest/almagestlaw09.StateReads", spec := "stateReads", unfollowed := true, recurses := true, named := ["almagest/sha.keys"], apart := false, laid := [("almagest/sha.keys", laid_almagest_sha_keys)], narrowed := true }
def StateReadsUptoSaid : Prop := stateReadsUptoRow.holds Tryd.pinned (OpenSpec.upto stateReadsSpec)

/-- 'almagestlaw09.StateBack', WHERE WHAT IT READS IS OF BULK AT MOST 1048576: true; the input reads as it did. -/
def stateBackUptoRow : OpenClaim := { program := "ytmnehhpfbmoahaadoor", sum := "e40d561a52f1b13fb11d4719c171c33ac5fa20eb1e8ff0e52470c2516c39fcb2", func := "almagest/almagestlaw09.StateBack", spec := "stateBack", unfollowed := true, recurses := true, named := ["almagest/sha.keys"], apart := false, laid := [("almagest/sha.keys", laid_almagest_sha_keys)], narrowed := true }
def StateBackUptoSaid : Prop := stateBackUptoRow.holds Tryd.pinned (OpenSpec.upto stateBackSpec)

/-- 'almagestlaw16.ProofTells', WHERE WHAT IT READS IS OF BULK AT MOST 1048576: true; the input reads as it did. -/
def proofTellsUptoRow : OpenClaim := { program := "ytmnehhpfbmoahaadoor", sum := "e40d561a52f1b13fb11d4719c171c33ac5fa20eb1e8ff0e52470c2516c39fcb2", func := "almagest/almagestlaw16.ProofTells", spec := "proofTells", unfollowed := true, recurses := true, named := ["almagest/sha.keys", "almagest/almagestref02.k"], apart := false, laid := [("almagest/almagestref02.k", laid_almagest_almagestref02_k), ("almagest/sha.keys", laid_almagest_sha_keys)], narrowed := true }
def ProofTellsUptoSaid : Prop := proofTellsUptoRow.holds Tryd.pinned (OpenSpec.upto proofTellsSpec)

/-- 'almagestlaw16.ProofClash', WHERE WHAT IT READS IS OF BULK AT MOST 1048576: true; the input reads as it did. -/
def proofClashUptoRow : OpenClaim := { program := "ytmnehhpfbmoahaadoor", sum := "e40d561a52f1b13fb11d4719c171c33ac5fa20eb1e8ff0e52470c2516c39fcb2", func := "almagest/almagestlaw16.ProofClash", spec := "proofClash", unfollowed := true, recurses := true, named := ["almagest/sha.keys", "almagest/almagestref02.k"], apart := false, laid := [("almagest/almagestref02.k", laid_almagest_almagestref02_k), ("almagest/sha.keys", laid_almagest_sha_keys)], narrowed := true }
def ProofClashUptoSaid : Prop := proofClashUptoRow.holds Tryd.pinned (OpenSpec.upto proofClashSpec)

/-- 'almagestlaw16.ProofMoved', WHERE WHAT IT READS IS OF BULK AT MOST 1048576: true; the input reads as it did. -/
def proofMovedUptoRow : OpenClaim := { program := "ytmnehhpfbmoahaadoor", sum := "e40d561a52f1b13fb11d4719c171c33ac5fa20eb1e8ff0e52470c2516c39fcb2", func := "almagest/almagestlaw16.ProofMoved", spec := "proofMoved", unfollowed := true, recurses := true, named := ["almagest/sha.keys"], apart := false, laid := [("almagest/sha.keys", laid_almagest_sha_keys)], narrowed := true }
def ProofMovedUptoSaid : Prop := proofMovedUptoRow.holds Tryd.pinned (OpenSpec.upto proofMovedSpec)

/-- 'almagestlaw16.ProofAccepts', WHERE WHAT IT READS IS OF BULK AT MOST 1048576: true; the input reads as it did. -/
def proofAcceptsUptoRow : OpenClaim := { program := "ytmnehhpfbmoahaadoor", sum := "e40d561a52f1b13fb11d4719c171c33ac5fa20eb1e8ff0e52470c2516c39fcb2", func := "almagest/almagestlaw16.ProofAccepts", spec := "proofAccepts", unfollowed := true, recurses := true, named := ["almagest/sha.keys"], apart := false, laid := [("almagest/sha.keys", laid_almagest_sha_keys)], narrowed := true }
def ProofAcceptsUptoSaid : Prop := proofAcceptsUptoRow.holds Tryd.pinned (OpenSpec.upto proofAcceptsSpec)

end Rows
end Go.Proofs.YtmnehhpfbmoahaaDoor
