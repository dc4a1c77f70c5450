/-
  No cell of these rows narrows 'for every input' (looked for: loops, veiled, ifaces, maps, wideKeys, modest, calm, conditions, laid).
  DERIVED. THE GIVEN ROWS OF THIS SEAT. 8 by the template 'for every input the law returns true; each argument reads behind the call as it read before'; 0 by the template 'total and deterministic' (their statements: YtijgbppkdaiikaaGreatTotals.lean).
  GIVEN WITH THE SEED: the statements are not yours to turn. If you find one false, say at which input.
  Laid BY PROGRAM, IN A SANDBOX (cutbox-rows.mjs): the forced cells as the released guide's own fill.sh prints them over the translation 7ff60e2a476a9240… (all of the seat's roots in one cut). By AI agents, Wed Nov 11 2026. No macro, syntax, notation, axiom, sorry.
-/
import Derived.Test.YtijgbppkdaiikaaGreatChecked
import GoSem.Claim
import GoSem.ClaimJoined
import GoSem.ClaimMapViews
import Derived.JoinedTies
import Derived.KernelRfl
namespace Go.Proofs.YtijgbppkdaiikaaGreat
/- THE CELL 'sum', in the pinned program and in every row, IS THE sha256 OF THE DUMP (.gsa) THAT YtijgbppkdaiikaaGreatProg.lean LOADS. Nothing in Lean hashes anything: it is a label: what it is worth is what the hold of that sum in a sandbox is worth. -/
noncomputable def Tryz.pinned : Pinned := { name := "ytijgbppkdaiikaagreat", sum := "7ff60e2a476a924077ecb731cc078443accc8673abbf84ff11858e83bcf5fd44", checked := Tryz.checked }
namespace Rows
def none {H : Type} : Left H := { results := [], args := [] }

/-- 'terrierlaw08.TreeTwice': WHATEVER THE INPUT: true; the input reads as it did. -/
def treeTwiceSpec : ChangeSpec := { name := "treeTwice", fn := fun _ => fun
  | [d1, d2, d3, d4] => { results := [.lit (.bool true)], args := [d1, d2, d3, d4] }
  | _ => none }
def treeTwiceRow : OpenClaim := { program := "ytijgbppkdaiikaagreat", sum := "7ff60e2a476a924077ecb731cc078443accc8673abbf84ff11858e83bcf5fd44", func := "terrier/terrierlaw08.TreeTwice", spec := "treeTwice", inPlace := ["sync/atomic.AddInt64", "internal/bytealg.Compare", "slices.overlaps[int]", "slices.overlaps[terrier/page.Item]", "slices.overlaps[terrier/page.Kid]"], unfollowed := true, recurses := true, apart := false }
def TreeTwiceSaid : Prop := treeTwiceRow.holds Tryz.pinned (OpenSpec.ofChange treeTwiceSpec)

/-- ITS FALSE NEIGHBOUR: 'it returns false'. Refute it at one input. -/
def treeTwiceWrong : ChangeSpec := { name := "treeTwice", fn := fun _ => fun
  | [d1, d2, d3, d4] => { results := [.lit (.bool false)], args := [d1, d2, d3, d4] }
  | _ => none }
def TreeTwiceWrongFalsely : Prop := treeTwiceRow.holds Tryz.pinned (OpenSpec.ofChange treeTwiceWrong)

/-- 'terrierlaw08.TreeSpoilt': WHATEVER THE INPUT: true; the input reads as it did. -/
def treeSpoiltSpec : ChangeSpec := { name := "treeSpoilt", fn := fun _ => fun
  | [d1, d2, d3, d4] => { results := [.lit (.bool true)], args := [d1, d2, d3, d4] }
  | _ => none }
def treeSpoiltRow : OpenClaim := { program := "ytijgbppkdaiikaagreat", sum := "7ff60e2a476a924077ecb731cc078443accc8673abbf84ff11858e83bcf5fd44", func := "terrier/terrierlaw08.TreeSpoilt", spec := "treeSpoilt", inPlace := ["sync/atomic.AddInt64", "internal/bytealg.Compare", "slices.overlaps[int]", "slices.overlaps[terrier/page.Item]", "slices.overlaps[terrier/page.Kid]", "maps.clone"], unfollowed := true, recurses := true, apart := false }
def TreeSpoiltSaid : Prop := treeSpoiltRow.holds Tryz.pinned (OpenSpec.ofChange treeSpoiltSpec)

/-- ITS FALSE NEIGHBOUR: 'it returns false'. Refute it at one input. -/
def treeSpoiltWrong : ChangeSpec := { name := "treeSpoilt", fn := fun _ => fun
  | [d1, d2, d3, d4] => { results := [.lit (.bool false)], args := [d1, d2, d3, d4] }
  | _ => none }
def TreeSpoiltWrongFalsely : Prop := treeSpoiltRow.holds Tryz.pinned (OpenSpec.ofChange treeSpoiltWrong)

/-- 'terrierlaw08.TreeStays': WHATEVER THE INPUT: true; the input reads as it did. -/
def treeStaysSpec : ChangeSpec := { name := "treeStays", fn := fun _ => fun
  | [d1, d2, d3] => { results := [.lit (.bool true)], args := [d1, d2, d3] }
  | _ => none }
def treeStaysRow : OpenClaim := { program := "ytijgbppkdaiikaagreat", sum := "7ff60e2a476a924077ecb731cc078443accc8673abbf84ff11858e83bcf5fd44", func := "terrier/terrierlaw08.TreeStays", spec := "treeStays", inPlace := ["sync/atomic.AddInt64", "internal/bytealg.Compare", "slices.overlaps[int]", "slices.overlaps[terrier/page.Item]", "slices.overlaps[terrier/page.Kid]", "maps.clone"], unfollowed := true, recurses := true, apart := false }
def TreeStaysSaid : Prop := treeStaysRow.holds Tryz.pinned (OpenSpec.ofChange treeStaysSpec)

/-- ITS FALSE NEIGHBOUR: 'it returns false'. Refute it at one input. -/
def treeStaysWrong : ChangeSpec := { name := "treeStays", fn := fun _ => fun
  | [d1, d2, d3] => { results := [.lit (.bool false)], args := [d1, d2, d3] }
  | _ => none }
def TreeStaysWrongFalsely : Prop := treeStaysRow.holds Tryz.pinned (OpenSpec.ofChange treeStaysWrong)

/-- 'terrierlaw09.DbBuckets': WHATEVER THE INPUT: true; the input reads as it did. -/
def dbBucketsSpec : ChangeSpec := { name := "dbBuckets", fn := fun _ => fun
  | [d1, d2, d3, d4] => { results := [.lit (.bool true)], args := [d1, d2, d3, d4] }
  | _ => none }
def dbBucketsRow : OpenClaim := { program := "ytijgbppkdaiikaagreat", sum := "7ff60e2a476a924077ecb731cc078443accc8673abbf84ff11858e83bcf5fd44", func := "terrier/terrierlaw09.DbBuckets", spec := "dbBuckets", inPlace := ["sync/atomic.AddInt64", "internal/bytealg.Compare", "slices.overlaps[int]", "maps.clone", "slices.overlaps[terrier/page.Item]", "slices.overlaps[terrier/page.Kid]"], unfollowed := true, recurses := true, apart := false }
def DbBucketsSaid : Prop := dbBucketsRow.holds Tryz.pinned (OpenSpec.ofChange dbBucketsSpec)

/-- ITS FALSE NEIGHBOUR: 'it returns false'. Refute it at one input. -/
def dbBucketsWrong : ChangeSpec := { name := "dbBuckets", fn := fun _ => fun
  | [d1, d2, d3, d4] => { results := [.lit (.bool false)], args := [d1, d2, d3, d4] }
  | _ => none }
def DbBucketsWrongFalsely : Prop := dbBucketsRow.holds Tryz.pinned (OpenSpec.ofChange dbBucketsWrong)

/-- 'terrierlaw09.DbUndoes': WHATEVER THE INPUT: true; the input reads as it did. -/
def dbUndoesSpec : ChangeSpec := { name := "dbUndoes", fn := fun _ => fun
  | [d1, d2, d3] => { results := [.lit (.bool true)], args := [d1, d2, d3] }
  | _ => none }
def dbUndoesRow : OpenClaim := { program := "ytijgbppkdaiikaagreat", sum := "7ff60e2a476a924077ecb731cc078443accc8673abbf84ff11858e83bcf5fd44", func := "terrier/terrierlaw09.DbUndoes", spec := "dbUndoes", inPlace := ["sync/atomic.AddInt64", "internal/bytealg.Compare", "slices.overlaps[int]", "maps.clone", "slices.overlaps[terrier/page.Item]", "slices.overlaps[terrier/page.Kid]"], unfollowed := true, recurses := true, apart := false }
def DbUndoesSaid : Prop := dbUndoesRow.holds Tryz.pinned (OpenSpec.ofChange dbUndoesSpec)

/-- ITS FALSE NEIGHBOUR: 'it returns false'. Refute it at one input. -/
def dbUndoesWrong : ChangeSpec := { name := "dbUndoes", fn := fun _ => fun
  | [d1, d2, d3] => { results := [.lit (.bool false)], args := [d1, d2, d3] }
  | _ => none }
def DbUndoesWrongFalsely : Prop := dbUndoesRow.holds Tryz.pinned (OpenSpec.ofChange dbUndoesWrong)

/-- 'terrierlaw09.DbPlays': WHATEVER THE INPUT: true; the input reads as it did. -/
def dbPlaysSpec : ChangeSpec := { name := "dbPlays", fn := fun _ => fun
  | [d1, d2] => { results := [.lit (.bool true)], args := [d1, d2] }
  | _ => none }
def dbPlaysRow : OpenClaim := { program := "ytijgbppkdaiikaagreat", sum := "7ff60e2a476a924077ecb731cc078443accc8673abbf84ff11858e83bcf5fd44", func := "terrier/terrierlaw09.DbPlays", spec := "dbPlays", inPlace := ["sync/atomic.AddInt64", "internal/bytealg.Compare", "slices.overlaps[int]", "maps.clone", "slices.overlaps[terrier/page.Item]", "slices.overlaps[terrier/page.Kid]"], unfollowed := true, recurses := true, apart := false }
def DbPlaysSaid : Prop := dbPlaysRow.holds Tryz.pinned (OpenSpec.ofChange dbPlaysSpec)

/-- ITS FALSE NEIGHBOUR: 'it returns false'. Refute it at one input. -/
def dbPlaysWrong : ChangeSpec := { name := "dbPlays", fn := fun _ => fun
  | [d1, d2] => { results := [.lit (.bool false)], args := [d1, d2] }
  | _ => none }
def DbPlaysWrongFalsely : Prop := dbPlaysRow.holds Tryz.pinned (OpenSpec.ofChange dbPlaysWrong)

/-- 'terrierlaw09.DbRecovers': WHATEVER THE INPUT: true; the input reads as it did. -/
def dbRecoversSpec : ChangeSpec := { name := "dbRecovers", fn := fun _ => fun
  | [d1, d2, d3, d4, d5] => { results := [.lit (.bool true)], args := [d1, d2, d3, d4, d5] }
  | _ => none }
def dbRecoversRow : OpenClaim := { program := "ytijgbppkdaiikaagreat", sum := "7ff60e2a476a924077ecb731cc078443accc8673abbf84ff11858e83bcf5fd44", func := "terrier/terrierlaw09.DbRecovers", spec := "dbRecovers", inPlace := ["sync/atomic.AddInt64", "internal/bytealg.Compare", "slices.overlaps[int]", "maps.clone", "slices.overlaps[terrier/page.Item]", "slices.overlaps[terrier/page.Kid]"], unfollowed := true, recurses := true, apart := false }
def DbRecoversSaid : Prop := dbRecoversRow.holds Tryz.pinned (OpenSpec.ofChange dbRecoversSpec)

/-- ITS FALSE NEIGHBOUR: 'it returns false'. Refute it at one input. -/
def dbRecoversWrong : ChangeSpec := { name := "dbRecovers", fn := fun _ => fun
  | [d1, d2, d3, d4, d5] => { results := [.lit (.bool false)], args := [d1, d2, d3, d4, d5] }
  | _ => none }
def DbRecoversWrongFalsely : Prop := dbRecoversRow.holds Tryz.pinned (OpenSpec.ofChange dbRecoversWrong)

/-- 'terrierlaw09.DbCopies': WHATEVER THE INPUT: true; the input reads as it did. -/
def dbCopiesSpec : ChangeSpec := { name := "dbCopies", fn := fun _ => fun
  | [d1, d2, d3] => { results := [.lit (.bool true)], args := [d1, d2, d3] }
  | _ => none }
def dbCopiesRow : OpenClaim := { program := "ytijgbppkdaiikaagreat", sum := "7ff60e2a476a924077ecb731cc078443accc8673abbf84ff11858e83bcf5fd44", func := "terrier/terrierlaw09.DbCopies", spec := "dbCopies", inPlace := ["sync/atomic.AddInt64", "internal/bytealg.Compare", "slices.overlaps[int]", "maps.clone", "slices.overlaps[terrier/page.Item]", "slices.overlaps[terrier/page.Kid]", "sync/atomic.LoadUint32", "(*internal/sync.Mutex).Lock", "internal/race.Disable", "sync/atomic.CompareAndSwapInt32", "internal/race.Enable", "internal/race.Acquire", "(*internal/sync.Mutex).lockSlow", "internal/sync.runtime_canSpin", "internal/sync.runtime_doSpin", "internal/sync.throw", "internal/sync.runtime_nanotime", "internal/sync.runtime_SemacquireMutex", "sync/atomic.AddInt32", "(*internal/sync.Mutex).Unlock", "internal/race.ReleaseMerge", "(*internal/sync.Mutex).unlockSlow", "internal/sync.fatal", "internal/sync.runtime_Semrelease", "sync/atomic.StoreUint32"], unfollowed := true, recurses := true, apart := false }
def DbCopiesSaid : Prop := dbCopiesRow.holds Tryz.pinned (OpenSpec.ofChange dbCopiesSpec)

/-- ITS FALSE NEIGHBOUR: 'it returns false'. Refute it at one input. -/
def dbCopiesWrong : ChangeSpec := { name := "dbCopies", fn := fun _ => fun
  | [d1, d2, d3] => { results := [.lit (.bool false)], args := [d1, d2, d3] }
  | _ => none }
def DbCopiesWrongFalsely : Prop := dbCopiesRow.holds Tryz.pinned (OpenSpec.ofChange dbCopiesWrong)

/- THE SECOND FORM. 'bulk': how many values and letters a reading holds, each counted each time it is reached (what is shared counts as often as it is met; a slice's spare places count too). A statement '..UptoSaid' is the law's where the arguments, and the package variables that the reading takes, are together of bulk at most 1048576: NARROWER than '..Said'. Prove '..Said' where nothing that the law and all that it calls make is longer than what came in: it says more and counts as full. Else prove '..UptoSaid'. A law counts once. -/
mutual
def uptoBulk {H : Type} : DataW H → Nat
  | .lit (.string bytes) => bytes.length + 1
  | .lit _ => 1
  | .nil => 1
  | .ptr d => uptoBulk d + 1
  | .slice elems spare => uptoBulkAll elems + uptoBulkAll spare + 1
  | .agg parts => uptoBulkAll parts + 1
  | .iface _ d => uptoBulk d + 1
  | .map entries => uptoBulkEntries entries + 1
  | .held _ => 1
def uptoBulkAll {H : Type} : List (DataW H) → Nat
  | [] => 0
  | d :: r => uptoBulk d + uptoBulkAll r
def uptoBulkEntries {H : Type} : List (Lit × DataW H) → Nat
  | [] => 0
  | x :: r => uptoBulkEntry x + uptoBulkEntries r
def uptoBulkEntry {H : Type} : Lit × DataW H → Nat
  | (.string bytes, d) => bytes.length + uptoBulk d + 1
  | (_, d) => uptoBulk d + 1
 end
def uptoSmall : (H : Type) → List (DataW H) → Bool := fun _ ds => decide (uptoBulkAll ds ≤ 1048576)
def OpenSpec.upto (s : _root_.Go.ChangeSpec) : _root_.Go.OpenSpec := { _root_.Go.OpenSpec.ofChange s with cond := some uptoSmall }

/-- 'terrierlaw08.TreeTwice', WHERE WHAT IT READS IS OF BULK AT MOST 1048576: true; the input reads as it did. -/
def treeTwiceUptoRow : OpenClaim := { program := "ytijgbppkdaiikaagreat", sum := "7ff60e2a476a924077ecb731cc078443accc8673abbf84ff11858e83bcf5fd44", func := "terrier/terrierlaw08.TreeTwice", spec := "treeTwice", inPlace := ["sync/atomic.AddInt64", "internal/bytealg.Compare", "slices.overlaps[int]", "slices.overlaps[terrier/page.Item]", "slices.overlaps[terrier/page.Kid]"], unfollowed := true, recurses := true, apart := false, narrowed := true }
def TreeTwiceUptoSaid : Prop := treeTwiceUptoRow.holds Tryz.pinned (OpenSpec.upto treeTwiceSpec)

/-- 'terrierlaw08.TreeSpoilt', WHERE WHAT IT READS IS OF BULK AT MOST 1048576: true; the input reads as it did. -/
def treeSpoiltUptoRow : OpenClaim := { program := "ytijgbppkdaiikaagreat", sum := "7ff60e2a476a924077ecb731cc078443accc8673abbf84ff11858e83bcf5fd44", func := "terrier/terrierlaw08.TreeSpoilt", spec := "treeSpoilt", inPlace := ["sync/atomic.AddInt64", "internal/bytealg.Compare", "slices.overlaps[int]", "slices.overlaps[terrier/page.Item]", "slices.overlaps[terrier/page.Kid]", "maps.clone"], unfollowed := true, recurses := true, apart := false, narrowed := true }
def TreeSpoiltUptoSaid : Prop := treeSpoiltUptoRow.holds Tryz.pinned (OpenSpec.upto treeSpoiltSpec)

/-- 'terrierlaw08.TreeStays', WHERE WHAT IT READS IS OF BULK AT MOST 1048576: true; the input reads as it did. -/
def treeStaysUptoRow : OpenClaim := { program := "ytijgbppkdaiikaagreat", sum := "7ff60e2a476a924077ecb731cc078443accc8673abbf84ff11858e83bcf5fd44", func := "terrier/terrierlaw08.TreeStays", spec := "treeStays", inPlace := ["sync/atomic.AddInt64", "internal/bytealg.Compare", "slices.overlaps[int]", "slices.overlaps[terrier/page.Item]", "slices.overlaps[terrier/page.Kid]", "maps.clone"], unfollowed := true, recurses := true, apart := false, narrowed := true }
def TreeStaysUptoSaid : Prop := treeStaysUptoRow.holds Tryz.pinned (OpenSpec.upto treeStaysSpec)

/-- 'terrierlaw09.DbBuckets', WHERE WHAT IT READS IS OF BULK AT MOST 1048576: true; the input reads as it did. -/
def dbBucketsUptoRow : OpenClaim := { program := "ytijgbppkdaiikaagreat", sum := "7ff60e2a476a924077ecb731cc078443accc8673abbf84ff11858e83bcf5fd44", func := "terrier/terrierlaw09.DbBuckets", spec := "dbBuckets", inPlace := ["sync/atomic.AddInt64", "internal/bytealg.Compare", "slices.overlaps[int]", "maps.clone", "slices.overlaps[terrier/page.Item]", "slices.overlaps[terrier/page.Kid]"], unfollowed := true, recurses := true, apart := false, narrowed := true }
def DbBucketsUptoSaid : Prop := dbBucketsUptoRow.holds Tryz.pinned (OpenSpec.upto dbBucketsSpec)

/-- 'terrierlaw09.DbUndoes', WHERE WHAT IT READS IS OF BULK AT MOST 1048576: true; the input reads as it did. -/
def dbUndoesUptoRow : OpenClaim := { program := "ytijgbppkdaiikaagreat", sum := "7ff60e2a476a924077ecb731cc078443accc8673abbf84ff11858e83bcf5fd44", func := "terrier/terrierlaw09.DbUndoes", spec := "dbUndoes", inPlace := ["sync/atomic.AddInt64", "internal/bytealg.Compare", "slices.overlaps[int]", "maps.clone", "slices.overlaps[terrier/page.Item]", "slices.overlaps[terrier/page.Kid]"], unfollowed := true, recurses := true, apart := false, narrowed := true }
def DbUndoesUptoSaid : Prop := dbUndoesUptoRow.holds Tryz.pinned (OpenSpec.upto dbUndoesSpec)

/-- 'terrierlaw09.DbPlays', WHERE WHAT IT READS IS OF BULK AT MOST 1048576: true; the input reads as it did. -/
def dbPlaysUptoRow : OpenClaim := { program := "ytijgbppkdaiikaagreat", sum := "7ff60e2a476a924077ecb731cc078443accc8673abbf84ff11858e83bcf5fd44", func := "terrier/terrierlaw09.DbPlays", spec := "dbPlays", inPlace := ["sync/atomic.AddInt64", "internal/bytealg.Compare", "slices.overlaps[int]", "maps.clone", "slices.overlaps[terrier/page.Item]", "slices.overlaps[terrier/page.Kid]"], unfollowed := true, recurses := true, apart := false, narrowed := true }
def DbPlaysUptoSaid : Prop := dbPlaysUptoRow.holds Tryz.pinned (OpenSpec.upto dbPlaysSpec)

/-- 'terrierlaw09.DbRecovers', WHERE WHAT IT READS IS OF BULK AT MOST 1048576: true; the input reads as it did. -/
def dbRecoversUptoRow : OpenClaim := { program := "ytijgbppkdaiikaagreat", sum := "7ff60e2a476a924077ecb731cc078443accc8673abbf84ff11858e83bcf5fd44", func := "terrier/terrierlaw09.DbRecovers", spec := "dbRecovers", inPlace := ["sync/atomic.AddInt64", "internal/bytealg.Compare", "slices.overlaps[int]", "maps.clone", "slices.overlaps[terrier/page.Item]", "slices.overlaps[terrier/page.Kid]"], unfollowed := true, recurses := true, apart := false, narrowed := true }
def DbRecoversUptoSaid : Prop := dbRecoversUptoRow.holds Tryz.pinned (OpenSpec.upto dbRecoversSpec)

/-- 'terrierlaw09.DbCopies', WHERE WHAT IT READS IS OF BULK AT MOST 1048576: true; the input reads as it did. -/
def dbCopiesUptoRow : OpenClaim := { program := "ytijgbppkdaiikaagreat", sum := "7ff60e2a476a924077ecb731cc078443accc8673abbf84ff11858e83bcf5fd44", func := "terrier/terrierlaw09.DbCopies", spec := "dbCopies", inPlace := ["sync/atomic.AddInt64", "internal/bytealg.Compare", "slices.overlaps[int]", "maps.clone", "slices.overlaps[terrier/page.Item]", "slices.overlaps[terrier/page.Kid]", "sync/atomic.LoadUint32", "(*internal/sync.Mutex).Lock", "internal/race.Disable", "sync/atomic.CompareAndSwapInt32", "internal/race.Enable", "internal/race.Acquire", "(*internal/sync.Mutex).lockSlow", "internal/sync.runtime_canSpin", "internal/sync.runtime_doSpin", "internal/sync.throw", "internal/sync.runtime_nanotime", "internal/sync.runtime_SemacquireMutex", "sync/atomic.AddInt32", "(*internal/sync.Mutex).Unlock", "internal/race.ReleaseMerge", "(*internal/sync.Mutex).unlockSlow", "internal/sync.fatal", "internal/sync.runtime_Semrelease", "sync/atomic.StoreUint32"], unfollowed := true, recurses := true, apart := false, narrowed := true }
def DbCopiesUptoSaid : Prop := dbCopiesUptoRow.holds Tryz.pinned (OpenSpec.upto dbCopiesSpec)

end Rows
end Go.Proofs.YtijgbppkdaiikaaGreat
