/-
  NARROWER THAN 'FOR EVERY INPUT', by the rows' own cells (each row's printed sentence says how): MemMinds: laid · MemRoom: laid · MemPlays: laid · MemMaps: laid · MemKeeps: laid · MemRuns: laid · MemWith: laid · SnapSums: laid · SnapRoads: laid · SnapLoads: laid · SnapSealed: laid · SnapSaves: laid.
  DERIVED. THE GIVEN ROWS OF THIS SEAT. 12 by the template 'for every input the law returns true; each argument reads behind the call as it read before'; 0 by the template 'total and deterministic' (their statements: YtdambnclbpipdaaGreatDoorTotals.lean).
  GIVEN WITH THE SEED: the statements are not yours to turn. If you find one false, say at which input.
  Laid BY PROGRAM, IN A SANDBOX (cutbox-rows.mjs): the forced cells as the released guide's own fill.sh prints them over the translation 20694109e7cd73df… (all of the seat's roots in one cut). By AI agents, Wed Nov 11 2026. No macro, syntax, notation, axiom, sorry.
-/
import Derived.Test.YtdambnclbpipdaaGreatDoorChecked
import GoSem.Claim
import GoSem.ClaimJoined
import GoSem.ClaimMapViews
import Derived.JoinedTies
import Derived.KernelRfl
namespace Go.Proofs.YtdambnclbpipdaaGreatDoor
/- THE CELL 'sum', in the pinned program and in every row, IS THE sha256 OF THE DUMP (.gsa) THAT YtdambnclbpipdaaGreatDoorProg.lean LOADS. Nothing in Lean hashes anything: it is a label: what it is worth is what the hold of that sum in a sandbox is worth. -/
noncomputable def Tryz.pinned : Pinned := { name := "ytdambnclbpipdaagreatdoor", sum := "20694109e7cd73df4d23cb99ad0c8c38b3e6359335442ffb14a85b7e7d00571b", checked := Tryz.checked }
namespace Rows
def none {H : Type} : Left H := { results := [], args := [] }

/- WHAT THE LISTED PACKAGE-LEVEL VARIABLES READ AS WHEN THE CALL BEGINS. Each datum BY PROGRAM (the guide's laid-datum.mjs) off the statement by which the dump's own 'gosem.cut.vars' lays the variable. In a bare row this is a premise. The card (YtdambnclbpipdaaGreatDoorCards.lean) ties it to the program's text. -/
def laid_trema_ucd_classes {H : Type} : DataW H := .agg [.agg [.lit (.int .i32 768), .lit (.int .i32 788), .lit (.int .i32 230)], .agg [.lit (.int .i32 789), .lit (.int .i32 789), .lit (.int .i32 232)], .agg [.lit (.int .i32 790), .lit (.int .i32 793), .lit (.int .i32 220)], .agg [.lit (.int .i32 794), .lit (.int .i32 794), .lit (.int .i32 232)], .agg [.lit (.int .i32 795), .lit (.int .i32 795), .lit (.int .i32 216)], .agg [.lit (.int .i32 796), .lit (.int .i32 800), .lit (.int .i32 220)], .agg [.lit (.int .i32 801), .lit (.int .i32 802), .lit (.int .i32 202)], .agg [.lit (.int .i32 803), .lit (.int .i32 806), .lit (.int .i32 220)], .agg [.lit (.int .i32 807), .lit (.int .i32 808), .lit (.int .i32 202)], .agg [.lit (.int .i32 809), .lit (.int .i32 819), .lit (.int .i32 220)], .agg [.lit (.int .i32 820), .lit (.int .i32 824), .lit (.int .i32 1)], .agg [.lit (.int .i32 825), .lit (.int .i32 828), .lit (.int .i32 220)], .agg [.lit (.int .i32 829), .lit (.int .i32 836), .lit (.int .i32 230)], .agg [.lit (.int .i32 837), .lit (.int .i32 837), .lit (.int .i32 240)], .agg [.lit (.int .i32 838), .lit (.int .i32 838), .lit (.int .i32 230)], .agg [.lit (.int .i32 839), .lit (.int .i32 841), .lit (.int .i32 220)], .agg [.lit (.int .i32 842), .lit (.int .i32 844), .lit (.int .i32 230)], .agg [.lit (.int .i32 845), .lit (.int .i32 846), .lit (.int .i32 220)], .agg [.lit (.int .i32 848), .lit (.int .i32 850), .lit (.int .i32 230)], .agg [.lit (.int .i32 851), .lit (.int .i32 854), .lit (.int .i32 220)], .agg [.lit (.int .i32 855), .lit (.int .i32 855), .lit (.int .i32 230)], .agg [.lit (.int .i32 8400), .lit (.int .i32 8401), .lit (.int .i32 230)], .agg [.lit (.int .i32 12441), .lit (.int .i32 12442), .lit (.int .i32 8)]]
def laid_trema_ucd_pairs {H : Type} : DataW H := .agg [.agg [.lit (.int .i32 469), .lit (.int .i32 220), .lit (.int .i32 772)], .agg [.lit (.int .i32 470), .lit (.int .i32 252), .lit (.int .i32 772)], .agg [.lit (.int .i32 832), .lit (.int .i32 768), .lit (.int .i32 0)], .agg [.lit (.int .i32 833), .lit (.int .i32 769), .lit (.int .i32 0)], .agg [.lit (.int .i32 835), .lit (.int .i32 787), .lit (.int .i32 0)], .agg [.lit (.int .i32 836), .lit (.int .i32 776), .lit (.int .i32 769)], .agg [.lit (.int .i32 902), .lit (.int .i32 913), .lit (.int .i32 769)], .agg [.lit (.int .i32 912), .lit (.int .i32 970), .lit (.int .i32 769)], .agg [.lit (.int .i32 940), .lit (.int .i32 945), .lit (.int .i32 769)], .agg [.lit (.int .i32 943), .lit (.int .i32 953), .lit (.int .i32 769)], .agg [.lit (.int .i32 970), .lit (.int .i32 953), .lit (.int .i32 776)], .agg [.lit (.int .i32 972), .lit (.int .i32 959), .lit (.int .i32 769)], .agg [.lit (.int .i32 7691), .lit (.int .i32 100), .lit (.int .i32 775)], .agg [.lit (.int .i32 7693), .lit (.int .i32 100), .lit (.int .i32 803)], .agg [.lit (.int .i32 7777), .lit (.int .i32 115), .lit (.int .i32 775)], .agg [.lit (.int .i32 7779), .lit (.int .i32 115), .lit (.int .i32 803)], .agg [.lit (.int .i32 7785), .lit (.int .i32 7779), .lit (.int .i32 775)], .agg [.lit (.int .i32 7841), .lit (.int .i32 97), .lit (.int .i32 803)], .agg [.lit (.int .i32 7844), .lit (.int .i32 194), .lit (.int .i32 769)], .agg [.lit (.int .i32 7845), .lit (.int .i32 226), .lit (.int .i32 769)], .agg [.lit (.int .i32 7863), .lit (.int .i32 7841), .lit (.int .i32 774)], .agg [.lit (.int .i32 7865), .lit (.int .i32 101), .lit (.int .i32 803)], .agg [.lit (.int .i32 7879), .lit (.int .i32 7865), .lit (.int .i32 770)], .agg [.lit (.int .i32 8049), .lit (.int .i32 940), .lit (.int .i32 0)], .agg [.lit (.int .i32 8115), .lit (.int .i32 945), .lit (.int .i32 837)], .agg [.lit (.int .i32 8486), .lit (.int .i32 937), .lit (.int .i32 0)], .agg [.lit (.int .i32 8490), .lit (.int .i32 75), .lit (.int .i32 0)], .agg [.lit (.int .i32 8491), .lit (.int .i32 197), .lit (.int .i32 0)], .agg [.lit (.int .i32 8800), .lit (.int .i32 61), .lit (.int .i32 824)], .agg [.lit (.int .i32 12364), .lit (.int .i32 12363), .lit (.int .i32 12441)], .agg [.lit (.int .i32 12497), .lit (.int .i32 12495), .lit (.int .i32 12442)]]
def laid_trema_ucd_marks {H : Type} : DataW H := .agg [.lit (.int .i32 768), .lit (.int .i32 769), .lit (.int .i32 770), .lit (.int .i32 771), .lit (.int .i32 772), .lit (.int .i32 774), .lit (.int .i32 775), .lit (.int .i32 776), .lit (.int .i32 778), .lit (.int .i32 779), .lit (.int .i32 780), .lit (.int .i32 807), .lit (.int .i32 808)]

/-- 'tremalaw16.MemMinds': WHATEVER THE INPUT: true; the input reads as it did. -/
def memMindsSpec : ChangeSpec := { name := "memMinds", fn := fun _ => fun
  | [d1, d2] => { results := [.lit (.bool true)], args := [d1, d2] }
  | _ => none }
def memMindsRow : OpenClaim := { program := "ytdambnclbpipdaagreatdoor", sum := "20694109e7cd73df4d23cb99ad0c8c38b3e6359335442ffb14a85b7e7d00571b", func := "trema/tremalaw16.MemMinds", spec := "memMinds", inPlace := ["maps.clone"], unfollowed := true, recurses := true, named := ["trema/ucd.pairs", "trema/ucd.marks", "trema/ucd.classes"], plainKeys := false, apart := false, laid := [("trema/ucd.classes", laid_trema_ucd_classes), ("trema/ucd.pairs", laid_trema_ucd_pairs), ("trema/ucd.marks", laid_trema_ucd_marks)] }
def MemMindsSaid : Prop := memMindsRow.holds Tryz.pinned (OpenSpec.ofChange memMindsSpec)

/-- ITS FALSE NEIGHBOUR: 'it returns false'. Refute it at one input. -/
def memMindsWrong : ChangeSpec := { name := "memMinds", fn := fun _ => fun
  | [d1, d2] => { results := [.lit (.bool false)], args := [d1, d2] }
  | _ => none }
def MemMindsWrongFalsely : Prop := memMindsRow.holds Tryz.pinned (OpenSpec.ofChange memMindsWrong)

/-- 'tremalaw16.MemRoom': WHATEVER THE INPUT: true; the input reads as it did. -/
def memRoomSpec : ChangeSpec := { name := "memRoom", fn := fun _ => fun
  | [d1, d2, d3] => { results := [.lit (.bool true)], args := [d1, d2, d3] }
  | _ => none }
def memRoomRow : OpenClaim := { program := "ytdambnclbpipdaagreatdoor", sum := "20694109e7cd73df4d23cb99ad0c8c38b3e6359335442ffb14a85b7e7d00571b", func := "trema/tremalaw16.MemRoom", spec := "memRoom", inPlace := ["maps.clone"], unfollowed := true, recurses := true, named := ["trema/ucd.pairs", "trema/ucd.marks", "trema/ucd.classes"], plainKeys := false, apart := false, laid := [("trema/ucd.classes", laid_trema_ucd_classes), ("trema/ucd.pairs", laid_trema_ucd_pairs), ("trema/ucd.marks", laid_trema_ucd_marks)] }
def MemRoomSaid : Prop := memRoomRow.holds Tryz.pinned (OpenSpec.ofChange memRoomSpec)

/-- ITS FALSE NEIGHBOUR: 'it returns false'. Refute it at one input. -/
def memRoomWrong : ChangeSpec := { name := "memRoom", fn := fun _ => fun
  | [d1, d2, d3] => { results := [.lit (.bool false)], args := [d1, d2, d3] }
  | _ => none }
def MemRoomWrongFalsely : Prop := memRoomRow.holds Tryz.pinned (OpenSpec.ofChange memRoomWrong)

/-- 'tremalaw16.MemPlays': WHATEVER THE INPUT: true; the input reads as it did. -/
def memPlaysSpec : ChangeSpec := { name := "memPlays", fn := fun _ => fun
  | [d1, d2] => { results := [.lit (.bool true)], args := [d1, d2] }
  | _ => none }
def memPlaysRow : OpenClaim := { program := "ytdambnclbpipdaagreatdoor", sum := "20694109e7cd73df4d23cb99ad0c8c38b3e6359335442ffb14a85b7e7d00571b", func := "trema/tremalaw16.MemPlays", spec := "memPlays", inPlace := ["maps.clone"], unfollowed := true, recurses := true, named := ["trema/ucd.pairs", "trema/ucd.marks", "trema/ucd.classes"], plainKeys := false, apart := false, laid := [("trema/ucd.classes", laid_trema_ucd_classes), ("trema/ucd.pairs", laid_trema_ucd_pairs), ("trema/ucd.marks", laid_trema_ucd_marks)] }
def MemPlaysSaid : Prop := memPlaysRow.holds Tryz.pinned (OpenSpec.ofChange memPlaysSpec)

/-- ITS FALSE NEIGHBOUR: 'it returns false'. Refute it at one input. -/
def memPlaysWrong : ChangeSpec := { name := "memPlays", fn := fun _ => fun
  | [d1, d2] => { results := [.lit (.bool false)], args := [d1, d2] }
  | _ => none }
def MemPlaysWrongFalsely : Prop := memPlaysRow.holds Tryz.pinned (OpenSpec.ofChange memPlaysWrong)

/-- 'tremalaw16.MemMaps': WHATEVER THE INPUT: true; the input reads as it did. -/
def memMapsSpec : ChangeSpec := { name := "memMaps", fn := fun _ => fun
  | [d1, d2, d3] => { results := [.lit (.bool true)], args := [d1, d2, d3] }
  | _ => none }
def memMapsRow : OpenClaim := { program := "ytdambnclbpipdaagreatdoor", sum := "20694109e7cd73df4d23cb99ad0c8c38b3e6359335442ffb14a85b7e7d00571b", func := "trema/tremalaw16.MemMaps", spec := "memMaps", inPlace := ["maps.clone"], unfollowed := true, recurses := true, named := ["trema/ucd.pairs", "trema/ucd.marks", "trema/ucd.classes"], plainKeys := false, apart := false, laid := [("trema/ucd.classes", laid_trema_ucd_classes), ("trema/ucd.pairs", laid_trema_ucd_pairs), ("trema/ucd.marks", laid_trema_ucd_marks)] }
def MemMapsSaid : Prop := memMapsRow.holds Tryz.pinned (OpenSpec.ofChange memMapsSpec)

/-- ITS FALSE NEIGHBOUR: 'it returns false'. Refute it at one input. -/
def memMapsWrong : ChangeSpec := { name := "memMaps", fn := fun _ => fun
  | [d1, d2, d3] => { results := [.lit (.bool false)], args := [d1, d2, d3] }
  | _ => none }
def MemMapsWrongFalsely : Prop := memMapsRow.holds Tryz.pinned (OpenSpec.ofChange memMapsWrong)

/-- 'tremalaw16.MemKeeps': WHATEVER THE INPUT: true; the input reads as it did. -/
def memKeepsSpec : ChangeSpec := { name := "memKeeps", fn := fun _ => fun
  | [d] => { results := [.lit (.bool true)], args := [d] }
  | _ => none }
def memKeepsRow : OpenClaim := { program := "ytdambnclbpipdaagreatdoor", sum := "20694109e7cd73df4d23cb99ad0c8c38b3e6359335442ffb14a85b7e7d00571b", func := "trema/tremalaw16.MemKeeps", spec := "memKeeps", inPlace := ["maps.clone"], unfollowed := true, recurses := true, named := ["trema/ucd.pairs", "trema/ucd.marks", "trema/ucd.classes"], plainKeys := false, apart := false, laid := [("trema/ucd.classes", laid_trema_ucd_classes), ("trema/ucd.pairs", laid_trema_ucd_pairs), ("trema/ucd.marks", laid_trema_ucd_marks)] }
def MemKeepsSaid : Prop := memKeepsRow.holds Tryz.pinned (OpenSpec.ofChange memKeepsSpec)

/-- ITS FALSE NEIGHBOUR: 'it returns false'. Refute it at one input. -/
def memKeepsWrong : ChangeSpec := { name := "memKeeps", fn := fun _ => fun
  | [d] => { results := [.lit (.bool false)], args := [d] }
  | _ => none }
def MemKeepsWrongFalsely : Prop := memKeepsRow.holds Tryz.pinned (OpenSpec.ofChange memKeepsWrong)

/-- 'tremalaw16.MemRuns': WHATEVER THE INPUT: true; the input reads as it did. -/
def memRunsSpec : ChangeSpec := { name := "memRuns", fn := fun _ => fun
  | [d1, d2] => { results := [.lit (.bool true)], args := [d1, d2] }
  | _ => none }
def memRunsRow : OpenClaim := { program := "ytdambnclbpipdaagreatdoor", sum := "20694109e7cd73df4d23cb99ad0c8c38b3e6359335442ffb14a85b7e7d00571b", func := "trema/tremalaw16.MemRuns", spec := "memRuns", inPlace := ["maps.clone"], unfollowed := true, recurses := true, named := ["trema/ucd.pairs", "trema/ucd.marks", "trema/ucd.classes"], plainKeys := false, apart := false, laid := [("trema/ucd.classes", laid_trema_ucd_classes), ("trema/ucd.pairs", laid_trema_ucd_pairs), ("trema/ucd.marks", laid_trema_ucd_marks)] }
def MemRunsSaid : Prop := memRunsRow.holds Tryz.pinned (OpenSpec.ofChange memRunsSpec)

/-- ITS FALSE NEIGHBOUR: 'it returns false'. Refute it at one input. -/
def memRunsWrong : ChangeSpec := { name := "memRuns", fn := fun _ => fun
  | [d1, d2] => { results := [.lit (.bool false)], args := [d1, d2] }
  | _ => none }
def MemRunsWrongFalsely : Prop := memRunsRow.holds Tryz.pinned (OpenSpec.ofChange memRunsWrong)

/-- 'tremalaw16.MemWith': WHATEVER THE INPUT: true; the input reads as it did. -/
def memWithSpec : ChangeSpec := { name := "memWith", fn := fun _ => fun
  | [d1, d2, d3] => { results := [.lit (.bool true)], args := [d1, d2, d3] }
  | _ => none }
def memWithRow : OpenClaim := { program := "ytdambnclbpipdaagreatdoor", sum := "20694109e7cd73df4d23cb99ad0c8c38b3e6359335442ffb14a85b7e7d00571b", func := "trema/tremalaw16.MemWith", spec := "memWith", inPlace := ["maps.clone"], unfollowed := true, recurses := true, named := ["trema/ucd.pairs", "trema/ucd.marks", "trema/ucd.classes"], plainKeys := false, apart := false, laid := [("trema/ucd.classes", laid_trema_ucd_classes), ("trema/ucd.pairs", laid_trema_ucd_pairs), ("trema/ucd.marks", laid_trema_ucd_marks)] }
def MemWithSaid : Prop := memWithRow.holds Tryz.pinned (OpenSpec.ofChange memWithSpec)

/-- ITS FALSE NEIGHBOUR: 'it returns false'. Refute it at one input. -/
def memWithWrong : ChangeSpec := { name := "memWith", fn := fun _ => fun
  | [d1, d2, d3] => { results := [.lit (.bool false)], args := [d1, d2, d3] }
  | _ => none }
def MemWithWrongFalsely : Prop := memWithRow.holds Tryz.pinned (OpenSpec.ofChange memWithWrong)

/-- 'tremalaw17.SnapSums': WHATEVER THE INPUT: true; the input reads as it did. -/
def snapSumsSpec : ChangeSpec := { name := "snapSums", fn := fun _ => fun
  | [d1, d2] => { results := [.lit (.bool true)], args := [d1, d2] }
  | _ => none }
def snapSumsRow : OpenClaim := { program := "ytdambnclbpipdaagreatdoor", sum := "20694109e7cd73df4d23cb99ad0c8c38b3e6359335442ffb14a85b7e7d00571b", func := "trema/tremalaw17.SnapSums", spec := "snapSums", inPlace := ["maps.clone"], unfollowed := true, recurses := true, named := ["trema/ucd.pairs", "trema/ucd.marks", "trema/ucd.classes"], plainKeys := false, apart := false, laid := [("trema/ucd.classes", laid_trema_ucd_classes), ("trema/ucd.pairs", laid_trema_ucd_pairs), ("trema/ucd.marks", laid_trema_ucd_marks)] }
def SnapSumsSaid : Prop := snapSumsRow.holds Tryz.pinned (OpenSpec.ofChange snapSumsSpec)

/-- ITS FALSE NEIGHBOUR: 'it returns false'. Refute it at one input. -/
def snapSumsWrong : ChangeSpec := { name := "snapSums", fn := fun _ => fun
  | [d1, d2] => { results := [.lit (.bool false)], args := [d1, d2] }
  | _ => none }
def SnapSumsWrongFalsely : Prop := snapSumsRow.holds Tryz.pinned (OpenSpec.ofChange snapSumsWrong)

/-- 'tremalaw17.SnapRoads': WHATEVER THE INPUT: true; the input reads as it did. -/
def snapRoadsSpec : ChangeSpec := { name := "snapRoads", fn := fun _ => fun
  | [d1, d2, d3] => { results := [.lit (.bool true)], args := [d1, d2, d3] }
  | _ => none }
def snapRoadsRow : OpenClaim := { program := "ytdambnclbpipdaagreatdoor", sum := "20694109e7cd73df4d23cb99ad0c8c38b3e6359335442ffb14a85b7e7d00571b", func := "trema/tremalaw17.SnapRoads", spec := "snapRoads", inPlace := ["maps.clone"], unfollowed := true, recurses := true, named := ["trema/ucd.pairs", "trema/ucd.marks", "trema/ucd.classes"], plainKeys := false, apart := false, laid := [("trema/ucd.classes", laid_trema_ucd_classes), ("trema/ucd.pairs", laid_trema_ucd_pairs), ("trema/ucd.marks", laid_trema_ucd_marks)] }
def SnapRoadsSaid : Prop := snapRoadsRow.holds Tryz.pinned (OpenSpec.ofChange snapRoadsSpec)

/-- ITS FALSE NEIGHBOUR: 'it returns false'. Refute it at one input. -/
def snapRoadsWrong : ChangeSpec := { name := "snapRoads", fn := fun _ => fun
  | [d1, d2, d3] => { results := [.lit (.bool false)], args := [d1, d2, d3] }
  | _ => none }
def SnapRoadsWrongFalsely : Prop := snapRoadsRow.holds Tryz.pinned (OpenSpec.ofChange snapRoadsWrong)

/-- 'tremalaw17.SnapLoads': WHATEVER THE INPUT: true; the input reads as it did. -/
def snapLoadsSpec : ChangeSpec := { name := "snapLoads", fn := fun _ => fun
  | [d1, d2] => { results := [.lit (.bool true)], args := [d1, d2] }
  | _ => none }
def snapLoadsRow : OpenClaim := { program := "ytdambnclbpipdaagreatdoor", sum := "20694109e7cd73df4d23cb99ad0c8c38b3e6359335442ffb14a85b7e7d00571b", func := "trema/tremalaw17.SnapLoads", spec := "snapLoads", inPlace := ["maps.clone"], unfollowed := true, recurses := true, named := ["trema/ucd.pairs", "trema/ucd.marks", "trema/ucd.classes"], plainKeys := false, apart := false, laid := [("trema/ucd.classes", laid_trema_ucd_classes), ("trema/ucd.pairs", laid_trema_ucd_pairs), ("trema/ucd.marks", laid_trema_ucd_marks)] }
def SnapLoadsSaid : Prop := snapLoadsRow.holds Tryz.pinned (OpenSpec.ofChange snapLoadsSpec)

/-- ITS FALSE NEIGHBOUR: 'it returns false'. Refute it at one input. -/
def snapLoadsWrong : ChangeSpec := { name := "snapLoads", fn := fun _ => fun
  | [d1, d2] => { results := [.lit (.bool false)], args := [d1, d2] }
  | _ => none }
def SnapLoadsWrongFalsely : Prop := snapLoadsRow.holds Tryz.pinned (OpenSpec.ofChange snapLoadsWrong)

/-- 'tremalaw17.SnapSealed': WHATEVER THE INPUT: true; the input reads as it did. -/
def snapSealedSpec : ChangeSpec := { name := "snapSealed", fn := fun _ => fun
  | [d1, d2] => { results := [.lit (.bool true)], args := [d1, d2] }
  | _ => none }
def snapSealedRow : OpenClaim := { program := "ytdambnclbpipdaagreatdoor", sum := "20694109e7cd73df4d23cb99ad0c8c38b3e6359335442ffb14a85b7e7d00571b", func := "trema/tremalaw17.SnapSealed", spec := "snapSealed", inPlace := ["maps.clone"], unfollowed := true, recurses := true, named := ["trema/ucd.pairs", "trema/ucd.marks", "trema/ucd.classes"], plainKeys := false, apart := false, laid := [("trema/ucd.classes", laid_trema_ucd_classes), ("trema/ucd.pairs", laid_trema_ucd_pairs), ("trema/ucd.marks", laid_trema_ucd_marks)] }
def SnapSealedSaid : Prop := snapSealedRow.holds Tryz.pinned (OpenSpec.ofChange snapSealedSpec)

/-- ITS FALSE NEIGHBOUR: 'it returns false'. Refute it at one input. -/
def snapSealedWrong : ChangeSpec := { name := "snapSealed", fn := fun _ => fun
  | [d1, d2] => { results := [.lit (.bool false)], args := [d1, d2] }
  | _ => none }
def SnapSealedWrongFalsely : Prop := snapSealedRow.holds Tryz.pinned (OpenSpec.ofChange snapSealedWrong)

/-- 'tremalaw17.SnapSaves': WHATEVER THE INPUT: true; the input reads as it did. -/
def snapSavesSpec : ChangeSpec := { name := "snapSaves", fn := fun _ => fun
  | [d1, d2, d3] => { results := [.lit (.bool true)], args := [d1, d2, d3] }
  | _ => none }
def snapSavesRow : OpenClaim := { program := "ytdambnclbpipdaagreatdoor", sum := "20694109e7cd73df4d23cb99ad0c8c38b3e6359335442ffb14a85b7e7d00571b", func := "trema/tremalaw17.SnapSaves", spec := "snapSaves", inPlace := ["maps.clone"], unfollowed := true, recurses := true, named := ["trema/ucd.pairs", "trema/ucd.marks", "trema/ucd.classes"], plainKeys := false, apart := false, laid := [("trema/ucd.classes", laid_trema_ucd_classes), ("trema/ucd.pairs", laid_trema_ucd_pairs), ("trema/ucd.marks", laid_trema_ucd_marks)] }
def SnapSavesSaid : Prop := snapSavesRow.holds Tryz.pinned (OpenSpec.ofChange snapSavesSpec)

/-- ITS FALSE NEIGHBOUR: 'it returns false'. Refute it at one input. -/
def snapSavesWrong : ChangeSpec := { name := "snapSaves", fn := fun _ => fun
  | [d1, d2, d3] => { results := [.lit (.bool false)], args := [d1, d2, d3] }
  | _ => none }
def SnapSavesWrongFalsely : Prop := snapSavesRow.holds Tryz.pinned (OpenSpec.ofChange snapSavesWrong)

/- THE SECOND FORM. 'bulk': how many values and letters a reading holds, each counted each time it is reached (what is shared counts as often as it is met; a slice's spare places count too). A statement '..UptoSaid' is the law's where the arguments, and the package variables that the reading takes, are together of bulk at most 1048576: NARROWER than '..Said'. Prove '..Said' where nothing that the law and all that it calls make is longer than what came in: it says more and counts as full. Else prove '..UptoSaid'. A law counts once. -/
mutual
def uptoBulk {H : Type} : DataW H → Nat
  | .lit (.string bytes) => bytes.length + 1
  | .lit _ => 1
  | .nil => 1
  | .ptr d => uptoBulk d + 1
  | .slice elems spare => uptoBulkAll elems + uptoBulkAll spare + 1
  | .agg parts => uptoBulkAll parts + 1
  | .iface _ d => uptoBulk d + 1
  | .map entries => uptoBulkEntries entries + 1
  | .held _ => 1
def uptoBulkAll {H : Type} : List (DataW H) → Nat
  | [] => 0
  | d :: r => uptoBulk d + uptoBulkAll r
def uptoBulkEntries {H : Type} : List (Lit × DataW H) → Nat
  | [] => 0
  | x :: r => uptoBulkEntry x + uptoBulkEntries r
def uptoBulkEntry {H : Type} : Lit × DataW H → Nat
  | (.string bytes, d) => bytes.length + uptoBulk d + 1
  | (_, d) => uptoBulk d + 1
 end
def uptoSmall : (H : Type) → List (DataW H) → Bool := fun _ ds => decide (uptoBulkAll ds ≤ 1048576)
def OpenSpec.upto (s : _root_.Go.ChangeSpec) : _root_.Go.OpenSpec := { _root_.Go.OpenSpec.ofChange s with cond := some uptoSmall }

/-- 'tremalaw16.MemMinds', WHERE WHAT IT READS IS OF BULK AT MOST 1048576: true; the input reads as it did. -/
def memMindsUptoRow : OpenClaim := { program := "ytdambnclbpipdaagreatdoor", sum := "20694109e7cd73df4d23cb99ad0c8c38b3e6359335442ffb14a85b7e7d00571b", func := "trema/tremalaw16.MemMinds", spec := "memMinds", inPlace := ["maps.clone"], unfollowed := true, recurses := true, named := ["trema/ucd.pairs", "trema/ucd.marks", "trema/ucd.classes"], plainKeys := false, apart := false, laid := [("trema/ucd.classes", laid_trema_ucd_classes), ("trema/ucd.pairs", laid_trema_ucd_pairs), ("trema/ucd.marks", laid_trema_ucd_marks)], narrowed := true }
def MemMindsUptoSaid : Prop := memMindsUptoRow.holds Tryz.pinned (OpenSpec.upto memMindsSpec)

/-- 'tremalaw16.MemRoom', WHERE WHAT IT READS IS OF BULK AT MOST 1048576: true; the input reads as it did. -/
def memRoomUptoRow : OpenClaim := { program := "ytdambnclbpipdaagreatdoor", sum := "20694109e7cd73df4d23cb99ad0c8c38b3e6359335442ffb14a85b7e7d00571b", func := "trema/tremalaw16.MemRoom", spec := "memRoom", inPlace := ["maps.clone"], unfollowed := true, recurses := true, named := ["trema/ucd.pairs", "trema/ucd.marks", "trema/ucd.classes"], plainKeys := false, apart := false, laid := [("trema/ucd.classes", laid_trema_ucd_classes), ("trema/ucd.pairs", laid_trema_ucd_pairs), ("trema/ucd.marks", laid_trema_ucd_marks)], narrowed := true }
def MemRoomUptoSaid : Prop := memRoomUptoRow.holds Tryz.pinned (OpenSpec.upto memRoomSpec)

/-- 'tremalaw16.MemPlays', WHERE WHAT IT READS IS OF BULK AT MOST 1048576: true; the input reads as it did. -/
def memPlaysUptoRow : OpenClaim := { program := "ytdambnclbpipdaagreatdoor", sum := "20694109e7cd73df4d23cb99ad0c8c38b3e6359335442ffb14a85b7e7d00571b", func := "trema/tremalaw16.MemPlays", spec := "memPlays", inPlace := ["maps.clone"], unfollowed := true, recurses := true, named := ["trema/ucd.pairs", "trema/ucd.marks", "trema/ucd.classes"], plainKeys := false, apart := false, laid := [("trema/ucd.classes", laid_trema_ucd_classes), ("trema/ucd.pairs", laid_trema_ucd_pairs), ("trema/ucd.marks", laid_trema_ucd_marks)], narrowed := true }
def MemPlaysUptoSaid : Prop := memPlaysUptoRow.holds Tryz.pinned (OpenSpec.upto memPlaysSpec)

/-- 'tremalaw16.MemMaps', WHERE WHAT IT READS IS OF BULK AT MOST 1048576: true; the input reads as it did. -/
def memMapsUptoRow : OpenClaim := { program := "ytdambnclbpipdaagreatdoor", sum := "20694109e7cd73df4d23cb99ad0c8c38b3e6359335442ffb14a85b7e7d00571b", func := "trema/tremalaw16.MemMaps", spec := "memMaps", inPlace := ["maps.clone"], unfollowed := true, recurses := true, named := ["trema/ucd.pairs", "trema/ucd.marks", "trema/ucd.classes"], plainKeys := false, apart := false, laid := [("trema/ucd.classes", laid_trema_ucd_classes), ("trema/ucd.pairs", laid_trema_ucd_pairs), ("trema/ucd.marks", laid_trema_ucd_marks)], narrowed := true }
def MemMapsUptoSaid : Prop := memMapsUptoRow.holds Tryz.pinned (OpenSpec.upto memMapsSpec)

/-- 'tremalaw16.MemKeeps', WHERE WHAT IT READS IS OF BULK AT MOST 1048576: true; the input reads as it did. -/
def memKeepsUptoRow : OpenClaim := { program := "ytdambnclbpipdaagreatdoor", sum := "20694109e7cd73df4d23cb99ad0c8c38b3e6359335442ffb14a85b7e7d00571b", func := "trema/tremalaw16.MemKeeps", spec := "memKeeps", inPlace := ["maps.clone"], unfollowed := true, recurses := true, named := ["trema/ucd.pairs", "trema/ucd.marks", "trema/ucd.classes"], plainKeys := false, apart := false, laid := [("trema/ucd.classes", laid_trema_ucd_classes), ("trema/ucd.pairs", laid_trema_ucd_pairs), ("trema/ucd.marks", laid_trema_ucd_marks)], narrowed := true }
def MemKeepsUptoSaid : Prop := memKeepsUptoRow.holds Tryz.pinned (OpenSpec.upto memKeepsSpec)

/-- 'tremalaw16.MemRuns', WHERE WHAT IT READS IS OF BULK AT MOST 1048576: true; the input reads as it did. -/
def memRunsUptoRow : OpenClaim := { program := "ytdambnclbpipdaagreatdoor", sum := "20694109e7cd73df4d23cb99ad0c8c38b3e6359335442ffb14a85b7e7d00571b", func := "trema/tremalaw16.MemRuns", spec := "memRuns", inPlace := ["maps.clone"], unfollowed := true, recurses := true, named := ["trema/ucd.pairs", "trema/ucd.marks", "trema/ucd.classes"], plainKeys := false, apart := false, laid := [("trema/ucd.classes", laid_trema_ucd_classes), ("trema/ucd.pairs", laid_trema_ucd_pairs), ("trema/ucd.marks", laid_trema_ucd_marks)], narrowed := true }
def MemRunsUptoSaid : Prop := memRunsUptoRow.holds Tryz.pinned (OpenSpec.upto memRunsSpec)

/-- 'tremalaw16.MemWith', WHERE WHAT IT READS IS OF BULK AT MOST 1048576: true; the input reads as it did. -/
def memWithUptoRow : OpenClaim := { program := "ytdambnclbpipdaagreatdoor", sum := "20694109e7cd73df4d23cb99ad0c8c38b3e6359335442ffb14a85b7e7d00571b", func := "trema/tremalaw16.MemWith", spec := "memWith", inPlace := ["maps.clone"], unfollowed := true, recurses := true, named := ["trema/ucd.pairs", "trema/ucd.marks", "trema/ucd.classes"], plainKeys := false, apart := false, laid := [("trema/ucd.classes", laid_trema_ucd_classes), ("trema/ucd.pairs", laid_trema_ucd_pairs), ("trema/ucd.marks", laid_trema_ucd_marks)], narrowed := true }
def MemWithUptoSaid : Prop := memWithUptoRow.holds Tryz.pinned (OpenSpec.upto memWithSpec)

/-- 'tremalaw17.SnapSums', WHERE WHAT IT READS IS OF BULK AT MOST 1048576: true; the input reads as it did. -/
def snapSumsUptoRow : OpenClaim := { program := "ytdambnclbpipdaagreatdoor", sum := "20694109e7cd73df4d23cb99ad0c8c38b3e6359335442ffb14a85b7e7d00571b", func := "trema/tremalaw17.SnapSums", spec := "snapSums", inPlace := ["maps.clone"], unfollowed := true, recurses := true, named := ["trema/ucd.pairs", "trema/ucd.marks", "trema/ucd.classes"], plainKeys := false, apart := false, laid := [("trema/ucd.classes", laid_trema_ucd_classes), ("trema/ucd.pairs", laid_trema_ucd_pairs), ("trema/ucd.marks", laid_trema_ucd_marks)], narrowed := true }
def SnapSumsUptoSaid : Prop := snapSumsUptoRow.holds Tryz.pinned (OpenSpec.upto snapSumsSpec)

/-- 'tremalaw17.SnapRoads', WHERE WHAT IT READS IS OF BULK AT MOST 1048576: true; the input reads as it did. -/
def snapRoadsUptoRow : OpenClaim := { program := "ytdambnclbpipdaagreatdoor", sum := "20694109e7cd73df4d23cb99ad0c8c38b3e6359335442ffb14a85b7e7d00571b", func := "trema/tremalaw17.SnapRoads", spec := "snapRoads", inPlace := ["maps.clone"], unfollowed := true, recurses := true, named := ["trema/ucd.pairs", "trema/ucd.marks", "trema/ucd.classes"], plainKeys := false, apart := false, laid := [("trema/ucd.classes", laid_trema_ucd_classes), ("trema/ucd.pairs", laid_trema_ucd_pairs), ("trema/ucd.marks", laid_trema_ucd_marks)], narrowed := true }
def SnapRoadsUptoSaid : Prop := snapRoadsUptoRow.holds Tryz.pinned (OpenSpec.upto snapRoadsSpec)

/-- 'tremalaw17.SnapLoads', WHERE WHAT IT READS IS OF BULK AT MOST 1048576: true; the input reads as it did. -/
def snapLoadsUptoRow : OpenClaim := { program := "ytdambnclbpipdaagreatdoor", sum := "20694109e7cd73df4d23cb99ad0c8c38b3e6359335442ffb14a85b7e7d00571b", func := "trema/tremalaw17.SnapLoads", spec := "snapLoads", inPlace := ["maps.clone"], unfollowed := true, recurses := true, named := ["trema/ucd.pairs", "trema/ucd.marks", "trema/ucd.classes"], plainKeys := false, apart := false, laid := [("trema/ucd.classes", laid_trema_ucd_classes), ("trema/ucd.pairs", laid_trema_ucd_pairs), ("trema/ucd.marks", laid_trema_ucd_marks)], narrowed := true }
def SnapLoadsUptoSaid : Prop := snapLoadsUptoRow.holds Tryz.pinned (OpenSpec.upto snapLoadsSpec)

/-- 'tremalaw17.SnapSealed', WHERE WHAT IT READS IS OF BULK AT MOST 1048576: true; the input reads as it did. -/
def snapSealedUptoRow : OpenClaim := { program := "ytdambnclbpipdaagreatdoor", sum := "20694109e7cd73df4d23cb99ad0c8c38b3e6359335442ffb14a85b7e7d00571b", func := "trema/tremalaw17.SnapSealed", spec := "snapSealed", inPlace := ["maps.clone"], unfollowed := true, recurses := true, named := ["trema/ucd.pairs", "trema/ucd.marks", "trema/ucd.classes"], plainKeys := false, apart := false, laid := [("trema/ucd.classes", laid_trema_ucd_classes), ("trema/ucd.pairs", laid_trema_ucd_pairs), ("trema/ucd.marks", laid_trema_ucd_marks)], narrowed := true }
def SnapSealedUptoSaid : Prop := snapSealedUptoRow.holds Tryz.pinned (OpenSpec.upto snapSealedSpec)

/-- 'tremalaw17.SnapSaves', WHERE WHAT IT READS IS OF BULK AT MOST 1048576: true; the input reads as it did. -/
def snapSavesUptoRow : OpenClaim := { program := "ytdambnclbpipdaagreatdoor", sum := "20694109e7cd73df4d23cb99ad0c8c38b3e6359335442ffb14a85b7e7d00571b", func := "trema/tremalaw17.SnapSaves", spec := "snapSaves", inPlace := ["maps.clone"], unfollowed := true, recurses := true, named := ["trema/ucd.pairs", "trema/ucd.marks", "trema/ucd.classes"], plainKeys := false, apart := false, laid := [("trema/ucd.classes", laid_trema_ucd_classes), ("trema/ucd.pairs", laid_trema_ucd_pairs), ("trema/ucd.marks", laid_trema_ucd_marks)], narrowed := true }
def SnapSavesUptoSaid : Prop := snapSavesUptoRow.holds Tryz.pinned (OpenSpec.upto snapSavesSpec)

end Rows
end Go.Proofs.YtdambnclbpipdaaGreatDoor
