import Derived.Test.YtlibhidhfbecbaaOnePure
import Derived.Test.YtlibhidhfbecbaaProg
namespace Go.Proofs.Ytlibhidhfbecbaa.XT
open Go Go.Proofs.Ytlibhidhfbecbaa.SL Go.Proofs.Ytlibhidhfbecbaa.SL.W Go.Proofs.Ytlibhidhfbecbaa.SL.D Go.Proofs.Ytlibhidhfbecbaa.SL.I
set_option maxRecDepth 100000
set_option maxHeartbeats 40000000
abbrev ad (b : Nat) : Option Addr := some ⟨b, 0, none⟩
abbrev ι (x : Int) : Value := .int .i64 x
abbrev ς (A : Option Addr) (n c : Nat) : Value := .slice A n c
abbrev ς0 : Value := .slice none 0 0
abbrev η (x : Bool) : Value := .bool x
abbrev κ (T : Nat) (k : IntKind) (A : Option Addr) (n c : Nat) (xs : List Int) : Fact := row T 1 (.slice A n c) n (nums k xs)
abbrev ν (k : IntKind) (A : Option Addr) (xs : List Int) : Fact := vw A (nums k xs)
abbrev ξ (A : Option Addr) (n c : Nat) (ws : List Ch) : Fact := row 97 2 (.slice A n c) n (chV ws)
abbrev δ (d : Nat) (A : Option Addr) (n c : Nat) (ss : List Int) (W : Option Addr) (m e : Nat) (ws : List Ch) (l : Int) (dn : Bool) (r : List Fact) : List Fact := blk d 47 [.slice A n c, .slice W m e, .int .i64 l, .bool dn] :: row 5 1 (.slice A n c) n (nums .u8 ss) :: row 97 2 (.slice W m e) m (chV ws) :: chd .u8 ws :: r
abbrev ζ (f w m : Nat) (F : List Fe) (fc : Nat) (A : Option Addr) (n c : Nat) (ns : List Int) (dd : Bool) (r : List Fact) : List Fact := blk f 51 [pt w, .map (some m), .slice A n c, .bool dd] :: mpf m (F.map feM) fc :: row 3 1 (.slice A n c) n (nums .i64 ns) :: r
def U : Tab where
  und := [(3, .int .i64), (4, .bool), (5, .int .u8), (9, .string), (22, .slice 5), (24, .pointer 51), (26, .pointer 47), (28, .int .i64), (30, .struct #[{ name := "Name", type := 9, offset := 0, embedded := false, tag := "", pkgPath := "", byteOffset := 0 }, { name := "Data", type := 22, offset := 1, embedded := false, tag := "", pkgPath := "", byteOffset := 16 }, { name := "Gone", type := 4, offset := 2, embedded := false, tag := "", pkgPath := "", byteOffset := 40 }]), (31, .struct #[{ name := "Name", type := 9, offset := 0, embedded := false, tag := "", pkgPath := "", byteOffset := 0 }, { name := "Data", type := 22, offset := 1, embedded := false, tag := "", pkgPath := "", byteOffset := 16 }, { name := "Gone", type := 4, offset := 2, embedded := false, tag := "", pkgPath := "", byteOffset := 40 }]), (32, .slice 31), (33, .slice 9), (40, .pointer 71), (45, .slice 97), (46, .struct #[{ name := "safe", type := 22, offset := 0, embedded := false, tag := "", pkgPath := "orlop/disk", byteOffset := 0 }, { name := "wait", type := 45, offset := 1, embedded := false, tag := "", pkgPath := "orlop/disk", byteOffset := 24 }, { name := "left", type := 3, offset := 2, embedded := false, tag := "", pkgPath := "orlop/disk", byteOffset := 48 }, { name := "down", type := 4, offset := 3, embedded := false, tag := "", pkgPath := "orlop/disk", byteOffset := 56 }]), (47, .struct #[{ name := "safe", type := 22, offset := 0, embedded := false, tag := "", pkgPath := "orlop/disk", byteOffset := 0 }, { name := "wait", type := 45, offset := 1, embedded := false, tag := "", pkgPath := "orlop/disk", byteOffset := 24 }, { name := "left", type := 3, offset := 2, embedded := false, tag := "", pkgPath := "orlop/disk", byteOffset := 48 }, { name := "down", type := 4, offset := 3, embedded := false, tag := "", pkgPath := "orlop/disk", byteOffset := 56 }]), (48, .map 9 63), (49, .slice 3), (50, .struct #[{ name := "w", type := 40, offset := 0, embedded := false, tag := "", pkgPath := "orlop/file", byteOffset := 0 }, { name := "files", type := 48, offset := 1, embedded := false, tag := "", pkgPath := "orlop/file", byteOffset := 8 }, { name := "next", type := 49, offset := 2, embedded := false, tag := "", pkgPath := "orlop/file", byteOffset := 16 }, { name := "dead", type := 4, offset := 3, embedded := false, tag := "", pkgPath := "orlop/file", byteOffset := 40 }]), (51, .struct #[{ name := "w", type := 40, offset := 0, embedded := false, tag := "", pkgPath := "orlop/file", byteOffset := 0 }, { name := "files", type := 48, offset := 1, embedded := false, tag := "", pkgPath := "orlop/file", byteOffset := 8 }, { name := "next", type := 49, offset := 2, embedded := false, tag := "", pkgPath := "orlop/file", byteOffset := 16 }, { name := "dead", type := 4, offset := 3, embedded := false, tag := "", pkgPath := "orlop/file", byteOffset := 40 }]), (57, .func #[] #[28] false), (62, .struct #[{ name := "slot", type := 3, offset := 0, embedded := false, tag := "", pkgPath := "orlop/file", byteOffset := 0 }, { name := "size", type := 3, offset := 1, embedded := false, tag := "", pkgPath := "orlop/file", byteOffset := 8 }, { name := "blocks", type := 49, offset := 2, embedded := false, tag := "", pkgPath := "orlop/file", byteOffset := 16 }]), (63, .struct #[{ name := "slot", type := 3, offset := 0, embedded := false, tag := "", pkgPath := "orlop/file", byteOffset := 0 }, { name := "size", type := 3, offset := 1, embedded := false, tag := "", pkgPath := "orlop/file", byteOffset := 8 }, { name := "blocks", type := 49, offset := 2, embedded := false, tag := "", pkgPath := "orlop/file", byteOffset := 16 }]), (70, .struct #[{ name := "d", type := 26, offset := 0, embedded := false, tag := "", pkgPath := "orlop/wal", byteOffset := 0 }]), (71, .struct #[{ name := "d", type := 26, offset := 0, embedded := false, tag := "", pkgPath := "orlop/wal", byteOffset := 0 }]), (74, .struct #[{ name := "d", type := 26, offset := 0, embedded := false, tag := "", pkgPath := "orlop/wal", byteOffset := 0 }, { name := "list", type := 45, offset := 1, embedded := false, tag := "", pkgPath := "orlop/wal", byteOffset := 8 }]), (75, .struct #[{ name := "d", type := 26, offset := 0, embedded := false, tag := "", pkgPath := "orlop/wal", byteOffset := 0 }, { name := "list", type := 45, offset := 1, embedded := false, tag := "", pkgPath := "orlop/wal", byteOffset := 8 }]), (78, .slice 4), (81, .map 9 3), (85, .array 64 4), (86, .struct #[{ name := "f", type := 24, offset := 0, embedded := false, tag := "", pkgPath := "orlop/file", byteOffset := 0 }, { name := "files", type := 48, offset := 1, embedded := false, tag := "", pkgPath := "orlop/file", byteOffset := 8 }, { name := "next", type := 49, offset := 2, embedded := false, tag := "", pkgPath := "orlop/file", byteOffset := 16 }, { name := "slots", type := 85, offset := 3, embedded := false, tag := "", pkgPath := "orlop/file", byteOffset := 40 }, { name := "spare", type := 49, offset := 67, embedded := false, tag := "", pkgPath := "orlop/file", byteOffset := 104 }]), (87, .struct #[{ name := "f", type := 24, offset := 0, embedded := false, tag := "", pkgPath := "orlop/file", byteOffset := 0 }, { name := "files", type := 48, offset := 1, embedded := false, tag := "", pkgPath := "orlop/file", byteOffset := 8 }, { name := "next", type := 49, offset := 2, embedded := false, tag := "", pkgPath := "orlop/file", byteOffset := 16 }, { name := "slots", type := 85, offset := 3, embedded := false, tag := "", pkgPath := "orlop/file", byteOffset := 40 }, { name := "spare", type := 49, offset := 67, embedded := false, tag := "", pkgPath := "orlop/file", byteOffset := 104 }]), (94, .int .u32), (96, .struct #[{ name := "Block", type := 3, offset := 0, embedded := false, tag := "", pkgPath := "", byteOffset := 0 }, { name := "Data", type := 22, offset := 1, embedded := false, tag := "", pkgPath := "", byteOffset := 8 }]), (97, .struct #[{ name := "Block", type := 3, offset := 0, embedded := false, tag := "", pkgPath := "", byteOffset := 0 }, { name := "Data", type := 22, offset := 1, embedded := false, tag := "", pkgPath := "", byteOffset := 8 }]), (98, .slice 57), (106, .slice 22), (116, .int .u64), (121, .slice 106)]
  fld := [((30, 0), (0, 9)), ((30, 1), (1, 22)), ((30, 2), (2, 4)), ((31, 0), (0, 9)), ((31, 1), (1, 22)), ((31, 2), (2, 4)), ((46, 0), (0, 22)), ((46, 1), (1, 45)), ((46, 2), (2, 3)), ((46, 3), (3, 4)), ((47, 0), (0, 22)), ((47, 1), (1, 45)), ((47, 2), (2, 3)), ((47, 3), (3, 4)), ((50, 0), (0, 40)), ((50, 1), (1, 48)), ((50, 2), (2, 49)), ((50, 3), (3, 4)), ((51, 0), (0, 40)), ((51, 1), (1, 48)), ((51, 2), (2, 49)), ((51, 3), (3, 4)), ((62, 0), (0, 3)), ((62, 1), (1, 3)), ((62, 2), (2, 49)), ((63, 0), (0, 3)), ((63, 1), (1, 3)), ((63, 2), (2, 49)), ((70, 0), (0, 26)), ((71, 0), (0, 26)), ((74, 0), (0, 26)), ((74, 1), (1, 45)), ((75, 0), (0, 26)), ((75, 1), (1, 45)), ((86, 0), (0, 24)), ((86, 1), (1, 48)), ((86, 2), (2, 49)), ((86, 3), (3, 85)), ((86, 4), (67, 49)), ((87, 0), (0, 24)), ((87, 1), (1, 48)), ((87, 2), (2, 49)), ((87, 3), (3, 85)), ((87, 4), (67, 49)), ((96, 0), (0, 3)), ((96, 1), (1, 22)), ((97, 0), (0, 3)), ((97, 1), (1, 22))]
  sz := [(3, 1), (4, 1), (5, 1), (9, 1), (22, 1), (24, 1), (26, 1), (28, 1), (30, 3), (31, 3), (32, 1), (33, 1), (40, 1), (45, 1), (46, 4), (47, 4), (48, 1), (49, 1), (50, 4), (51, 4), (57, 1), (62, 3), (63, 3), (70, 1), (71, 1), (74, 2), (75, 2), (78, 1), (81, 1), (85, 64), (86, 68), (87, 68), (94, 1), (96, 2), (97, 2), (98, 1), (106, 1), (116, 1), (121, 1)]
  ti := [(3, (1, 8, .int .i64 0)), (4, (1, 1, .bool false)), (5, (1, 1, .int .u8 0)), (9, (1, 16, .string ⟨#[]⟩)), (22, (1, 24, .slice none 0 0)), (24, (1, 8, .pointer none)), (26, (1, 8, .pointer none)), (28, (1, 8, .int .i64 0)), (30, (3, 48, .agg #[.string ⟨#[]⟩, .slice none 0 0, .bool false])), (31, (3, 48, .agg #[.string ⟨#[]⟩, .slice none 0 0, .bool false])), (32, (1, 24, .slice none 0 0)), (33, (1, 24, .slice none 0 0)), (40, (1, 8, .pointer none)), (45, (1, 24, .slice none 0 0)), (46, (4, 64, .agg #[.slice none 0 0, .slice none 0 0, .int .i64 0, .bool false])), (47, (4, 64, .agg #[.slice none 0 0, .slice none 0 0, .int .i64 0, .bool false])), (48, (1, 8, .map none)), (49, (1, 24, .slice none 0 0)), (50, (4, 48, .agg #[.pointer none, .map none, .slice none 0 0, .bool false])), (51, (4, 48, .agg #[.pointer none, .map none, .slice none 0 0, .bool false])), (57, (1, 8, .nilFunc)), (62, (3, 40, .agg #[.int .i64 0, .int .i64 0, .slice none 0 0])), (63, (3, 40, .agg #[.int .i64 0, .int .i64 0, .slice none 0 0])), (70, (1, 8, .agg #[.pointer none])), (71, (1, 8, .agg #[.pointer none])), (74, (2, 32, .agg #[.pointer none, .slice none 0 0])), (75, (2, 32, .agg #[.pointer none, .slice none 0 0])), (78, (1, 24, .slice none 0 0)), (81, (1, 8, .map none)), (85, (64, 64, .agg #[.bool false, .bool false, .bool false, .bool false, .bool false, .bool false, .bool false, .bool false, .bool false, .bool false, .bool false, .bool false, .bool false, .bool false, .bool false, .bool false, .bool false, .bool false, .bool false, .bool false, .bool false, .bool false, .bool false, .bool false, .bool false, .bool false, .bool false, .bool false, .bool false, .bool false, .bool false, .bool false, .bool false, .bool false, .bool false, .bool false, .bool false, .bool false, .bool false, .bool false, .bool false, .bool false, .bool false, .bool false, .bool false, .bool false, .bool false, .bool false, .bool false, .bool false, .bool false, .bool false, .bool false, .bool false, .bool false, .bool false, .bool false, .bool false, .bool false, .bool false, .bool false, .bool false, .bool false, .bool false])), (86, (68, 128, .agg #[.pointer none, .map none, .slice none 0 0, .bool false, .bool false, .bool false, .bool false, .bool false, .bool false, .bool false, .bool false, .bool false, .bool false, .bool false, .bool false, .bool false, .bool false, .bool false, .bool false, .bool false, .bool false, .bool false, .bool false, .bool false, .bool false, .bool false, .bool false, .bool false, .bool false, .bool false, .bool false, .bool false, .bool false, .bool false, .bool false, .bool false, .bool false, .bool false, .bool false, .bool false, .bool false, .bool false, .bool false, .bool false, .bool false, .bool false, .bool false, .bool false, .bool false, .bool false, .bool false, .bool false, .bool false, .bool false, .bool false, .bool false, .bool false, .bool false, .bool false, .bool false, .bool false, .bool false, .bool false, .bool false, .bool false, .bool false, .bool false, .slice none 0 0])), (87, (68, 128, .agg #[.pointer none, .map none, .slice none 0 0, .bool false, .bool false, .bool false, .bool false, .bool false, .bool false, .bool false, .bool false, .bool false, .bool false, .bool false, .bool false, .bool false, .bool false, .bool false, .bool false, .bool false, .bool false, .bool false, .bool false, .bool false, .bool false, .bool false, .bool false, .bool false, .bool false, .bool false, .bool false, .bool false, .bool false, .bool false, .bool false, .bool false, .bool false, .bool false, .bool false, .bool false, .bool false, .bool false, .bool false, .bool false, .bool false, .bool false, .bool false, .bool false, .bool false, .bool false, .bool false, .bool false, .bool false, .bool false, .bool false, .bool false, .bool false, .bool false, .bool false, .bool false, .bool false, .bool false, .bool false, .bool false, .bool false, .bool false, .bool false, .slice none 0 0])), (94, (1, 4, .int .u32 0)), (96, (2, 32, .agg #[.int .i64 0, .slice none 0 0])), (97, (2, 32, .agg #[.int .i64 0, .slice none 0 0])), (98, (1, 24, .slice none 0 0)), (106, (1, 24, .slice none 0 0)), (116, (1, 8, .int .u64 0)), (121, (1, 24, .slice none 0 0))]
  bld := [(30, [(0, 1), (1, 1), (2, 1)]), (31, [(0, 1), (1, 1), (2, 1)]), (46, [(0, 1), (1, 1), (2, 1), (3, 1)]), (47, [(0, 1), (1, 1), (2, 1), (3, 1)]), (50, [(0, 1), (1, 1), (2, 1), (3, 1)]), (51, [(0, 1), (1, 1), (2, 1), (3, 1)]), (62, [(0, 1), (1, 1), (2, 1)]), (63, [(0, 1), (1, 1), (2, 1)]), (70, [(0, 1)]), (71, [(0, 1)]), (74, [(0, 1), (1, 1)]), (75, [(0, 1), (1, 1)]), (86, [(0, 1), (1, 1), (2, 1), (3, 64), (67, 1)]), (87, [(0, 1), (1, 1), (2, 1), (3, 64), (67, 1)]), (96, [(0, 1), (1, 1)]), (97, [(0, 1), (1, 1)])]

theorem hU : U.OK Try.prog where
  und := by
    intro p hp
    simp only [U, List.mem_cons, List.not_mem_nil, or_false] at hp
    rcases hp with rfl | rfl | rfl | rfl | rfl | rfl | rfl | rfl | rfl | rfl | rfl | rfl | rfl | rfl | rfl | rfl | rfl | rfl | rfl | rfl | rfl | rfl | rfl | rfl | rfl | rfl | rfl | rfl | rfl | rfl | rfl | rfl | rfl | rfl | rfl | rfl | rfl | rfl | rfl
    · exact Try.underlying3
    · exact Try.underlying4
    · exact Try.underlying5
    · exact Try.underlying9
    · exact Try.underlying22
    · exact Try.underlying24
    · exact Try.underlying26
    · exact Try.underlying28
    · exact Try.underlying30
    · exact Try.underlying31
    · exact Try.underlying32
    · exact Try.underlying33
    · exact Try.underlying40
    · exact Try.underlying45
    · exact Try.underlying46
    · exact Try.underlying47
    · exact Try.underlying48
    · exact Try.underlying49
    · exact Try.underlying50
    · exact Try.underlying51
    · exact Try.underlying57
    · exact Try.underlying62
    · exact Try.underlying63
    · exact Try.underlying70
    · exact Try.underlying71
    · exact Try.underlying74
    · exact Try.underlying75
    · exact Try.underlying78
    · exact Try.underlying81
    · exact Try.underlying85
    · exact Try.underlying86
    · exact Try.underlying87
    · exact Try.underlying94
    · exact Try.underlying96
    · exact Try.underlying97
    · exact Try.underlying98
    · exact Try.underlying106
    · exact Try.underlying116
    · exact Try.underlying121
  fld := by
    intro p hp
    simp only [U, List.mem_cons, List.not_mem_nil, or_false] at hp
    rcases hp with rfl | rfl | rfl | rfl | rfl | rfl | rfl | rfl | rfl | rfl | rfl | rfl | rfl | rfl | rfl | rfl | rfl | rfl | rfl | rfl | rfl | rfl | rfl | rfl | rfl | rfl | rfl | rfl | rfl | rfl | rfl | rfl | rfl | rfl | rfl | rfl | rfl | rfl | rfl | rfl | rfl | rfl | rfl | rfl | rfl | rfl | rfl | rfl
    · exact ⟨_, _, Try.underlying30, rfl, rfl, rfl, Try.prog.types[9]!, by kernel_rfl, by decide +kernel⟩
    · exact ⟨_, _, Try.underlying30, rfl, rfl, rfl, Try.prog.types[22]!, by kernel_rfl, by decide +kernel⟩
    · exact ⟨_, _, Try.underlying30, rfl, rfl, rfl, Try.prog.types[4]!, by kernel_rfl, by decide +kernel⟩
    · exact ⟨_, _, Try.underlying31, rfl, rfl, rfl, Try.prog.types[9]!, by kernel_rfl, by decide +kernel⟩
    · exact ⟨_, _, Try.underlying31, rfl, rfl, rfl, Try.prog.types[22]!, by kernel_rfl, by decide +kernel⟩
    · exact ⟨_, _, Try.underlying31, rfl, rfl, rfl, Try.prog.types[4]!, by kernel_rfl, by decide +kernel⟩
    · exact ⟨_, _, Try.underlying46, rfl, rfl, rfl, Try.prog.types[22]!, by kernel_rfl, by decide +kernel⟩
    · exact ⟨_, _, Try.underlying46, rfl, rfl, rfl, Try.prog.types[45]!, by kernel_rfl, by decide +kernel⟩
    · exact ⟨_, _, Try.underlying46, rfl, rfl, rfl, Try.prog.types[3]!, by kernel_rfl, by decide +kernel⟩
    · exact ⟨_, _, Try.underlying46, rfl, rfl, rfl, Try.prog.types[4]!, by kernel_rfl, by decide +kernel⟩
    · exact ⟨_, _, Try.underlying47, rfl, rfl, rfl, Try.prog.types[22]!, by kernel_rfl, by decide +kernel⟩
    · exact ⟨_, _, Try.underlying47, rfl, rfl, rfl, Try.prog.types[45]!, by kernel_rfl, by decide +kernel⟩
    · exact ⟨_, _, Try.underlying47, rfl, rfl, rfl, Try.prog.types[3]!, by kernel_rfl, by decide +kernel⟩
    · exact ⟨_, _, Try.underlying47, rfl, rfl, rfl, Try.prog.types[4]!, by kernel_rfl, by decide +kernel⟩
    · exact ⟨_, _, Try.underlying50, rfl, rfl, rfl, Try.prog.types[40]!, by kernel_rfl, by decide +kernel⟩
    · exact ⟨_, _, Try.underlying50, rfl, rfl, rfl, Try.prog.types[48]!, by kernel_rfl, by decide +kernel⟩
    · exact ⟨_, _, Try.underlying50, rfl, rfl, rfl, Try.prog.types[49]!, by kernel_rfl, by decide +kernel⟩
    · exact ⟨_, _, Try.underlying50, rfl, rfl, rfl, Try.prog.types[4]!, by kernel_rfl, by decide +kernel⟩
    · exact ⟨_, _, Try.underlying51, rfl, rfl, rfl, Try.prog.types[40]!, by kernel_rfl, by decide +kernel⟩
    · exact ⟨_, _, Try.underlying51, rfl, rfl, rfl, Try.prog.types[48]!, by kernel_rfl, by decide +kernel⟩
    · exact ⟨_, _, Try.underlying51, rfl, rfl, rfl, Try.prog.types[49]!, by kernel_rfl, by decide +kernel⟩
    · exact ⟨_, _, Try.underlying51, rfl, rfl, rfl, Try.prog.types[4]!, by kernel_rfl, by decide +kernel⟩
    · exact ⟨_, _, Try.underlying62, rfl, rfl, rfl, Try.prog.types[3]!, by kernel_rfl, by decide +kernel⟩
    · exact ⟨_, _, Try.underlying62, rfl, rfl, rfl, Try.prog.types[3]!, by kernel_rfl, by decide +kernel⟩
    · exact ⟨_, _, Try.underlying62, rfl, rfl, rfl, Try.prog.types[49]!, by kernel_rfl, by decide +kernel⟩
    · exact ⟨_, _, Try.underlying63, rfl, rfl, rfl, Try.prog.types[3]!, by kernel_rfl, by decide +kernel⟩
    · exact ⟨_, _, Try.underlying63, rfl, rfl, rfl, Try.prog.types[3]!, by kernel_rfl, by decide +kernel⟩
    · exact ⟨_, _, Try.underlying63, rfl, rfl, rfl, Try.prog.types[49]!, by kernel_rfl, by decide +kernel⟩
    · exact ⟨_, _, Try.underlying70, rfl, rfl, rfl, Try.prog.types[26]!, by kernel_rfl, by decide +kernel⟩
    · exact ⟨_, _, Try.underlying71, rfl, rfl, rfl, Try.prog.types[26]!, by kernel_rfl, by decide +kernel⟩
    · exact ⟨_, _, Try.underlying74, rfl, rfl, rfl, Try.prog.types[26]!, by kernel_rfl, by decide +kernel⟩
    · exact ⟨_, _, Try.underlying74, rfl, rfl, rfl, Try.prog.types[45]!, by kernel_rfl, by decide +kernel⟩
    · exact ⟨_, _, Try.underlying75, rfl, rfl, rfl, Try.prog.types[26]!, by kernel_rfl, by decide +kernel⟩
    · exact ⟨_, _, Try.underlying75, rfl, rfl, rfl, Try.prog.types[45]!, by kernel_rfl, by decide +kernel⟩
    · exact ⟨_, _, Try.underlying86, rfl, rfl, rfl, Try.prog.types[24]!, by kernel_rfl, by decide +kernel⟩
    · exact ⟨_, _, Try.underlying86, rfl, rfl, rfl, Try.prog.types[48]!, by kernel_rfl, by decide +kernel⟩
    · exact ⟨_, _, Try.underlying86, rfl, rfl, rfl, Try.prog.types[49]!, by kernel_rfl, by decide +kernel⟩
    · exact ⟨_, _, Try.underlying86, rfl, rfl, rfl, Try.prog.types[85]!, by kernel_rfl, by decide +kernel⟩
    · exact ⟨_, _, Try.underlying86, rfl, rfl, rfl, Try.prog.types[49]!, by kernel_rfl, by decide +kernel⟩
    · exact ⟨_, _, Try.underlying87, rfl, rfl, rfl, Try.prog.types[24]!, by kernel_rfl, by decide +kernel⟩
    · exact ⟨_, _, Try.underlying87, rfl, rfl, rfl, Try.prog.types[48]!, by kernel_rfl, by decide +kernel⟩
    · exact ⟨_, _, Try.underlying87, rfl, rfl, rfl, Try.prog.types[49]!, by kernel_rfl, by decide +kernel⟩
    · exact ⟨_, _, Try.underlying87, rfl, rfl, rfl, Try.prog.types[85]!, by kernel_rfl, by decide +kernel⟩
    · exact ⟨_, _, Try.underlying87, rfl, rfl, rfl, Try.prog.types[49]!, by kernel_rfl, by decide +kernel⟩
    · exact ⟨_, _, Try.underlying96, rfl, rfl, rfl, Try.prog.types[3]!, by kernel_rfl, by decide +kernel⟩
    · exact ⟨_, _, Try.underlying96, rfl, rfl, rfl, Try.prog.types[22]!, by kernel_rfl, by decide +kernel⟩
    · exact ⟨_, _, Try.underlying97, rfl, rfl, rfl, Try.prog.types[3]!, by kernel_rfl, by decide +kernel⟩
    · exact ⟨_, _, Try.underlying97, rfl, rfl, rfl, Try.prog.types[22]!, by kernel_rfl, by decide +kernel⟩
  sz := by
    intro p hp
    simp only [U, List.mem_cons, List.not_mem_nil, or_false] at hp
    rcases hp with rfl | rfl | rfl | rfl | rfl | rfl | rfl | rfl | rfl | rfl | rfl | rfl | rfl | rfl | rfl | rfl | rfl | rfl | rfl | rfl | rfl | rfl | rfl | rfl | rfl | rfl | rfl | rfl | rfl | rfl | rfl | rfl | rfl | rfl | rfl | rfl | rfl | rfl | rfl
    · exact ⟨Try.prog.types[3]!, by kernel_rfl, by kernel_rfl⟩
    · exact ⟨Try.prog.types[4]!, by kernel_rfl, by kernel_rfl⟩
    · exact ⟨Try.prog.types[5]!, by kernel_rfl, by kernel_rfl⟩
    · exact ⟨Try.prog.types[9]!, by kernel_rfl, by kernel_rfl⟩
    · exact ⟨Try.prog.types[22]!, by kernel_rfl, by kernel_rfl⟩
    · exact ⟨Try.prog.types[24]!, by kernel_rfl, by kernel_rfl⟩
    · exact ⟨Try.prog.types[26]!, by kernel_rfl, by kernel_rfl⟩
    · exact ⟨Try.prog.types[28]!, by kernel_rfl, by kernel_rfl⟩
    · exact ⟨Try.prog.types[30]!, by kernel_rfl, by kernel_rfl⟩
    · exact ⟨Try.prog.types[31]!, by kernel_rfl, by kernel_rfl⟩
    · exact ⟨Try.prog.types[32]!, by kernel_rfl, by kernel_rfl⟩
    · exact ⟨Try.prog.types[33]!, by kernel_rfl, by kernel_rfl⟩
    · exact ⟨Try.prog.types[40]!, by kernel_rfl, by kernel_rfl⟩
    · exact ⟨Try.prog.types[45]!, by kernel_rfl, by kernel_rfl⟩
    · exact ⟨Try.prog.types[46]!, by kernel_rfl, by kernel_rfl⟩
    · exact ⟨Try.prog.types[47]!, by kernel_rfl, by kernel_rfl⟩
    · exact ⟨Try.prog.types[48]!, by kernel_rfl, by kernel_rfl⟩
    · exact ⟨Try.prog.types[49]!, by kernel_rfl, by kernel_rfl⟩
    · exact ⟨Try.prog.types[50]!, by kernel_rfl, by kernel_rfl⟩
    · exact ⟨Try.prog.types[51]!, by kernel_rfl, by kernel_rfl⟩
    · exact ⟨Try.prog.types[57]!, by kernel_rfl, by kernel_rfl⟩
    · exact ⟨Try.prog.types[62]!, by kernel_rfl, by kernel_rfl⟩
    · exact ⟨Try.prog.types[63]!, by kernel_rfl, by kernel_rfl⟩
    · exact ⟨Try.prog.types[70]!, by kernel_rfl, by kernel_rfl⟩
    · exact ⟨Try.prog.types[71]!, by kernel_rfl, by kernel_rfl⟩
    · exact ⟨Try.prog.types[74]!, by kernel_rfl, by kernel_rfl⟩
    · exact ⟨Try.prog.types[75]!, by kernel_rfl, by kernel_rfl⟩
    · exact ⟨Try.prog.types[78]!, by kernel_rfl, by kernel_rfl⟩
    · exact ⟨Try.prog.types[81]!, by kernel_rfl, by kernel_rfl⟩
    · exact ⟨Try.prog.types[85]!, by kernel_rfl, by kernel_rfl⟩
    · exact ⟨Try.prog.types[86]!, by kernel_rfl, by kernel_rfl⟩
    · exact ⟨Try.prog.types[87]!, by kernel_rfl, by kernel_rfl⟩
    · exact ⟨Try.prog.types[94]!, by kernel_rfl, by kernel_rfl⟩
    · exact ⟨Try.prog.types[96]!, by kernel_rfl, by kernel_rfl⟩
    · exact ⟨Try.prog.types[97]!, by kernel_rfl, by kernel_rfl⟩
    · exact ⟨Try.prog.types[98]!, by kernel_rfl, by kernel_rfl⟩
    · exact ⟨Try.prog.types[106]!, by kernel_rfl, by kernel_rfl⟩
    · exact ⟨Try.prog.types[116]!, by kernel_rfl, by kernel_rfl⟩
    · exact ⟨Try.prog.types[121]!, by kernel_rfl, by kernel_rfl⟩
  ti := by
    intro p hp
    simp only [U, List.mem_cons, List.not_mem_nil, or_false] at hp
    rcases hp with rfl | rfl | rfl | rfl | rfl | rfl | rfl | rfl | rfl | rfl | rfl | rfl | rfl | rfl | rfl | rfl | rfl | rfl | rfl | rfl | rfl | rfl | rfl | rfl | rfl | rfl | rfl | rfl | rfl | rfl | rfl | rfl | rfl | rfl | rfl | rfl | rfl | rfl | rfl
    · exact ⟨Try.prog.types[3]!, by kernel_rfl, by kernel_rfl, by kernel_rfl, by kernel_rfl⟩
    · exact ⟨Try.prog.types[4]!, by kernel_rfl, by kernel_rfl, by kernel_rfl, by kernel_rfl⟩
    · exact ⟨Try.prog.types[5]!, by kernel_rfl, by kernel_rfl, by kernel_rfl, by kernel_rfl⟩
    · exact ⟨Try.prog.types[9]!, by kernel_rfl, by kernel_rfl, by kernel_rfl, by kernel_rfl⟩
    · exact ⟨Try.prog.types[22]!, by kernel_rfl, by kernel_rfl, by kernel_rfl, by kernel_rfl⟩
    · exact ⟨Try.prog.types[24]!, by kernel_rfl, by kernel_rfl, by kernel_rfl, by kernel_rfl⟩
    · exact ⟨Try.prog.types[26]!, by kernel_rfl, by kernel_rfl, by kernel_rfl, by kernel_rfl⟩
    · exact ⟨Try.prog.types[28]!, by kernel_rfl, by kernel_rfl, by kernel_rfl, by kernel_rfl⟩
    · exact ⟨Try.prog.types[30]!, by kernel_rfl, by kernel_rfl, by kernel_rfl, by kernel_rfl⟩
    · exact ⟨Try.prog.types[31]!, by kernel_rfl, by kernel_rfl, by kernel_rfl, by kernel_rfl⟩
    · exact ⟨Try.prog.types[32]!, by kernel_rfl, by kernel_rfl, by kernel_rfl, by kernel_rfl⟩
    · exact ⟨Try.prog.types[33]!, by kernel_rfl, by kernel_rfl, by kernel_rfl, by kernel_rfl⟩
    · exact ⟨Try.prog.types[40]!, by kernel_rfl, by kernel_rfl, by kernel_rfl, by kernel_rfl⟩
    · exact ⟨Try.prog.types[45]!, by kernel_rfl, by kernel_rfl, by kernel_rfl, by kernel_rfl⟩
    · exact ⟨Try.prog.types[46]!, by kernel_rfl, by kernel_rfl, by kernel_rfl, by kernel_rfl⟩
    · exact ⟨Try.prog.types[47]!, by kernel_rfl, by kernel_rfl, by kernel_rfl, by kernel_rfl⟩
    · exact ⟨Try.prog.types[48]!, by kernel_rfl, by kernel_rfl, by kernel_rfl, by kernel_rfl⟩
    · exact ⟨Try.prog.types[49]!, by kernel_rfl, by kernel_rfl, by kernel_rfl, by kernel_rfl⟩
    · exact ⟨Try.prog.types[50]!, by kernel_rfl, by kernel_rfl, by kernel_rfl, by kernel_rfl⟩
    · exact ⟨Try.prog.types[51]!, by kernel_rfl, by kernel_rfl, by kernel_rfl, by kernel_rfl⟩
    · exact ⟨Try.prog.types[57]!, by kernel_rfl, by kernel_rfl, by kernel_rfl, by kernel_rfl⟩
    · exact ⟨Try.prog.types[62]!, by kernel_rfl, by kernel_rfl, by kernel_rfl, by kernel_rfl⟩
    · exact ⟨Try.prog.types[63]!, by kernel_rfl, by kernel_rfl, by kernel_rfl, by kernel_rfl⟩
    · exact ⟨Try.prog.types[70]!, by kernel_rfl, by kernel_rfl, by kernel_rfl, by kernel_rfl⟩
    · exact ⟨Try.prog.types[71]!, by kernel_rfl, by kernel_rfl, by kernel_rfl, by kernel_rfl⟩
    · exact ⟨Try.prog.types[74]!, by kernel_rfl, by kernel_rfl, by kernel_rfl, by kernel_rfl⟩
    · exact ⟨Try.prog.types[75]!, by kernel_rfl, by kernel_rfl, by kernel_rfl, by kernel_rfl⟩
    · exact ⟨Try.prog.types[78]!, by kernel_rfl, by kernel_rfl, by kernel_rfl, by kernel_rfl⟩
    · exact ⟨Try.prog.types[81]!, by kernel_rfl, by kernel_rfl, by kernel_rfl, by kernel_rfl⟩
    · exact ⟨Try.prog.types[85]!, by kernel_rfl, by kernel_rfl, by kernel_rfl, by kernel_rfl⟩
    · exact ⟨Try.prog.types[86]!, by kernel_rfl, by kernel_rfl, by kernel_rfl, by kernel_rfl⟩
    · exact ⟨Try.prog.types[87]!, by kernel_rfl, by kernel_rfl, by kernel_rfl, by kernel_rfl⟩
    · exact ⟨Try.prog.types[94]!, by kernel_rfl, by kernel_rfl, by kernel_rfl, by kernel_rfl⟩
    · exact ⟨Try.prog.types[96]!, by kernel_rfl, by kernel_rfl, by kernel_rfl, by kernel_rfl⟩
    · exact ⟨Try.prog.types[97]!, by kernel_rfl, by kernel_rfl, by kernel_rfl, by kernel_rfl⟩
    · exact ⟨Try.prog.types[98]!, by kernel_rfl, by kernel_rfl, by kernel_rfl, by kernel_rfl⟩
    · exact ⟨Try.prog.types[106]!, by kernel_rfl, by kernel_rfl, by kernel_rfl, by kernel_rfl⟩
    · exact ⟨Try.prog.types[116]!, by kernel_rfl, by kernel_rfl, by kernel_rfl, by kernel_rfl⟩
    · exact ⟨Try.prog.types[121]!, by kernel_rfl, by kernel_rfl, by kernel_rfl, by kernel_rfl⟩
  bld := by
    intro p hp
    simp only [U, List.mem_cons, List.not_mem_nil, or_false] at hp
    rcases hp with rfl | rfl | rfl | rfl | rfl | rfl | rfl | rfl | rfl | rfl | rfl | rfl | rfl | rfl | rfl | rfl
    · exact ⟨_, Try.underlying30, by kernel_rfl⟩
    · exact ⟨_, Try.underlying31, by kernel_rfl⟩
    · exact ⟨_, Try.underlying46, by kernel_rfl⟩
    · exact ⟨_, Try.underlying47, by kernel_rfl⟩
    · exact ⟨_, Try.underlying50, by kernel_rfl⟩
    · exact ⟨_, Try.underlying51, by kernel_rfl⟩
    · exact ⟨_, Try.underlying62, by kernel_rfl⟩
    · exact ⟨_, Try.underlying63, by kernel_rfl⟩
    · exact ⟨_, Try.underlying70, by kernel_rfl⟩
    · exact ⟨_, Try.underlying71, by kernel_rfl⟩
    · exact ⟨_, Try.underlying74, by kernel_rfl⟩
    · exact ⟨_, Try.underlying75, by kernel_rfl⟩
    · exact ⟨_, Try.underlying86, by kernel_rfl⟩
    · exact ⟨_, Try.underlying87, by kernel_rfl⟩
    · exact ⟨_, Try.underlying96, by kernel_rfl⟩
    · exact ⟨_, Try.underlying97, by kernel_rfl⟩
  mixed := by kernel_rfl
end Go.Proofs.Ytlibhidhfbecbaa.XT
