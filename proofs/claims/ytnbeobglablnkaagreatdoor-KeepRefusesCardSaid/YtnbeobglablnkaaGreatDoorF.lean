/-
  ENGINE: contracts of calls on constants, as literals (printed by a program of our own).
-/
import Derived.Test.YtnbeobglablnkaaGreatDoorOk
import Derived.Test.YtnbeobglablnkaaGreatDoorEc
namespace Go.Proofs.Evz
open Go Go.Conc
set_option maxRecDepth 100000
noncomputable def hsA : AHeap := AHeap.put .nil 0 (some (.cells 346 [.int .u8 (.ofNat 0), .int .u8 (.ofNat 0), .int .u8 (.ofNat 0), .int .u8 (.ofNat 0), .int .u8 (.ofNat 0), .int .u8 (.ofNat 0), .int .u8 (.ofNat 0), .int .u8 (.ofNat 0), .int .u8 (.ofNat 0), .int .u8 (.ofNat 1), .int .u8 (.ofNat 1), .int .u8 (.ofNat 1), .int .u8 (.ofNat 1), .int .u8 (.ofNat 1), .int .u8 (.ofNat 0), .int .u8 (.ofNat 0), .int .u8 (.ofNat 0), .int .u8 (.ofNat 0), .int .u8 (.ofNat 0), .int .u8 (.ofNat 0), .int .u8 (.ofNat 0), .int .u8 (.ofNat 0), .int .u8 (.ofNat 0), .int .u8 (.ofNat 0), .int .u8 (.ofNat 0), .int .u8 (.ofNat 0), .int .u8 (.ofNat 0), .int .u8 (.ofNat 0), .int .u8 (.ofNat 0), .int .u8 (.ofNat 0), .int .u8 (.ofNat 0), .int .u8 (.ofNat 0), .int .u8 (.ofNat 1), .int .u8 (.ofNat 0), .int .u8 (.ofNat 0), .int .u8 (.ofNat 0), .int .u8 (.ofNat 0), .int .u8 (.ofNat 0), .int .u8 (.ofNat 0), .int .u8 (.ofNat 0), .int .u8 (.ofNat 0), .int .u8 (.ofNat 0), .int .u8 (.ofNat 0), .int .u8 (.ofNat 0), .int .u8 (.ofNat 0), .int .u8 (.ofNat 0), .int .u8 (.ofNat 0), .int .u8 (.ofNat 0), .int .u8 (.ofNat 0), .int .u8 (.ofNat 0), .int .u8 (.ofNat 0), .int .u8 (.ofNat 0), .int .u8 (.ofNat 0), .int .u8 (.ofNat 0), .int .u8 (.ofNat 0), .int .u8 (.ofNat 0), .int .u8 (.ofNat 0), .int .u8 (.ofNat 0), .int .u8 (.ofNat 0), .int .u8 (.ofNat 0), .int .u8 (.ofNat 0), .int .u8 (.ofNat 0), .int .u8 (.ofNat 0), .int .u8 (.ofNat 0), .int .u8 (.ofNat 0), .int .u8 (.ofNat 0), .int .u8 (.ofNat 0), .int .u8 (.ofNat 0), .int .u8 (.ofNat 0), .int .u8 (.ofNat 0), .int .u8 (.ofNat 0), .int .u8 (.ofNat 0), .int .u8 (.ofNat 0), .int .u8 (.ofNat 0), .int .u8 (.ofNat 0), .int .u8 (.ofNat 0), .int .u8 (.ofNat 0), .int .u8 (.ofNat 0), .int .u8 (.ofNat 0), .int .u8 (.ofNat 0), .int .u8 (.ofNat 0), .int .u8 (.ofNat 0), .int .u8 (.ofNat 0), .int .u8 (.ofNat 0), .int .u8 (.ofNat 0), .int .u8 (.ofNat 0), .int .u8 (.ofNat 0), .int .u8 (.ofNat 0), .int .u8 (.ofNat 0), .int .u8 (.ofNat 0), .int .u8 (.ofNat 0), .int .u8 (.ofNat 0), .int .u8 (.ofNat 0), .int .u8 (.ofNat 0), .int .u8 (.ofNat 0), .int .u8 (.ofNat 0), .int .u8 (.ofNat 0), .int .u8 (.ofNat 0), .int .u8 (.ofNat 0), .int .u8 (.ofNat 0), .int .u8 (.ofNat 0), .int .u8 (.ofNat 0), .int .u8 (.ofNat 0), .int .u8 (.ofNat 0), .int .u8 (.ofNat 0), .int .u8 (.ofNat 0), .int .u8 (.ofNat 0), .int .u8 (.ofNat 0), .int .u8 (.ofNat 0), .int .u8 (.ofNat 0), .int .u8 (.ofNat 0), .int .u8 (.ofNat 0), .int .u8 (.ofNat 0), .int .u8 (.ofNat 0), .int .u8 (.ofNat 0), .int .u8 (.ofNat 0), .int .u8 (.ofNat 0), .int .u8 (.ofNat 0), .int .u8 (.ofNat 0), .int .u8 (.ofNat 0), .int .u8 (.ofNat 0), .int .u8 (.ofNat 0), .int .u8 (.ofNat 0), .int .u8 (.ofNat 0), .int .u8 (.ofNat 0), .int .u8 (.ofNat 0), .int .u8 (.ofNat 0), .int .u8 (.ofNat 0), .int .u8 (.ofNat 0), .int .u8 (.ofNat 0), .int .u8 (.ofNat 0), .int .u8 (.ofNat 0), .int .u8 (.ofNat 0), .int .u8 (.ofNat 0), .int .u8 (.ofNat 0), .int .u8 (.ofNat 0), .int .u8 (.ofNat 0), .int .u8 (.ofNat 0), .int .u8 (.ofNat 0), .int .u8 (.ofNat 0), .int .u8 (.ofNat 0), .int .u8 (.ofNat 0), .int .u8 (.ofNat 0), .int .u8 (.ofNat 0), .int .u8 (.ofNat 0), .int .u8 (.ofNat 0), .int .u8 (.ofNat 0), .int .u8 (.ofNat 0), .int .u8 (.ofNat 0), .int .u8 (.ofNat 0), .int .u8 (.ofNat 0), .int .u8 (.ofNat 0), .int .u8 (.ofNat 0), .int .u8 (.ofNat 0), .int .u8 (.ofNat 0), .int .u8 (.ofNat 0), .int .u8 (.ofNat 0), .int .u8 (.ofNat 0), .int .u8 (.ofNat 0), .int .u8 (.ofNat 0), .int .u8 (.ofNat 0), .int .u8 (.ofNat 0), .int .u8 (.ofNat 0), .int .u8 (.ofNat 0), .int .u8 (.ofNat 0), .int .u8 (.ofNat 0), .int .u8 (.ofNat 0), .int .u8 (.ofNat 0), .int .u8 (.ofNat 0), .int .u8 (.ofNat 0), .int .u8 (.ofNat 0), .int .u8 (.ofNat 0), .int .u8 (.ofNat 0), .int .u8 (.ofNat 0), .int .u8 (.ofNat 0), .int .u8 (.ofNat 0), .int .u8 (.ofNat 0), .int .u8 (.ofNat 0), .int .u8 (.ofNat 0), .int .u8 (.ofNat 0), .int .u8 (.ofNat 0), .int .u8 (.ofNat 0), .int .u8 (.ofNat 0), .int .u8 (.ofNat 0), .int .u8 (.ofNat 0), .int .u8 (.ofNat 0), .int .u8 (.ofNat 0), .int .u8 (.ofNat 0), .int .u8 (.ofNat 0), .int .u8 (.ofNat 0), .int .u8 (.ofNat 0), .int .u8 (.ofNat 0), .int .u8 (.ofNat 0), .int .u8 (.ofNat 0), .int .u8 (.ofNat 0), .int .u8 (.ofNat 0), .int .u8 (.ofNat 0), .int .u8 (.ofNat 0), .int .u8 (.ofNat 0), .int .u8 (.ofNat 0), .int .u8 (.ofNat 0), .int .u8 (.ofNat 0), .int .u8 (.ofNat 0), .int .u8 (.ofNat 0), .int .u8 (.ofNat 0), .int .u8 (.ofNat 0), .int .u8 (.ofNat 0), .int .u8 (.ofNat 0), .int .u8 (.ofNat 0), .int .u8 (.ofNat 0), .int .u8 (.ofNat 0), .int .u8 (.ofNat 0), .int .u8 (.ofNat 0), .int .u8 (.ofNat 0), .int .u8 (.ofNat 0), .int .u8 (.ofNat 0), .int .u8 (.ofNat 0), .int .u8 (.ofNat 0), .int .u8 (.ofNat 0), .int .u8 (.ofNat 0), .int .u8 (.ofNat 0), .int .u8 (.ofNat 0), .int .u8 (.ofNat 0), .int .u8 (.ofNat 0), .int .u8 (.ofNat 0), .int .u8 (.ofNat 0), .int .u8 (.ofNat 0), .int .u8 (.ofNat 0), .int .u8 (.ofNat 0), .int .u8 (.ofNat 0), .int .u8 (.ofNat 0), .int .u8 (.ofNat 0), .int .u8 (.ofNat 0), .int .u8 (.ofNat 0), .int .u8 (.ofNat 0), .int .u8 (.ofNat 0), .int .u8 (.ofNat 0), .int .u8 (.ofNat 0), .int .u8 (.ofNat 0), .int .u8 (.ofNat 0), .int .u8 (.ofNat 0), .int .u8 (.ofNat 0), .int .u8 (.ofNat 0), .int .u8 (.ofNat 0), .int .u8 (.ofNat 0), .int .u8 (.ofNat 0), .int .u8 (.ofNat 0), .int .u8 (.ofNat 0), .int .u8 (.ofNat 0), .int .u8 (.ofNat 0), .int .u8 (.ofNat 0), .int .u8 (.ofNat 0), .int .u8 (.ofNat 0), .int .u8 (.ofNat 0), .int .u8 (.ofNat 0), .int .u8 (.ofNat 0)] false true))
noncomputable def crF1 : CR where
  f := 173
  vs := [.string ⟨⟨[61, 61, 61, 32, 33, 61, 61, 32, 60, 61, 32, 62, 61, 32, 38, 38, 32, 124, 124, 32, 123, 32, 125, 32, 40, 32, 41, 32, 91, 32, 93, 32, 59, 32, 44, 32, 46, 32, 63, 32, 58, 32, 61, 32, 60, 32, 62, 32, 43, 32, 45, 32, 42, 32, 47, 32, 37, 32, 33]⟩⟩]
  Hs := hsA
  ids := [0]
  nxs := 7
  nxs' := 8
  v := .slice (some ⟨7, 0, none⟩) 26 26
  L := [(7, 9, [.string ⟨⟨[61, 61, 61]⟩⟩, .string ⟨⟨[33, 61, 61]⟩⟩, .string ⟨⟨[60, 61]⟩⟩, .string ⟨⟨[62, 61]⟩⟩, .string ⟨⟨[38, 38]⟩⟩, .string ⟨⟨[124, 124]⟩⟩, .string ⟨⟨[123]⟩⟩, .string ⟨⟨[125]⟩⟩, .string ⟨⟨[40]⟩⟩, .string ⟨⟨[41]⟩⟩, .string ⟨⟨[91]⟩⟩, .string ⟨⟨[93]⟩⟩, .string ⟨⟨[59]⟩⟩, .string ⟨⟨[44]⟩⟩, .string ⟨⟨[46]⟩⟩, .string ⟨⟨[63]⟩⟩, .string ⟨⟨[58]⟩⟩, .string ⟨⟨[61]⟩⟩, .string ⟨⟨[60]⟩⟩, .string ⟨⟨[62]⟩⟩, .string ⟨⟨[43]⟩⟩, .string ⟨⟨[45]⟩⟩, .string ⟨⟨[42]⟩⟩, .string ⟨⟨[47]⟩⟩, .string ⟨⟨[37]⟩⟩, .string ⟨⟨[33]⟩⟩], false)]
noncomputable def crF2 : CR where
  f := 173
  vs := [.string ⟨⟨[108, 101, 116, 32, 99, 111, 110, 115, 116, 32, 102, 117, 110, 99, 116, 105, 111, 110, 32, 114, 101, 116, 117, 114, 110, 32, 105, 102, 32, 101, 108, 115, 101, 32, 119, 104, 105, 108, 101, 32, 98, 114, 101, 97, 107, 32, 99, 111, 110, 116, 105, 110, 117, 101, 32, 116, 104, 114, 111, 119, 32, 116, 114, 121, 32, 99, 97, 116, 99, 104, 32, 116, 114, 117, 101, 32, 102, 97, 108, 115, 101, 32, 110, 117, 108, 108, 32, 117, 110, 100, 101, 102, 105, 110, 101, 100, 32, 116, 104, 105, 115, 32, 116, 121, 112, 101, 111, 102, 32, 121, 105, 101, 108, 100]⟩⟩]
  Hs := hsA
  ids := [0]
  nxs := 7
  nxs' := 8
  v := .slice (some ⟨7, 0, none⟩) 19 19
  L := [(7, 9, [.string ⟨⟨[108, 101, 116]⟩⟩, .string ⟨⟨[99, 111, 110, 115, 116]⟩⟩, .string ⟨⟨[102, 117, 110, 99, 116, 105, 111, 110]⟩⟩, .string ⟨⟨[114, 101, 116, 117, 114, 110]⟩⟩, .string ⟨⟨[105, 102]⟩⟩, .string ⟨⟨[101, 108, 115, 101]⟩⟩, .string ⟨⟨[119, 104, 105, 108, 101]⟩⟩, .string ⟨⟨[98, 114, 101, 97, 107]⟩⟩, .string ⟨⟨[99, 111, 110, 116, 105, 110, 117, 101]⟩⟩, .string ⟨⟨[116, 104, 114, 111, 119]⟩⟩, .string ⟨⟨[116, 114, 121]⟩⟩, .string ⟨⟨[99, 97, 116, 99, 104]⟩⟩, .string ⟨⟨[116, 114, 117, 101]⟩⟩, .string ⟨⟨[102, 97, 108, 115, 101]⟩⟩, .string ⟨⟨[110, 117, 108, 108]⟩⟩, .string ⟨⟨[117, 110, 100, 101, 102, 105, 110, 101, 100]⟩⟩, .string ⟨⟨[116, 104, 105, 115]⟩⟩, .string ⟨⟨[116, 121, 112, 101, 111, 102]⟩⟩, .string ⟨⟨[121, 105, 101, 108, 100]⟩⟩], false)]
noncomputable def crL : CR where
  f := 45
  vs := [.string ⟨⟨[108, 101, 116, 32, 105, 32, 61, 32, 48, 59, 32, 119, 104, 105, 108, 101, 32, 40, 116, 114, 117, 101, 41, 32, 123, 32, 105, 32, 61, 32, 105, 32, 43, 32, 49, 59, 32, 125]⟩⟩]
  Hs := hsA
  ids := [0]
  nxs := 7
  nxs' := 291
  v := .slice (some ⟨290, 0, none⟩) 18 18
  L := [(290, 171, [.int .i64 (.ofNat 4), .string ⟨⟨[108, 101, 116]⟩⟩, .int .i64 (.ofNat 0), .int .i64 (.ofNat 0), .bool false, .int .i64 (.ofNat 3), .string ⟨⟨[105]⟩⟩, .int .i64 (.ofNat 0), .int .i64 (.ofNat 4), .bool false, .int .i64 (.ofNat 5), .string ⟨⟨[61]⟩⟩, .int .i64 (.ofNat 0), .int .i64 (.ofNat 6), .bool false, .int .i64 (.ofNat 1), .string ⟨⟨[48]⟩⟩, .int .i64 (.ofNat 0), .int .i64 (.ofNat 8), .bool false, .int .i64 (.ofNat 5), .string ⟨⟨[59]⟩⟩, .int .i64 (.ofNat 0), .int .i64 (.ofNat 9), .bool false, .int .i64 (.ofNat 4), .string ⟨⟨[119, 104, 105, 108, 101]⟩⟩, .int .i64 (.ofNat 0), .int .i64 (.ofNat 11), .bool false, .int .i64 (.ofNat 5), .string ⟨⟨[40]⟩⟩, .int .i64 (.ofNat 0), .int .i64 (.ofNat 17), .bool false, .int .i64 (.ofNat 4), .string ⟨⟨[116, 114, 117, 101]⟩⟩, .int .i64 (.ofNat 0), .int .i64 (.ofNat 18), .bool false, .int .i64 (.ofNat 5), .string ⟨⟨[41]⟩⟩, .int .i64 (.ofNat 0), .int .i64 (.ofNat 22), .bool false, .int .i64 (.ofNat 5), .string ⟨⟨[123]⟩⟩, .int .i64 (.ofNat 0), .int .i64 (.ofNat 24), .bool false, .int .i64 (.ofNat 3), .string ⟨⟨[105]⟩⟩, .int .i64 (.ofNat 0), .int .i64 (.ofNat 26), .bool false, .int .i64 (.ofNat 5), .string ⟨⟨[61]⟩⟩, .int .i64 (.ofNat 0), .int .i64 (.ofNat 28), .bool false, .int .i64 (.ofNat 3), .string ⟨⟨[105]⟩⟩, .int .i64 (.ofNat 0), .int .i64 (.ofNat 30), .bool false, .int .i64 (.ofNat 5), .string ⟨⟨[43]⟩⟩, .int .i64 (.ofNat 0), .int .i64 (.ofNat 32), .bool false, .int .i64 (.ofNat 1), .string ⟨⟨[49]⟩⟩, .int .i64 (.ofNat 1), .int .i64 (.ofNat 34), .bool false, .int .i64 (.ofNat 5), .string ⟨⟨[59]⟩⟩, .int .i64 (.ofNat 0), .int .i64 (.ofNat 35), .bool false, .int .i64 (.ofNat 5), .string ⟨⟨[125]⟩⟩, .int .i64 (.ofNat 0), .int .i64 (.ofNat 37), .bool false, .int .i64 (.ofNat 0), .string ⟨⟨[]⟩⟩, .int .i64 (.ofNat 0), .int .i64 (.ofNat 38), .bool false], true)]
end Go.Proofs.Evz

/-
  ENGINE: the runs of the first contracts.
-/
namespace Go.Proofs.Evz
open Go Go.Conc
set_option maxRecDepth 100000
theorem crF1_run : crB crF1 (ev env KN 2000 (.call crF1.f crF1.vs) ⟨.nil, 0, crF1.Hs, crF1.nxs, [], .no⟩) = true := by kernel_rfl
theorem crF2_run : crB crF2 (ev env KN 2000 (.call crF2.f crF2.vs) ⟨.nil, 0, crF2.Hs, crF2.nxs, [], .no⟩) = true := by kernel_rfl
end Go.Proofs.Evz

/-
  ENGINE: the run of the lexer on the constant text.
-/
namespace Go.Proofs.Evz
open Go Go.Conc
set_option maxRecDepth 100000
noncomputable def K1 : Con := orK (crK crF1) (orK (crK crF2) (idxK 343))
theorem crL_run : crB crL (ev env K1 2000 (.call crL.f crL.vs) ⟨.nil, 0, crL.Hs, crL.nxs, [], .no⟩) = true := by kernel_rfl
end Go.Proofs.Evz
