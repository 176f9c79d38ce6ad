/-
  Facts on the types of the translation, each by the kernel. Written by a program of mine (facts.py).
-/
import Derived.Test.YtolhahlnccekcaaDoorProg
import Derived.Test.YtolhahlnccekcaaDoorPwA20
import Derived.KernelRfl
namespace Go.Proofs.YtolhahlnccekcaaDoor.Abs
@[go_sem] theorem sz1 : sizeT Tryd.prog 1 = some 1 := by kernel_rfl
@[go_sem] theorem sz2 : sizeT Tryd.prog 2 = some 1 := by kernel_rfl
@[go_sem] theorem sz3 : sizeT Tryd.prog 3 = some 1 := by kernel_rfl
@[go_sem] theorem ag3 : aggT Tryd.prog 3 = some false := by kernel_rfl
@[go_sem] theorem ud3 : ud Tryd.prog 3 = .int .i64 := by kernel_rfl
@[go_sem] theorem sz5 : sizeT Tryd.prog 5 = some 1 := by kernel_rfl
@[go_sem] theorem ud5 : ud Tryd.prog 5 = .int .u8 := by kernel_rfl
@[go_sem] theorem zc5 : zcells Tryd.prog 5 = some [.lit (.int .u8 0)] := by kernel_rfl
@[go_sem] theorem sz9 : sizeT Tryd.prog 9 = some 1 := by kernel_rfl
@[go_sem] theorem by9 : (Tryd.prog.info? 9).map (·.bytes) = some 16 := by kernel_rfl
@[go_sem] theorem ag9 : aggT Tryd.prog 9 = some false := by kernel_rfl
@[go_sem] theorem ud9 : ud Tryd.prog 9 = .str := by kernel_rfl
@[go_sem] theorem zc9 : zcells Tryd.prog 9 = some [.lit (.string ByteArray.empty)] := by kernel_rfl
@[go_sem] theorem sz24 : sizeT Tryd.prog 24 = some 1 := by kernel_rfl
@[go_sem] theorem ag24 : aggT Tryd.prog 24 = some false := by kernel_rfl
@[go_sem] theorem ud24 : ud Tryd.prog 24 = .int .u32 := by kernel_rfl
@[go_sem] theorem sz25 : sizeT Tryd.prog 25 = some 1 := by kernel_rfl
@[go_sem] theorem ag25 : aggT Tryd.prog 25 = some false := by kernel_rfl
@[go_sem] theorem ud25 : ud Tryd.prog 25 = .sl 27 := by kernel_rfl
@[go_sem] theorem sz27 : sizeT Tryd.prog 27 = some 5 := by kernel_rfl
@[go_sem] theorem by27 : (Tryd.prog.info? 27).map (·.bytes) = some 64 := by kernel_rfl
@[go_sem] theorem ag27 : aggT Tryd.prog 27 = some true := by kernel_rfl
@[go_sem] theorem ud27 : ud Tryd.prog 27 = .st := by kernel_rfl
@[go_sem] theorem zc27 : zcells Tryd.prog 27 = some [.lit (.int .i64 0), .lit (.int .i64 0), .lit (.string ByteArray.empty), .lit (.int .u32 0), .list .exact []] := by kernel_rfl
@[go_sem] theorem sp27 : splaces Tryd.prog 27 = some [(0, 1), (1, 1), (2, 1), (3, 1), (4, 1)] := by kernel_rfl
@[go_sem] theorem fo27_0 : foff Tryd.prog 27 0 = some 0 := by kernel_rfl
@[go_sem] theorem fo27_1 : foff Tryd.prog 27 1 = some 1 := by kernel_rfl
@[go_sem] theorem fo27_2 : foff Tryd.prog 27 2 = some 2 := by kernel_rfl
@[go_sem] theorem fo27_3 : foff Tryd.prog 27 3 = some 3 := by kernel_rfl
@[go_sem] theorem fo27_4 : foff Tryd.prog 27 4 = some 4 := by kernel_rfl
@[go_sem] theorem sz28 : sizeT Tryd.prog 28 = some 1 := by kernel_rfl
@[go_sem] theorem ag28 : aggT Tryd.prog 28 = some false := by kernel_rfl
@[go_sem] theorem ud31 : ud Tryd.prog 31 = .sl 5 := by kernel_rfl
@[go_sem] theorem ud32 : ud Tryd.prog 32 = .ar 13 9 := by kernel_rfl
@[go_sem] theorem ud34 : ud Tryd.prog 34 = .sl 37 := by kernel_rfl
@[go_sem] theorem sz37 : sizeT Tryd.prog 37 = some 5 := by kernel_rfl
@[go_sem] theorem by37 : (Tryd.prog.info? 37).map (·.bytes) = some 48 := by kernel_rfl
@[go_sem] theorem ud37 : ud Tryd.prog 37 = .st := by kernel_rfl
@[go_sem] theorem zc37 : zcells Tryd.prog 37 = some [.lit (.int .i64 0), .lit (.int .i64 0), .lit (.string ByteArray.empty), .lit (.int .u32 0), .lit (.int .i64 0)] := by kernel_rfl
@[go_sem] theorem sp37 : splaces Tryd.prog 37 = some [(0, 1), (1, 1), (2, 1), (3, 1), (4, 1)] := by kernel_rfl
@[go_sem] theorem fo37_2 : foff Tryd.prog 37 2 = some 2 := by kernel_rfl
@[go_sem] theorem ud65 : ud Tryd.prog 65 = .sl 9 := by kernel_rfl
@[go_sem] theorem sz66 : sizeT Tryd.prog 66 = some 1 := by kernel_rfl
@[go_sem] theorem ag66 : aggT Tryd.prog 66 = some false := by kernel_rfl
@[go_sem] theorem ud66 : ud Tryd.prog 66 = .sl 74 := by kernel_rfl
@[go_sem] theorem sz69 : sizeT Tryd.prog 69 = some 1 := by kernel_rfl
@[go_sem] theorem ag69 : aggT Tryd.prog 69 = some false := by kernel_rfl
@[go_sem] theorem ud71 : ud Tryd.prog 71 = .st := by kernel_rfl
@[go_sem] theorem zc71 : zcells Tryd.prog 71 = some [.list .exact [], .lit (.int .i64 0), .lit (.int .i64 0), .lit (.int .i64 0), .lit (.int .i64 0)] := by kernel_rfl
@[go_sem] theorem sp71 : splaces Tryd.prog 71 = some [(0, 1), (1, 1), (2, 1), (3, 1), (4, 1)] := by kernel_rfl
@[go_sem] theorem fo71_0 : foff Tryd.prog 71 0 = some 0 := by kernel_rfl
@[go_sem] theorem fo71_1 : foff Tryd.prog 71 1 = some 1 := by kernel_rfl
@[go_sem] theorem fo71_2 : foff Tryd.prog 71 2 = some 2 := by kernel_rfl
@[go_sem] theorem fo71_3 : foff Tryd.prog 71 3 = some 3 := by kernel_rfl
@[go_sem] theorem fo71_4 : foff Tryd.prog 71 4 = some 4 := by kernel_rfl
@[go_sem] theorem sz74 : sizeT Tryd.prog 74 = some 4 := by kernel_rfl
@[go_sem] theorem by74 : (Tryd.prog.info? 74).map (·.bytes) = some 40 := by kernel_rfl
@[go_sem] theorem ag74 : aggT Tryd.prog 74 = some true := by kernel_rfl
@[go_sem] theorem ud74 : ud Tryd.prog 74 = .st := by kernel_rfl
@[go_sem] theorem zc74 : zcells Tryd.prog 74 = some [.lit (.int .i64 0), .lit (.int .i64 0), .lit (.string ByteArray.empty), .lit (.int .u32 0)] := by kernel_rfl
@[go_sem] theorem sp74 : splaces Tryd.prog 74 = some [(0, 1), (1, 1), (2, 1), (3, 1)] := by kernel_rfl
@[go_sem] theorem ft74_0 : fdT Tryd.prog 74 0 = some (3, 0) := by kernel_rfl
@[go_sem] theorem fo74_0 : foff Tryd.prog 74 0 = some 0 := by kernel_rfl
@[go_sem] theorem ft74_1 : fdT Tryd.prog 74 1 = some (3, 1) := by kernel_rfl
@[go_sem] theorem fo74_2 : foff Tryd.prog 74 2 = some 2 := by kernel_rfl
@[go_sem] theorem fo74_3 : foff Tryd.prog 74 3 = some 3 := by kernel_rfl
@[go_sem] theorem sz138 : sizeT Tryd.prog 138 = some 3 := by kernel_rfl
@[go_sem] theorem ag138 : aggT Tryd.prog 138 = some true := by kernel_rfl
@[go_sem] theorem ud138 : ud Tryd.prog 138 = .ar 3 9 := by kernel_rfl
@[go_sem] theorem zc138 : zcells Tryd.prog 138 = some [.lit (.string ByteArray.empty), .lit (.string ByteArray.empty), .lit (.string ByteArray.empty)] := by kernel_rfl
@[go_sem] theorem sz141 : sizeT Tryd.prog 141 = some 26 := by kernel_rfl
@[go_sem] theorem ag141 : aggT Tryd.prog 141 = some true := by kernel_rfl
@[go_sem] theorem ud141 : ud Tryd.prog 141 = .ar 26 9 := by kernel_rfl
@[go_sem] theorem ud150 : ud Tryd.prog 150 = .ar 4 9 := by kernel_rfl
@[go_sem] theorem ud194 : ud Tryd.prog 194 = .ar 2 9 := by kernel_rfl
@[go_sem] theorem zc194 : zcells Tryd.prog 194 = some [.lit (.string ByteArray.empty), .lit (.string ByteArray.empty)] := by kernel_rfl
@[go_sem] theorem ud195 : ud Tryd.prog 195 = .ar 7 138 := by kernel_rfl
end Go.Proofs.YtolhahlnccekcaaDoor.Abs
