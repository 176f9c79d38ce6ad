/-
  Facts on the types of the translation, each by the kernel. Written by a program of mine (facts.py).
-/
import Derived.Test.YtolhahlnccekcaaDoorProg
import Derived.Test.YtolhahlnccekcaaDoorA20
import Derived.KernelRfl
namespace Go.Proofs.YtolhahlnccekcaaDoor.Abs
@[go_sem] theorem sz1 : sizeT Tryd.prog 1 = some 1 := by kernel_rfl
@[go_sem] theorem by1 : (Tryd.prog.info? 1).map (·.bytes) = some 8 := by kernel_rfl
@[go_sem] theorem ag1 : aggT Tryd.prog 1 = some false := by kernel_rfl
@[go_sem] theorem ud1 : ud Tryd.prog 1 = .oth := by kernel_rfl
@[go_sem] theorem zc1 : zcells Tryd.prog 1 = some [.lit .nilFunc] := by kernel_rfl
@[go_sem] theorem sz2 : sizeT Tryd.prog 2 = some 1 := by kernel_rfl
@[go_sem] theorem by2 : (Tryd.prog.info? 2).map (·.bytes) = some 8 := by kernel_rfl
@[go_sem] theorem ag2 : aggT Tryd.prog 2 = some false := by kernel_rfl
@[go_sem] theorem ud2 : ud Tryd.prog 2 = .int .i64 := by kernel_rfl
@[go_sem] theorem zc2 : zcells Tryd.prog 2 = some [.lit (.int .i64 0)] := by kernel_rfl
@[go_sem] theorem sz3 : sizeT Tryd.prog 3 = some 1 := by kernel_rfl
@[go_sem] theorem by3 : (Tryd.prog.info? 3).map (·.bytes) = some 8 := by kernel_rfl
@[go_sem] theorem ag3 : aggT Tryd.prog 3 = some false := by kernel_rfl
@[go_sem] theorem ud3 : ud Tryd.prog 3 = .int .i64 := by kernel_rfl
@[go_sem] theorem zc3 : zcells Tryd.prog 3 = some [.lit (.int .i64 0)] := by kernel_rfl
@[go_sem] theorem sz4 : sizeT Tryd.prog 4 = some 1 := by kernel_rfl
@[go_sem] theorem by4 : (Tryd.prog.info? 4).map (·.bytes) = some 1 := by kernel_rfl
@[go_sem] theorem ag4 : aggT Tryd.prog 4 = some false := by kernel_rfl
@[go_sem] theorem ud4 : ud Tryd.prog 4 = .oth := by kernel_rfl
@[go_sem] theorem ub4 : Tryd.prog.underlying 4 = some TypeDesc.bool := by kernel_rfl
@[go_sem] theorem zc4 : zcells Tryd.prog 4 = some [.lit (.bool false)] := by kernel_rfl
@[go_sem] theorem sz5 : sizeT Tryd.prog 5 = some 1 := by kernel_rfl
@[go_sem] theorem by5 : (Tryd.prog.info? 5).map (·.bytes) = some 1 := by kernel_rfl
@[go_sem] theorem ag5 : aggT Tryd.prog 5 = some false := by kernel_rfl
@[go_sem] theorem ud5 : ud Tryd.prog 5 = .int .u8 := by kernel_rfl
@[go_sem] theorem zc5 : zcells Tryd.prog 5 = some [.lit (.int .u8 0)] := by kernel_rfl
@[go_sem] theorem sz6 : sizeT Tryd.prog 6 = some 1 := by kernel_rfl
@[go_sem] theorem by6 : (Tryd.prog.info? 6).map (·.bytes) = some 1 := by kernel_rfl
@[go_sem] theorem ag6 : aggT Tryd.prog 6 = some false := by kernel_rfl
@[go_sem] theorem ud6 : ud Tryd.prog 6 = .int .u8 := by kernel_rfl
@[go_sem] theorem zc6 : zcells Tryd.prog 6 = some [.lit (.int .u8 0)] := by kernel_rfl
@[go_sem] theorem sz7 : sizeT Tryd.prog 7 = some 4 := by kernel_rfl
@[go_sem] theorem by7 : (Tryd.prog.info? 7).map (·.bytes) = some 24 := by kernel_rfl
@[go_sem] theorem ag7 : aggT Tryd.prog 7 = some true := by kernel_rfl
@[go_sem] theorem ud7 : ud Tryd.prog 7 = .st := by kernel_rfl
@[go_sem] theorem zc7 : zcells Tryd.prog 7 = some [.lit (.int .i64 0), .lit (.int .i64 0), .lit (.bool false), .lit (.int .u8 0)] := by kernel_rfl
@[go_sem] theorem sp7 : splaces Tryd.prog 7 = some [(0, 1), (1, 1), (2, 1), (3, 1)] := by kernel_rfl
@[go_sem] theorem ft7_0 : fdT Tryd.prog 7 0 = some (2, 0) := by kernel_rfl
@[go_sem] theorem fo7_0 : foff Tryd.prog 7 0 = some 0 := by kernel_rfl
@[go_sem] theorem ft7_1 : fdT Tryd.prog 7 1 = some (3, 1) := by kernel_rfl
@[go_sem] theorem fo7_1 : foff Tryd.prog 7 1 = some 1 := by kernel_rfl
@[go_sem] theorem ft7_2 : fdT Tryd.prog 7 2 = some (4, 2) := by kernel_rfl
@[go_sem] theorem fo7_2 : foff Tryd.prog 7 2 = some 2 := by kernel_rfl
@[go_sem] theorem ft7_3 : fdT Tryd.prog 7 3 = some (6, 3) := by kernel_rfl
@[go_sem] theorem fo7_3 : foff Tryd.prog 7 3 = some 3 := by kernel_rfl
@[go_sem] theorem sz8 : sizeT Tryd.prog 8 = some 4 := by kernel_rfl
@[go_sem] theorem by8 : (Tryd.prog.info? 8).map (·.bytes) = some 24 := by kernel_rfl
@[go_sem] theorem ag8 : aggT Tryd.prog 8 = some true := by kernel_rfl
@[go_sem] theorem ud8 : ud Tryd.prog 8 = .st := by kernel_rfl
@[go_sem] theorem zc8 : zcells Tryd.prog 8 = some [.lit (.int .i64 0), .lit (.int .i64 0), .lit (.bool false), .lit (.int .u8 0)] := by kernel_rfl
@[go_sem] theorem sp8 : splaces Tryd.prog 8 = some [(0, 1), (1, 1), (2, 1), (3, 1)] := by kernel_rfl
@[go_sem] theorem ft8_0 : fdT Tryd.prog 8 0 = some (2, 0) := by kernel_rfl
@[go_sem] theorem fo8_0 : foff Tryd.prog 8 0 = some 0 := by kernel_rfl
@[go_sem] theorem ft8_1 : fdT Tryd.prog 8 1 = some (3, 1) := by kernel_rfl
@[go_sem] theorem fo8_1 : foff Tryd.prog 8 1 = some 1 := by kernel_rfl
@[go_sem] theorem ft8_2 : fdT Tryd.prog 8 2 = some (4, 2) := by kernel_rfl
@[go_sem] theorem fo8_2 : foff Tryd.prog 8 2 = some 2 := by kernel_rfl
@[go_sem] theorem ft8_3 : fdT Tryd.prog 8 3 = some (6, 3) := by kernel_rfl
@[go_sem] theorem fo8_3 : foff Tryd.prog 8 3 = some 3 := by kernel_rfl
@[go_sem] theorem sz9 : sizeT Tryd.prog 9 = some 1 := by kernel_rfl
@[go_sem] theorem by9 : (Tryd.prog.info? 9).map (·.bytes) = some 16 := by kernel_rfl
@[go_sem] theorem ag9 : aggT Tryd.prog 9 = some false := by kernel_rfl
@[go_sem] theorem ud9 : ud Tryd.prog 9 = .str := by kernel_rfl
@[go_sem] theorem zc9 : zcells Tryd.prog 9 = some [.lit (.string ByteArray.empty)] := by kernel_rfl
@[go_sem] theorem sz10 : sizeT Tryd.prog 10 = some 1 := by kernel_rfl
@[go_sem] theorem by10 : (Tryd.prog.info? 10).map (·.bytes) = some 16 := by kernel_rfl
@[go_sem] theorem ag10 : aggT Tryd.prog 10 = some false := by kernel_rfl
@[go_sem] theorem ud10 : ud Tryd.prog 10 = .str := by kernel_rfl
@[go_sem] theorem zc10 : zcells Tryd.prog 10 = some [.lit (.string ByteArray.empty)] := by kernel_rfl
@[go_sem] theorem sz11 : sizeT Tryd.prog 11 = some 1 := by kernel_rfl
@[go_sem] theorem by11 : (Tryd.prog.info? 11).map (·.bytes) = some 16 := by kernel_rfl
@[go_sem] theorem ag11 : aggT Tryd.prog 11 = some false := by kernel_rfl
@[go_sem] theorem ud11 : ud Tryd.prog 11 = .str := by kernel_rfl
@[go_sem] theorem zc11 : zcells Tryd.prog 11 = some [.lit (.string ByteArray.empty)] := by kernel_rfl
@[go_sem] theorem sz12 : sizeT Tryd.prog 12 = some 1 := by kernel_rfl
@[go_sem] theorem by12 : (Tryd.prog.info? 12).map (·.bytes) = some 8 := by kernel_rfl
@[go_sem] theorem ag12 : aggT Tryd.prog 12 = some false := by kernel_rfl
@[go_sem] theorem ud12 : ud Tryd.prog 12 = .int .u64 := by kernel_rfl
@[go_sem] theorem zc12 : zcells Tryd.prog 12 = some [.lit (.int .u64 0)] := by kernel_rfl
@[go_sem] theorem sz13 : sizeT Tryd.prog 13 = some 2 := by kernel_rfl
@[go_sem] theorem by13 : (Tryd.prog.info? 13).map (·.bytes) = some 24 := by kernel_rfl
@[go_sem] theorem ag13 : aggT Tryd.prog 13 = some true := by kernel_rfl
@[go_sem] theorem ud13 : ud Tryd.prog 13 = .st := by kernel_rfl
@[go_sem] theorem zc13 : zcells Tryd.prog 13 = some [.lit (.string ByteArray.empty), .lit (.int .u64 0)] := by kernel_rfl
@[go_sem] theorem sp13 : splaces Tryd.prog 13 = some [(0, 1), (1, 1)] := by kernel_rfl
@[go_sem] theorem ft13_0 : fdT Tryd.prog 13 0 = some (9, 0) := by kernel_rfl
@[go_sem] theorem fo13_0 : foff Tryd.prog 13 0 = some 0 := by kernel_rfl
@[go_sem] theorem ft13_1 : fdT Tryd.prog 13 1 = some (12, 1) := by kernel_rfl
@[go_sem] theorem fo13_1 : foff Tryd.prog 13 1 = some 1 := by kernel_rfl
@[go_sem] theorem sz14 : sizeT Tryd.prog 14 = some 2 := by kernel_rfl
@[go_sem] theorem by14 : (Tryd.prog.info? 14).map (·.bytes) = some 24 := by kernel_rfl
@[go_sem] theorem ag14 : aggT Tryd.prog 14 = some true := by kernel_rfl
@[go_sem] theorem ud14 : ud Tryd.prog 14 = .st := by kernel_rfl
@[go_sem] theorem zc14 : zcells Tryd.prog 14 = some [.lit (.string ByteArray.empty), .lit (.int .u64 0)] := by kernel_rfl
@[go_sem] theorem sp14 : splaces Tryd.prog 14 = some [(0, 1), (1, 1)] := by kernel_rfl
@[go_sem] theorem ft14_0 : fdT Tryd.prog 14 0 = some (9, 0) := by kernel_rfl
@[go_sem] theorem fo14_0 : foff Tryd.prog 14 0 = some 0 := by kernel_rfl
@[go_sem] theorem ft14_1 : fdT Tryd.prog 14 1 = some (12, 1) := by kernel_rfl
@[go_sem] theorem fo14_1 : foff Tryd.prog 14 1 = some 1 := by kernel_rfl
@[go_sem] theorem sz15 : sizeT Tryd.prog 15 = some 1 := by kernel_rfl
@[go_sem] theorem by15 : (Tryd.prog.info? 15).map (·.bytes) = some 8 := by kernel_rfl
@[go_sem] theorem ag15 : aggT Tryd.prog 15 = some false := by kernel_rfl
@[go_sem] theorem ud15 : ud Tryd.prog 15 = .oth := by kernel_rfl
@[go_sem] theorem zc15 : zcells Tryd.prog 15 = some [.lit (.pointer none)] := by kernel_rfl
@[go_sem] theorem sz16 : sizeT Tryd.prog 16 = some 1 := by kernel_rfl
@[go_sem] theorem by16 : (Tryd.prog.info? 16).map (·.bytes) = some 8 := by kernel_rfl
@[go_sem] theorem ag16 : aggT Tryd.prog 16 = some false := by kernel_rfl
@[go_sem] theorem ud16 : ud Tryd.prog 16 = .oth := by kernel_rfl
@[go_sem] theorem zc16 : zcells Tryd.prog 16 = some [.lit (.pointer none)] := by kernel_rfl
@[go_sem] theorem sz17 : sizeT Tryd.prog 17 = some 1 := by kernel_rfl
@[go_sem] theorem by17 : (Tryd.prog.info? 17).map (·.bytes) = some 8 := by kernel_rfl
@[go_sem] theorem ag17 : aggT Tryd.prog 17 = some false := by kernel_rfl
@[go_sem] theorem ud17 : ud Tryd.prog 17 = .oth := by kernel_rfl
@[go_sem] theorem zc17 : zcells Tryd.prog 17 = some [.lit (.pointer none)] := by kernel_rfl
@[go_sem] theorem sz18 : sizeT Tryd.prog 18 = some 1 := by kernel_rfl
@[go_sem] theorem by18 : (Tryd.prog.info? 18).map (·.bytes) = some 8 := by kernel_rfl
@[go_sem] theorem ag18 : aggT Tryd.prog 18 = some true := by kernel_rfl
@[go_sem] theorem ud18 : ud Tryd.prog 18 = .st := by kernel_rfl
@[go_sem] theorem zc18 : zcells Tryd.prog 18 = some [.lit (.pointer none)] := by kernel_rfl
@[go_sem] theorem sp18 : splaces Tryd.prog 18 = some [(0, 1)] := by kernel_rfl
@[go_sem] theorem ft18_0 : fdT Tryd.prog 18 0 = some (17, 0) := by kernel_rfl
@[go_sem] theorem fo18_0 : foff Tryd.prog 18 0 = some 0 := by kernel_rfl
@[go_sem] theorem sz19 : sizeT Tryd.prog 19 = some 1 := by kernel_rfl
@[go_sem] theorem by19 : (Tryd.prog.info? 19).map (·.bytes) = some 8 := by kernel_rfl
@[go_sem] theorem ag19 : aggT Tryd.prog 19 = some true := by kernel_rfl
@[go_sem] theorem ud19 : ud Tryd.prog 19 = .st := by kernel_rfl
@[go_sem] theorem zc19 : zcells Tryd.prog 19 = some [.lit (.pointer none)] := by kernel_rfl
@[go_sem] theorem sp19 : splaces Tryd.prog 19 = some [(0, 1)] := by kernel_rfl
@[go_sem] theorem ft19_0 : fdT Tryd.prog 19 0 = some (17, 0) := by kernel_rfl
@[go_sem] theorem fo19_0 : foff Tryd.prog 19 0 = some 0 := by kernel_rfl
@[go_sem] theorem sz20 : sizeT Tryd.prog 20 = some 1 := by kernel_rfl
@[go_sem] theorem by20 : (Tryd.prog.info? 20).map (·.bytes) = some 16 := by kernel_rfl
@[go_sem] theorem ag20 : aggT Tryd.prog 20 = some false := by kernel_rfl
@[go_sem] theorem ud20 : ud Tryd.prog 20 = .oth := by kernel_rfl
@[go_sem] theorem zc20 : zcells Tryd.prog 20 = some [.lit .nilIface] := by kernel_rfl
@[go_sem] theorem sz21 : sizeT Tryd.prog 21 = some 1 := by kernel_rfl
@[go_sem] theorem by21 : (Tryd.prog.info? 21).map (·.bytes) = some 4 := by kernel_rfl
@[go_sem] theorem ag21 : aggT Tryd.prog 21 = some false := by kernel_rfl
@[go_sem] theorem ud21 : ud Tryd.prog 21 = .int .i32 := by kernel_rfl
@[go_sem] theorem zc21 : zcells Tryd.prog 21 = some [.lit (.int .i32 0)] := by kernel_rfl
@[go_sem] theorem sz22 : sizeT Tryd.prog 22 = some 1 := by kernel_rfl
@[go_sem] theorem by22 : (Tryd.prog.info? 22).map (·.bytes) = some 8 := by kernel_rfl
@[go_sem] theorem ag22 : aggT Tryd.prog 22 = some false := by kernel_rfl
@[go_sem] theorem ud22 : ud Tryd.prog 22 = .oth := by kernel_rfl
@[go_sem] theorem zc22 : zcells Tryd.prog 22 = some [.lit .nilFunc] := by kernel_rfl
@[go_sem] theorem sz23 : sizeT Tryd.prog 23 = some 1 := by kernel_rfl
@[go_sem] theorem by23 : (Tryd.prog.info? 23).map (·.bytes) = some 8 := by kernel_rfl
@[go_sem] theorem ag23 : aggT Tryd.prog 23 = some false := by kernel_rfl
@[go_sem] theorem ud23 : ud Tryd.prog 23 = .oth := by kernel_rfl
@[go_sem] theorem zc23 : zcells Tryd.prog 23 = some [.lit .nilFunc] := by kernel_rfl
@[go_sem] theorem sz24 : sizeT Tryd.prog 24 = some 1 := by kernel_rfl
@[go_sem] theorem by24 : (Tryd.prog.info? 24).map (·.bytes) = some 4 := by kernel_rfl
@[go_sem] theorem ag24 : aggT Tryd.prog 24 = some false := by kernel_rfl
@[go_sem] theorem ud24 : ud Tryd.prog 24 = .int .u32 := by kernel_rfl
@[go_sem] theorem zc24 : zcells Tryd.prog 24 = some [.lit (.int .u32 0)] := by kernel_rfl
@[go_sem] theorem sz25 : sizeT Tryd.prog 25 = some 1 := by kernel_rfl
@[go_sem] theorem by25 : (Tryd.prog.info? 25).map (·.bytes) = some 24 := by kernel_rfl
@[go_sem] theorem ag25 : aggT Tryd.prog 25 = some false := by kernel_rfl
@[go_sem] theorem ud25 : ud Tryd.prog 25 = .sl 27 := by kernel_rfl
@[go_sem] theorem zc25 : zcells Tryd.prog 25 = some [.list .exact []] := by kernel_rfl
@[go_sem] theorem sz26 : sizeT Tryd.prog 26 = some 5 := by kernel_rfl
@[go_sem] theorem by26 : (Tryd.prog.info? 26).map (·.bytes) = some 64 := by kernel_rfl
@[go_sem] theorem ag26 : aggT Tryd.prog 26 = some true := by kernel_rfl
@[go_sem] theorem ud26 : ud Tryd.prog 26 = .st := by kernel_rfl
@[go_sem] theorem zc26 : zcells Tryd.prog 26 = some [.lit (.int .i64 0), .lit (.int .i64 0), .lit (.string ByteArray.empty), .lit (.int .u32 0), .list .exact []] := by kernel_rfl
@[go_sem] theorem sp26 : splaces Tryd.prog 26 = some [(0, 1), (1, 1), (2, 1), (3, 1), (4, 1)] := by kernel_rfl
@[go_sem] theorem ft26_0 : fdT Tryd.prog 26 0 = some (3, 0) := by kernel_rfl
@[go_sem] theorem fo26_0 : foff Tryd.prog 26 0 = some 0 := by kernel_rfl
@[go_sem] theorem ft26_1 : fdT Tryd.prog 26 1 = some (3, 1) := by kernel_rfl
@[go_sem] theorem fo26_1 : foff Tryd.prog 26 1 = some 1 := by kernel_rfl
@[go_sem] theorem ft26_2 : fdT Tryd.prog 26 2 = some (9, 2) := by kernel_rfl
@[go_sem] theorem fo26_2 : foff Tryd.prog 26 2 = some 2 := by kernel_rfl
@[go_sem] theorem ft26_3 : fdT Tryd.prog 26 3 = some (24, 3) := by kernel_rfl
@[go_sem] theorem fo26_3 : foff Tryd.prog 26 3 = some 3 := by kernel_rfl
@[go_sem] theorem ft26_4 : fdT Tryd.prog 26 4 = some (25, 4) := by kernel_rfl
@[go_sem] theorem fo26_4 : foff Tryd.prog 26 4 = some 4 := by kernel_rfl
@[go_sem] theorem sz27 : sizeT Tryd.prog 27 = some 5 := by kernel_rfl
@[go_sem] theorem by27 : (Tryd.prog.info? 27).map (·.bytes) = some 64 := by kernel_rfl
@[go_sem] theorem ag27 : aggT Tryd.prog 27 = some true := by kernel_rfl
@[go_sem] theorem ud27 : ud Tryd.prog 27 = .st := by kernel_rfl
@[go_sem] theorem zc27 : zcells Tryd.prog 27 = some [.lit (.int .i64 0), .lit (.int .i64 0), .lit (.string ByteArray.empty), .lit (.int .u32 0), .list .exact []] := by kernel_rfl
@[go_sem] theorem sp27 : splaces Tryd.prog 27 = some [(0, 1), (1, 1), (2, 1), (3, 1), (4, 1)] := by kernel_rfl
@[go_sem] theorem ft27_0 : fdT Tryd.prog 27 0 = some (3, 0) := by kernel_rfl
@[go_sem] theorem fo27_0 : foff Tryd.prog 27 0 = some 0 := by kernel_rfl
@[go_sem] theorem ft27_1 : fdT Tryd.prog 27 1 = some (3, 1) := by kernel_rfl
@[go_sem] theorem fo27_1 : foff Tryd.prog 27 1 = some 1 := by kernel_rfl
@[go_sem] theorem ft27_2 : fdT Tryd.prog 27 2 = some (9, 2) := by kernel_rfl
@[go_sem] theorem fo27_2 : foff Tryd.prog 27 2 = some 2 := by kernel_rfl
@[go_sem] theorem ft27_3 : fdT Tryd.prog 27 3 = some (24, 3) := by kernel_rfl
@[go_sem] theorem fo27_3 : foff Tryd.prog 27 3 = some 3 := by kernel_rfl
@[go_sem] theorem ft27_4 : fdT Tryd.prog 27 4 = some (25, 4) := by kernel_rfl
@[go_sem] theorem fo27_4 : foff Tryd.prog 27 4 = some 4 := by kernel_rfl
@[go_sem] theorem sz28 : sizeT Tryd.prog 28 = some 1 := by kernel_rfl
@[go_sem] theorem by28 : (Tryd.prog.info? 28).map (·.bytes) = some 8 := by kernel_rfl
@[go_sem] theorem ag28 : aggT Tryd.prog 28 = some false := by kernel_rfl
@[go_sem] theorem ud28 : ud Tryd.prog 28 = .int .i64 := by kernel_rfl
@[go_sem] theorem zc28 : zcells Tryd.prog 28 = some [.lit (.int .i64 0)] := by kernel_rfl
@[go_sem] theorem sz30 : sizeT Tryd.prog 30 = some 1 := by kernel_rfl
@[go_sem] theorem by30 : (Tryd.prog.info? 30).map (·.bytes) = some 8 := by kernel_rfl
@[go_sem] theorem ag30 : aggT Tryd.prog 30 = some false := by kernel_rfl
@[go_sem] theorem ud30 : ud Tryd.prog 30 = .oth := by kernel_rfl
@[go_sem] theorem zc30 : zcells Tryd.prog 30 = some [.lit .nilFunc] := by kernel_rfl
@[go_sem] theorem sz31 : sizeT Tryd.prog 31 = some 1 := by kernel_rfl
@[go_sem] theorem by31 : (Tryd.prog.info? 31).map (·.bytes) = some 24 := by kernel_rfl
@[go_sem] theorem ag31 : aggT Tryd.prog 31 = some false := by kernel_rfl
@[go_sem] theorem ud31 : ud Tryd.prog 31 = .sl 5 := by kernel_rfl
@[go_sem] theorem zc31 : zcells Tryd.prog 31 = some [.list .exact []] := by kernel_rfl
@[go_sem] theorem sz32 : sizeT Tryd.prog 32 = some 13 := by kernel_rfl
@[go_sem] theorem by32 : (Tryd.prog.info? 32).map (·.bytes) = some 208 := by kernel_rfl
@[go_sem] theorem ag32 : aggT Tryd.prog 32 = some true := by kernel_rfl
@[go_sem] theorem ud32 : ud Tryd.prog 32 = .ar 13 9 := by kernel_rfl
@[go_sem] theorem zc32 : zcells Tryd.prog 32 = some [.lit (.string ByteArray.empty), .lit (.string ByteArray.empty), .lit (.string ByteArray.empty), .lit (.string ByteArray.empty), .lit (.string ByteArray.empty), .lit (.string ByteArray.empty), .lit (.string ByteArray.empty), .lit (.string ByteArray.empty), .lit (.string ByteArray.empty), .lit (.string ByteArray.empty), .lit (.string ByteArray.empty), .lit (.string ByteArray.empty), .lit (.string ByteArray.empty)] := by kernel_rfl
@[go_sem] theorem sz33 : sizeT Tryd.prog 33 = some 13 := by kernel_rfl
@[go_sem] theorem by33 : (Tryd.prog.info? 33).map (·.bytes) = some 104 := by kernel_rfl
@[go_sem] theorem ag33 : aggT Tryd.prog 33 = some true := by kernel_rfl
@[go_sem] theorem ud33 : ud Tryd.prog 33 = .ar 13 3 := by kernel_rfl
@[go_sem] theorem zc33 : zcells Tryd.prog 33 = some [.lit (.int .i64 0), .lit (.int .i64 0), .lit (.int .i64 0), .lit (.int .i64 0), .lit (.int .i64 0), .lit (.int .i64 0), .lit (.int .i64 0), .lit (.int .i64 0), .lit (.int .i64 0), .lit (.int .i64 0), .lit (.int .i64 0), .lit (.int .i64 0), .lit (.int .i64 0)] := by kernel_rfl
@[go_sem] theorem sz34 : sizeT Tryd.prog 34 = some 1 := by kernel_rfl
@[go_sem] theorem by34 : (Tryd.prog.info? 34).map (·.bytes) = some 24 := by kernel_rfl
@[go_sem] theorem ag34 : aggT Tryd.prog 34 = some false := by kernel_rfl
@[go_sem] theorem ud34 : ud Tryd.prog 34 = .sl 37 := by kernel_rfl
@[go_sem] theorem zc34 : zcells Tryd.prog 34 = some [.list .exact []] := by kernel_rfl
@[go_sem] theorem sz35 : sizeT Tryd.prog 35 = some 1 := by kernel_rfl
@[go_sem] theorem by35 : (Tryd.prog.info? 35).map (·.bytes) = some 8 := by kernel_rfl
@[go_sem] theorem ag35 : aggT Tryd.prog 35 = some false := by kernel_rfl
@[go_sem] theorem ud35 : ud Tryd.prog 35 = .oth := by kernel_rfl
@[go_sem] theorem zc35 : zcells Tryd.prog 35 = some [.lit .nilFunc] := by kernel_rfl
@[go_sem] theorem sz36 : sizeT Tryd.prog 36 = some 5 := by kernel_rfl
@[go_sem] theorem by36 : (Tryd.prog.info? 36).map (·.bytes) = some 48 := by kernel_rfl
@[go_sem] theorem ag36 : aggT Tryd.prog 36 = some true := by kernel_rfl
@[go_sem] theorem ud36 : ud Tryd.prog 36 = .st := by kernel_rfl
@[go_sem] theorem zc36 : zcells Tryd.prog 36 = some [.lit (.int .i64 0), .lit (.int .i64 0), .lit (.string ByteArray.empty), .lit (.int .u32 0), .lit (.int .i64 0)] := by kernel_rfl
@[go_sem] theorem sp36 : splaces Tryd.prog 36 = some [(0, 1), (1, 1), (2, 1), (3, 1), (4, 1)] := by kernel_rfl
@[go_sem] theorem ft36_0 : fdT Tryd.prog 36 0 = some (3, 0) := by kernel_rfl
@[go_sem] theorem fo36_0 : foff Tryd.prog 36 0 = some 0 := by kernel_rfl
@[go_sem] theorem ft36_1 : fdT Tryd.prog 36 1 = some (3, 1) := by kernel_rfl
@[go_sem] theorem fo36_1 : foff Tryd.prog 36 1 = some 1 := by kernel_rfl
@[go_sem] theorem ft36_2 : fdT Tryd.prog 36 2 = some (9, 2) := by kernel_rfl
@[go_sem] theorem fo36_2 : foff Tryd.prog 36 2 = some 2 := by kernel_rfl
@[go_sem] theorem ft36_3 : fdT Tryd.prog 36 3 = some (24, 3) := by kernel_rfl
@[go_sem] theorem fo36_3 : foff Tryd.prog 36 3 = some 3 := by kernel_rfl
@[go_sem] theorem ft36_4 : fdT Tryd.prog 36 4 = some (3, 4) := by kernel_rfl
@[go_sem] theorem fo36_4 : foff Tryd.prog 36 4 = some 4 := by kernel_rfl
@[go_sem] theorem sz37 : sizeT Tryd.prog 37 = some 5 := by kernel_rfl
@[go_sem] theorem by37 : (Tryd.prog.info? 37).map (·.bytes) = some 48 := by kernel_rfl
@[go_sem] theorem ag37 : aggT Tryd.prog 37 = some true := by kernel_rfl
@[go_sem] theorem ud37 : ud Tryd.prog 37 = .st := by kernel_rfl
@[go_sem] theorem zc37 : zcells Tryd.prog 37 = some [.lit (.int .i64 0), .lit (.int .i64 0), .lit (.string ByteArray.empty), .lit (.int .u32 0), .lit (.int .i64 0)] := by kernel_rfl
@[go_sem] theorem sp37 : splaces Tryd.prog 37 = some [(0, 1), (1, 1), (2, 1), (3, 1), (4, 1)] := by kernel_rfl
@[go_sem] theorem ft37_0 : fdT Tryd.prog 37 0 = some (3, 0) := by kernel_rfl
@[go_sem] theorem fo37_0 : foff Tryd.prog 37 0 = some 0 := by kernel_rfl
@[go_sem] theorem ft37_1 : fdT Tryd.prog 37 1 = some (3, 1) := by kernel_rfl
@[go_sem] theorem fo37_1 : foff Tryd.prog 37 1 = some 1 := by kernel_rfl
@[go_sem] theorem ft37_2 : fdT Tryd.prog 37 2 = some (9, 2) := by kernel_rfl
@[go_sem] theorem fo37_2 : foff Tryd.prog 37 2 = some 2 := by kernel_rfl
@[go_sem] theorem ft37_3 : fdT Tryd.prog 37 3 = some (24, 3) := by kernel_rfl
@[go_sem] theorem fo37_3 : foff Tryd.prog 37 3 = some 3 := by kernel_rfl
@[go_sem] theorem ft37_4 : fdT Tryd.prog 37 4 = some (3, 4) := by kernel_rfl
@[go_sem] theorem fo37_4 : foff Tryd.prog 37 4 = some 4 := by kernel_rfl
@[go_sem] theorem sz38 : sizeT Tryd.prog 38 = some 1 := by kernel_rfl
@[go_sem] theorem by38 : (Tryd.prog.info? 38).map (·.bytes) = some 8 := by kernel_rfl
@[go_sem] theorem ag38 : aggT Tryd.prog 38 = some false := by kernel_rfl
@[go_sem] theorem ud38 : ud Tryd.prog 38 = .oth := by kernel_rfl
@[go_sem] theorem zc38 : zcells Tryd.prog 38 = some [.lit .nilFunc] := by kernel_rfl
@[go_sem] theorem sz40 : sizeT Tryd.prog 40 = some 1 := by kernel_rfl
@[go_sem] theorem by40 : (Tryd.prog.info? 40).map (·.bytes) = some 8 := by kernel_rfl
@[go_sem] theorem ag40 : aggT Tryd.prog 40 = some false := by kernel_rfl
@[go_sem] theorem ud40 : ud Tryd.prog 40 = .oth := by kernel_rfl
@[go_sem] theorem zc40 : zcells Tryd.prog 40 = some [.lit .nilFunc] := by kernel_rfl
@[go_sem] theorem sz41 : sizeT Tryd.prog 41 = some 1 := by kernel_rfl
@[go_sem] theorem by41 : (Tryd.prog.info? 41).map (·.bytes) = some 8 := by kernel_rfl
@[go_sem] theorem ag41 : aggT Tryd.prog 41 = some false := by kernel_rfl
@[go_sem] theorem ud41 : ud Tryd.prog 41 = .oth := by kernel_rfl
@[go_sem] theorem zc41 : zcells Tryd.prog 41 = some [.lit .nilFunc] := by kernel_rfl
@[go_sem] theorem sz42 : sizeT Tryd.prog 42 = some 1 := by kernel_rfl
@[go_sem] theorem by42 : (Tryd.prog.info? 42).map (·.bytes) = some 8 := by kernel_rfl
@[go_sem] theorem ag42 : aggT Tryd.prog 42 = some false := by kernel_rfl
@[go_sem] theorem ud42 : ud Tryd.prog 42 = .oth := by kernel_rfl
@[go_sem] theorem zc42 : zcells Tryd.prog 42 = some [.lit .nilFunc] := by kernel_rfl
@[go_sem] theorem sz43 : sizeT Tryd.prog 43 = some 1 := by kernel_rfl
@[go_sem] theorem by43 : (Tryd.prog.info? 43).map (·.bytes) = some 8 := by kernel_rfl
@[go_sem] theorem ag43 : aggT Tryd.prog 43 = some false := by kernel_rfl
@[go_sem] theorem ud43 : ud Tryd.prog 43 = .oth := by kernel_rfl
@[go_sem] theorem zc43 : zcells Tryd.prog 43 = some [.lit .nilFunc] := by kernel_rfl
@[go_sem] theorem sz44 : sizeT Tryd.prog 44 = some 1 := by kernel_rfl
@[go_sem] theorem by44 : (Tryd.prog.info? 44).map (·.bytes) = some 8 := by kernel_rfl
@[go_sem] theorem ag44 : aggT Tryd.prog 44 = some false := by kernel_rfl
@[go_sem] theorem ud44 : ud Tryd.prog 44 = .oth := by kernel_rfl
@[go_sem] theorem zc44 : zcells Tryd.prog 44 = some [.lit .nilFunc] := by kernel_rfl
@[go_sem] theorem sz45 : sizeT Tryd.prog 45 = some 1 := by kernel_rfl
@[go_sem] theorem by45 : (Tryd.prog.info? 45).map (·.bytes) = some 8 := by kernel_rfl
@[go_sem] theorem ag45 : aggT Tryd.prog 45 = some false := by kernel_rfl
@[go_sem] theorem ud45 : ud Tryd.prog 45 = .oth := by kernel_rfl
@[go_sem] theorem zc45 : zcells Tryd.prog 45 = some [.lit .nilFunc] := by kernel_rfl
@[go_sem] theorem sz46 : sizeT Tryd.prog 46 = some 1 := by kernel_rfl
@[go_sem] theorem by46 : (Tryd.prog.info? 46).map (·.bytes) = some 24 := by kernel_rfl
@[go_sem] theorem ag46 : aggT Tryd.prog 46 = some false := by kernel_rfl
@[go_sem] theorem ud46 : ud Tryd.prog 46 = .sl 58 := by kernel_rfl
@[go_sem] theorem zc46 : zcells Tryd.prog 46 = some [.list .exact []] := by kernel_rfl
@[go_sem] theorem sz47 : sizeT Tryd.prog 47 = some 1 := by kernel_rfl
@[go_sem] theorem by47 : (Tryd.prog.info? 47).map (·.bytes) = some 24 := by kernel_rfl
@[go_sem] theorem ag47 : aggT Tryd.prog 47 = some true := by kernel_rfl
@[go_sem] theorem ud47 : ud Tryd.prog 47 = .st := by kernel_rfl
@[go_sem] theorem zc47 : zcells Tryd.prog 47 = some [.list .exact []] := by kernel_rfl
@[go_sem] theorem sp47 : splaces Tryd.prog 47 = some [(0, 1)] := by kernel_rfl
@[go_sem] theorem ft47_0 : fdT Tryd.prog 47 0 = some (46, 0) := by kernel_rfl
@[go_sem] theorem fo47_0 : foff Tryd.prog 47 0 = some 0 := by kernel_rfl
@[go_sem] theorem sz48 : sizeT Tryd.prog 48 = some 1 := by kernel_rfl
@[go_sem] theorem by48 : (Tryd.prog.info? 48).map (·.bytes) = some 24 := by kernel_rfl
@[go_sem] theorem ag48 : aggT Tryd.prog 48 = some true := by kernel_rfl
@[go_sem] theorem ud48 : ud Tryd.prog 48 = .st := by kernel_rfl
@[go_sem] theorem zc48 : zcells Tryd.prog 48 = some [.list .exact []] := by kernel_rfl
@[go_sem] theorem sp48 : splaces Tryd.prog 48 = some [(0, 1)] := by kernel_rfl
@[go_sem] theorem ft48_0 : fdT Tryd.prog 48 0 = some (46, 0) := by kernel_rfl
@[go_sem] theorem fo48_0 : foff Tryd.prog 48 0 = some 0 := by kernel_rfl
@[go_sem] theorem sz50 : sizeT Tryd.prog 50 = some 1 := by kernel_rfl
@[go_sem] theorem by50 : (Tryd.prog.info? 50).map (·.bytes) = some 8 := by kernel_rfl
@[go_sem] theorem ag50 : aggT Tryd.prog 50 = some false := by kernel_rfl
@[go_sem] theorem ud50 : ud Tryd.prog 50 = .oth := by kernel_rfl
@[go_sem] theorem zc50 : zcells Tryd.prog 50 = some [.lit .nilFunc] := by kernel_rfl
@[go_sem] theorem sz51 : sizeT Tryd.prog 51 = some 1 := by kernel_rfl
@[go_sem] theorem by51 : (Tryd.prog.info? 51).map (·.bytes) = some 8 := by kernel_rfl
@[go_sem] theorem ag51 : aggT Tryd.prog 51 = some false := by kernel_rfl
@[go_sem] theorem ud51 : ud Tryd.prog 51 = .oth := by kernel_rfl
@[go_sem] theorem zc51 : zcells Tryd.prog 51 = some [.lit .nilFunc] := by kernel_rfl
@[go_sem] theorem sz52 : sizeT Tryd.prog 52 = some 1 := by kernel_rfl
@[go_sem] theorem by52 : (Tryd.prog.info? 52).map (·.bytes) = some 8 := by kernel_rfl
@[go_sem] theorem ag52 : aggT Tryd.prog 52 = some false := by kernel_rfl
@[go_sem] theorem ud52 : ud Tryd.prog 52 = .oth := by kernel_rfl
@[go_sem] theorem zc52 : zcells Tryd.prog 52 = some [.lit .nilFunc] := by kernel_rfl
@[go_sem] theorem sz54 : sizeT Tryd.prog 54 = some 1 := by kernel_rfl
@[go_sem] theorem by54 : (Tryd.prog.info? 54).map (·.bytes) = some 8 := by kernel_rfl
@[go_sem] theorem ag54 : aggT Tryd.prog 54 = some false := by kernel_rfl
@[go_sem] theorem ud54 : ud Tryd.prog 54 = .oth := by kernel_rfl
@[go_sem] theorem zc54 : zcells Tryd.prog 54 = some [.lit .nilFunc] := by kernel_rfl
@[go_sem] theorem sz55 : sizeT Tryd.prog 55 = some 1 := by kernel_rfl
@[go_sem] theorem by55 : (Tryd.prog.info? 55).map (·.bytes) = some 24 := by kernel_rfl
@[go_sem] theorem ag55 : aggT Tryd.prog 55 = some false := by kernel_rfl
@[go_sem] theorem ud55 : ud Tryd.prog 55 = .sl 104 := by kernel_rfl
@[go_sem] theorem zc55 : zcells Tryd.prog 55 = some [.list .exact []] := by kernel_rfl
@[go_sem] theorem sz56 : sizeT Tryd.prog 56 = some 1 := by kernel_rfl
@[go_sem] theorem by56 : (Tryd.prog.info? 56).map (·.bytes) = some 24 := by kernel_rfl
@[go_sem] theorem ag56 : aggT Tryd.prog 56 = some false := by kernel_rfl
@[go_sem] theorem ud56 : ud Tryd.prog 56 = .sl 88 := by kernel_rfl
@[go_sem] theorem zc56 : zcells Tryd.prog 56 = some [.list .exact []] := by kernel_rfl
@[go_sem] theorem sz57 : sizeT Tryd.prog 57 = some 6 := by kernel_rfl
@[go_sem] theorem by57 : (Tryd.prog.info? 57).map (·.bytes) = some 88 := by kernel_rfl
@[go_sem] theorem ag57 : aggT Tryd.prog 57 = some true := by kernel_rfl
@[go_sem] theorem ud57 : ud Tryd.prog 57 = .st := by kernel_rfl
@[go_sem] theorem zc57 : zcells Tryd.prog 57 = some [.lit (.string ByteArray.empty), .lit (.bool false), .lit (.int .i64 0), .lit (.int .i64 0), .list .exact [], .list .exact []] := by kernel_rfl
@[go_sem] theorem sp57 : splaces Tryd.prog 57 = some [(0, 1), (1, 1), (2, 1), (3, 1), (4, 1), (5, 1)] := by kernel_rfl
@[go_sem] theorem ft57_0 : fdT Tryd.prog 57 0 = some (9, 0) := by kernel_rfl
@[go_sem] theorem fo57_0 : foff Tryd.prog 57 0 = some 0 := by kernel_rfl
@[go_sem] theorem ft57_1 : fdT Tryd.prog 57 1 = some (4, 1) := by kernel_rfl
@[go_sem] theorem fo57_1 : foff Tryd.prog 57 1 = some 1 := by kernel_rfl
@[go_sem] theorem ft57_2 : fdT Tryd.prog 57 2 = some (3, 2) := by kernel_rfl
@[go_sem] theorem fo57_2 : foff Tryd.prog 57 2 = some 2 := by kernel_rfl
@[go_sem] theorem ft57_3 : fdT Tryd.prog 57 3 = some (3, 3) := by kernel_rfl
@[go_sem] theorem fo57_3 : foff Tryd.prog 57 3 = some 3 := by kernel_rfl
@[go_sem] theorem ft57_4 : fdT Tryd.prog 57 4 = some (55, 4) := by kernel_rfl
@[go_sem] theorem fo57_4 : foff Tryd.prog 57 4 = some 4 := by kernel_rfl
@[go_sem] theorem ft57_5 : fdT Tryd.prog 57 5 = some (56, 5) := by kernel_rfl
@[go_sem] theorem fo57_5 : foff Tryd.prog 57 5 = some 5 := by kernel_rfl
@[go_sem] theorem sz58 : sizeT Tryd.prog 58 = some 6 := by kernel_rfl
@[go_sem] theorem by58 : (Tryd.prog.info? 58).map (·.bytes) = some 88 := by kernel_rfl
@[go_sem] theorem ag58 : aggT Tryd.prog 58 = some true := by kernel_rfl
@[go_sem] theorem ud58 : ud Tryd.prog 58 = .st := by kernel_rfl
@[go_sem] theorem zc58 : zcells Tryd.prog 58 = some [.lit (.string ByteArray.empty), .lit (.bool false), .lit (.int .i64 0), .lit (.int .i64 0), .list .exact [], .list .exact []] := by kernel_rfl
@[go_sem] theorem sp58 : splaces Tryd.prog 58 = some [(0, 1), (1, 1), (2, 1), (3, 1), (4, 1), (5, 1)] := by kernel_rfl
@[go_sem] theorem ft58_0 : fdT Tryd.prog 58 0 = some (9, 0) := by kernel_rfl
@[go_sem] theorem fo58_0 : foff Tryd.prog 58 0 = some 0 := by kernel_rfl
@[go_sem] theorem ft58_1 : fdT Tryd.prog 58 1 = some (4, 1) := by kernel_rfl
@[go_sem] theorem fo58_1 : foff Tryd.prog 58 1 = some 1 := by kernel_rfl
@[go_sem] theorem ft58_2 : fdT Tryd.prog 58 2 = some (3, 2) := by kernel_rfl
@[go_sem] theorem fo58_2 : foff Tryd.prog 58 2 = some 2 := by kernel_rfl
@[go_sem] theorem ft58_3 : fdT Tryd.prog 58 3 = some (3, 3) := by kernel_rfl
@[go_sem] theorem fo58_3 : foff Tryd.prog 58 3 = some 3 := by kernel_rfl
@[go_sem] theorem ft58_4 : fdT Tryd.prog 58 4 = some (55, 4) := by kernel_rfl
@[go_sem] theorem fo58_4 : foff Tryd.prog 58 4 = some 4 := by kernel_rfl
@[go_sem] theorem ft58_5 : fdT Tryd.prog 58 5 = some (56, 5) := by kernel_rfl
@[go_sem] theorem fo58_5 : foff Tryd.prog 58 5 = some 5 := by kernel_rfl
@[go_sem] theorem sz59 : sizeT Tryd.prog 59 = some 1 := by kernel_rfl
@[go_sem] theorem by59 : (Tryd.prog.info? 59).map (·.bytes) = some 8 := by kernel_rfl
@[go_sem] theorem ag59 : aggT Tryd.prog 59 = some false := by kernel_rfl
@[go_sem] theorem ud59 : ud Tryd.prog 59 = .oth := by kernel_rfl
@[go_sem] theorem zc59 : zcells Tryd.prog 59 = some [.lit .nilFunc] := by kernel_rfl
@[go_sem] theorem sz60 : sizeT Tryd.prog 60 = some 1 := by kernel_rfl
@[go_sem] theorem by60 : (Tryd.prog.info? 60).map (·.bytes) = some 8 := by kernel_rfl
@[go_sem] theorem ag60 : aggT Tryd.prog 60 = some false := by kernel_rfl
@[go_sem] theorem ud60 : ud Tryd.prog 60 = .oth := by kernel_rfl
@[go_sem] theorem zc60 : zcells Tryd.prog 60 = some [.lit .nilFunc] := by kernel_rfl
@[go_sem] theorem sz61 : sizeT Tryd.prog 61 = some 1 := by kernel_rfl
@[go_sem] theorem by61 : (Tryd.prog.info? 61).map (·.bytes) = some 8 := by kernel_rfl
@[go_sem] theorem ag61 : aggT Tryd.prog 61 = some false := by kernel_rfl
@[go_sem] theorem ud61 : ud Tryd.prog 61 = .oth := by kernel_rfl
@[go_sem] theorem zc61 : zcells Tryd.prog 61 = some [.lit .nilFunc] := by kernel_rfl
@[go_sem] theorem sz62 : sizeT Tryd.prog 62 = some 1 := by kernel_rfl
@[go_sem] theorem by62 : (Tryd.prog.info? 62).map (·.bytes) = some 8 := by kernel_rfl
@[go_sem] theorem ag62 : aggT Tryd.prog 62 = some false := by kernel_rfl
@[go_sem] theorem ud62 : ud Tryd.prog 62 = .oth := by kernel_rfl
@[go_sem] theorem zc62 : zcells Tryd.prog 62 = some [.lit .nilFunc] := by kernel_rfl
@[go_sem] theorem sz63 : sizeT Tryd.prog 63 = some 1 := by kernel_rfl
@[go_sem] theorem by63 : (Tryd.prog.info? 63).map (·.bytes) = some 8 := by kernel_rfl
@[go_sem] theorem ag63 : aggT Tryd.prog 63 = some false := by kernel_rfl
@[go_sem] theorem ud63 : ud Tryd.prog 63 = .oth := by kernel_rfl
@[go_sem] theorem zc63 : zcells Tryd.prog 63 = some [.lit .nilFunc] := by kernel_rfl
@[go_sem] theorem sz64 : sizeT Tryd.prog 64 = some 1 := by kernel_rfl
@[go_sem] theorem by64 : (Tryd.prog.info? 64).map (·.bytes) = some 8 := by kernel_rfl
@[go_sem] theorem ag64 : aggT Tryd.prog 64 = some false := by kernel_rfl
@[go_sem] theorem ud64 : ud Tryd.prog 64 = .oth := by kernel_rfl
@[go_sem] theorem zc64 : zcells Tryd.prog 64 = some [.lit .nilFunc] := by kernel_rfl
@[go_sem] theorem sz65 : sizeT Tryd.prog 65 = some 1 := by kernel_rfl
@[go_sem] theorem by65 : (Tryd.prog.info? 65).map (·.bytes) = some 24 := by kernel_rfl
@[go_sem] theorem ag65 : aggT Tryd.prog 65 = some false := by kernel_rfl
@[go_sem] theorem ud65 : ud Tryd.prog 65 = .sl 9 := by kernel_rfl
@[go_sem] theorem zc65 : zcells Tryd.prog 65 = some [.list .exact []] := by kernel_rfl
@[go_sem] theorem sz66 : sizeT Tryd.prog 66 = some 1 := by kernel_rfl
@[go_sem] theorem by66 : (Tryd.prog.info? 66).map (·.bytes) = some 24 := by kernel_rfl
@[go_sem] theorem ag66 : aggT Tryd.prog 66 = some false := by kernel_rfl
@[go_sem] theorem ud66 : ud Tryd.prog 66 = .sl 74 := by kernel_rfl
@[go_sem] theorem zc66 : zcells Tryd.prog 66 = some [.list .exact []] := by kernel_rfl
@[go_sem] theorem sz68 : sizeT Tryd.prog 68 = some 1 := by kernel_rfl
@[go_sem] theorem by68 : (Tryd.prog.info? 68).map (·.bytes) = some 8 := by kernel_rfl
@[go_sem] theorem ag68 : aggT Tryd.prog 68 = some false := by kernel_rfl
@[go_sem] theorem ud68 : ud Tryd.prog 68 = .oth := by kernel_rfl
@[go_sem] theorem zc68 : zcells Tryd.prog 68 = some [.lit .nilFunc] := by kernel_rfl
@[go_sem] theorem sz69 : sizeT Tryd.prog 69 = some 1 := by kernel_rfl
@[go_sem] theorem by69 : (Tryd.prog.info? 69).map (·.bytes) = some 8 := by kernel_rfl
@[go_sem] theorem ag69 : aggT Tryd.prog 69 = some false := by kernel_rfl
@[go_sem] theorem ud69 : ud Tryd.prog 69 = .oth := by kernel_rfl
@[go_sem] theorem zc69 : zcells Tryd.prog 69 = some [.lit (.pointer none)] := by kernel_rfl
@[go_sem] theorem sz70 : sizeT Tryd.prog 70 = some 5 := by kernel_rfl
@[go_sem] theorem by70 : (Tryd.prog.info? 70).map (·.bytes) = some 56 := by kernel_rfl
@[go_sem] theorem ag70 : aggT Tryd.prog 70 = some true := by kernel_rfl
@[go_sem] theorem ud70 : ud Tryd.prog 70 = .st := by kernel_rfl
@[go_sem] theorem zc70 : zcells Tryd.prog 70 = some [.list .exact [], .lit (.int .i64 0), .lit (.int .i64 0), .lit (.int .i64 0), .lit (.int .i64 0)] := by kernel_rfl
@[go_sem] theorem sp70 : splaces Tryd.prog 70 = some [(0, 1), (1, 1), (2, 1), (3, 1), (4, 1)] := by kernel_rfl
@[go_sem] theorem ft70_0 : fdT Tryd.prog 70 0 = some (66, 0) := by kernel_rfl
@[go_sem] theorem fo70_0 : foff Tryd.prog 70 0 = some 0 := by kernel_rfl
@[go_sem] theorem ft70_1 : fdT Tryd.prog 70 1 = some (3, 1) := by kernel_rfl
@[go_sem] theorem fo70_1 : foff Tryd.prog 70 1 = some 1 := by kernel_rfl
@[go_sem] theorem ft70_2 : fdT Tryd.prog 70 2 = some (3, 2) := by kernel_rfl
@[go_sem] theorem fo70_2 : foff Tryd.prog 70 2 = some 2 := by kernel_rfl
@[go_sem] theorem ft70_3 : fdT Tryd.prog 70 3 = some (28, 3) := by kernel_rfl
@[go_sem] theorem fo70_3 : foff Tryd.prog 70 3 = some 3 := by kernel_rfl
@[go_sem] theorem ft70_4 : fdT Tryd.prog 70 4 = some (3, 4) := by kernel_rfl
@[go_sem] theorem fo70_4 : foff Tryd.prog 70 4 = some 4 := by kernel_rfl
@[go_sem] theorem sz71 : sizeT Tryd.prog 71 = some 5 := by kernel_rfl
@[go_sem] theorem by71 : (Tryd.prog.info? 71).map (·.bytes) = some 56 := by kernel_rfl
@[go_sem] theorem ag71 : aggT Tryd.prog 71 = some true := by kernel_rfl
@[go_sem] theorem ud71 : ud Tryd.prog 71 = .st := by kernel_rfl
@[go_sem] theorem zc71 : zcells Tryd.prog 71 = some [.list .exact [], .lit (.int .i64 0), .lit (.int .i64 0), .lit (.int .i64 0), .lit (.int .i64 0)] := by kernel_rfl
@[go_sem] theorem sp71 : splaces Tryd.prog 71 = some [(0, 1), (1, 1), (2, 1), (3, 1), (4, 1)] := by kernel_rfl
@[go_sem] theorem ft71_0 : fdT Tryd.prog 71 0 = some (66, 0) := by kernel_rfl
@[go_sem] theorem fo71_0 : foff Tryd.prog 71 0 = some 0 := by kernel_rfl
@[go_sem] theorem ft71_1 : fdT Tryd.prog 71 1 = some (3, 1) := by kernel_rfl
@[go_sem] theorem fo71_1 : foff Tryd.prog 71 1 = some 1 := by kernel_rfl
@[go_sem] theorem ft71_2 : fdT Tryd.prog 71 2 = some (3, 2) := by kernel_rfl
@[go_sem] theorem fo71_2 : foff Tryd.prog 71 2 = some 2 := by kernel_rfl
@[go_sem] theorem ft71_3 : fdT Tryd.prog 71 3 = some (28, 3) := by kernel_rfl
@[go_sem] theorem fo71_3 : foff Tryd.prog 71 3 = some 3 := by kernel_rfl
@[go_sem] theorem ft71_4 : fdT Tryd.prog 71 4 = some (3, 4) := by kernel_rfl
@[go_sem] theorem fo71_4 : foff Tryd.prog 71 4 = some 4 := by kernel_rfl
@[go_sem] theorem sz72 : sizeT Tryd.prog 72 = some 1 := by kernel_rfl
@[go_sem] theorem by72 : (Tryd.prog.info? 72).map (·.bytes) = some 8 := by kernel_rfl
@[go_sem] theorem ag72 : aggT Tryd.prog 72 = some false := by kernel_rfl
@[go_sem] theorem ud72 : ud Tryd.prog 72 = .oth := by kernel_rfl
@[go_sem] theorem zc72 : zcells Tryd.prog 72 = some [.lit .nilFunc] := by kernel_rfl
@[go_sem] theorem sz73 : sizeT Tryd.prog 73 = some 4 := by kernel_rfl
@[go_sem] theorem by73 : (Tryd.prog.info? 73).map (·.bytes) = some 40 := by kernel_rfl
@[go_sem] theorem ag73 : aggT Tryd.prog 73 = some true := by kernel_rfl
@[go_sem] theorem ud73 : ud Tryd.prog 73 = .st := by kernel_rfl
@[go_sem] theorem zc73 : zcells Tryd.prog 73 = some [.lit (.int .i64 0), .lit (.int .i64 0), .lit (.string ByteArray.empty), .lit (.int .u32 0)] := by kernel_rfl
@[go_sem] theorem sp73 : splaces Tryd.prog 73 = some [(0, 1), (1, 1), (2, 1), (3, 1)] := by kernel_rfl
@[go_sem] theorem ft73_0 : fdT Tryd.prog 73 0 = some (3, 0) := by kernel_rfl
@[go_sem] theorem fo73_0 : foff Tryd.prog 73 0 = some 0 := by kernel_rfl
@[go_sem] theorem ft73_1 : fdT Tryd.prog 73 1 = some (3, 1) := by kernel_rfl
@[go_sem] theorem fo73_1 : foff Tryd.prog 73 1 = some 1 := by kernel_rfl
@[go_sem] theorem ft73_2 : fdT Tryd.prog 73 2 = some (9, 2) := by kernel_rfl
@[go_sem] theorem fo73_2 : foff Tryd.prog 73 2 = some 2 := by kernel_rfl
@[go_sem] theorem ft73_3 : fdT Tryd.prog 73 3 = some (24, 3) := by kernel_rfl
@[go_sem] theorem fo73_3 : foff Tryd.prog 73 3 = some 3 := by kernel_rfl
@[go_sem] theorem sz74 : sizeT Tryd.prog 74 = some 4 := by kernel_rfl
@[go_sem] theorem by74 : (Tryd.prog.info? 74).map (·.bytes) = some 40 := by kernel_rfl
@[go_sem] theorem ag74 : aggT Tryd.prog 74 = some true := by kernel_rfl
@[go_sem] theorem ud74 : ud Tryd.prog 74 = .st := by kernel_rfl
@[go_sem] theorem zc74 : zcells Tryd.prog 74 = some [.lit (.int .i64 0), .lit (.int .i64 0), .lit (.string ByteArray.empty), .lit (.int .u32 0)] := by kernel_rfl
@[go_sem] theorem sp74 : splaces Tryd.prog 74 = some [(0, 1), (1, 1), (2, 1), (3, 1)] := by kernel_rfl
@[go_sem] theorem ft74_0 : fdT Tryd.prog 74 0 = some (3, 0) := by kernel_rfl
@[go_sem] theorem fo74_0 : foff Tryd.prog 74 0 = some 0 := by kernel_rfl
@[go_sem] theorem ft74_1 : fdT Tryd.prog 74 1 = some (3, 1) := by kernel_rfl
@[go_sem] theorem fo74_1 : foff Tryd.prog 74 1 = some 1 := by kernel_rfl
@[go_sem] theorem ft74_2 : fdT Tryd.prog 74 2 = some (9, 2) := by kernel_rfl
@[go_sem] theorem fo74_2 : foff Tryd.prog 74 2 = some 2 := by kernel_rfl
@[go_sem] theorem ft74_3 : fdT Tryd.prog 74 3 = some (24, 3) := by kernel_rfl
@[go_sem] theorem fo74_3 : foff Tryd.prog 74 3 = some 3 := by kernel_rfl
@[go_sem] theorem sz75 : sizeT Tryd.prog 75 = some 1 := by kernel_rfl
@[go_sem] theorem by75 : (Tryd.prog.info? 75).map (·.bytes) = some 8 := by kernel_rfl
@[go_sem] theorem ag75 : aggT Tryd.prog 75 = some false := by kernel_rfl
@[go_sem] theorem ud75 : ud Tryd.prog 75 = .oth := by kernel_rfl
@[go_sem] theorem zc75 : zcells Tryd.prog 75 = some [.lit .nilFunc] := by kernel_rfl
@[go_sem] theorem sz76 : sizeT Tryd.prog 76 = some 1 := by kernel_rfl
@[go_sem] theorem by76 : (Tryd.prog.info? 76).map (·.bytes) = some 8 := by kernel_rfl
@[go_sem] theorem ag76 : aggT Tryd.prog 76 = some false := by kernel_rfl
@[go_sem] theorem ud76 : ud Tryd.prog 76 = .oth := by kernel_rfl
@[go_sem] theorem zc76 : zcells Tryd.prog 76 = some [.lit .nilFunc] := by kernel_rfl
@[go_sem] theorem sz77 : sizeT Tryd.prog 77 = some 1 := by kernel_rfl
@[go_sem] theorem by77 : (Tryd.prog.info? 77).map (·.bytes) = some 24 := by kernel_rfl
@[go_sem] theorem ag77 : aggT Tryd.prog 77 = some false := by kernel_rfl
@[go_sem] theorem ud77 : ud Tryd.prog 77 = .sl 82 := by kernel_rfl
@[go_sem] theorem zc77 : zcells Tryd.prog 77 = some [.list .exact []] := by kernel_rfl
@[go_sem] theorem sz79 : sizeT Tryd.prog 79 = some 1 := by kernel_rfl
@[go_sem] theorem by79 : (Tryd.prog.info? 79).map (·.bytes) = some 8 := by kernel_rfl
@[go_sem] theorem ag79 : aggT Tryd.prog 79 = some false := by kernel_rfl
@[go_sem] theorem ud79 : ud Tryd.prog 79 = .oth := by kernel_rfl
@[go_sem] theorem zc79 : zcells Tryd.prog 79 = some [.lit .nilFunc] := by kernel_rfl
@[go_sem] theorem sz80 : sizeT Tryd.prog 80 = some 5 := by kernel_rfl
@[go_sem] theorem by80 : (Tryd.prog.info? 80).map (·.bytes) = some 56 := by kernel_rfl
@[go_sem] theorem ag80 : aggT Tryd.prog 80 = some true := by kernel_rfl
@[go_sem] theorem ud80 : ud Tryd.prog 80 = .st := by kernel_rfl
@[go_sem] theorem zc80 : zcells Tryd.prog 80 = some [.list .exact [], .lit (.int .i64 0), .lit (.int .i64 0), .lit (.int .i64 0), .lit (.int .i64 0)] := by kernel_rfl
@[go_sem] theorem sp80 : splaces Tryd.prog 80 = some [(0, 1), (1, 1), (2, 1), (3, 1), (4, 1)] := by kernel_rfl
@[go_sem] theorem ft80_0 : fdT Tryd.prog 80 0 = some (77, 0) := by kernel_rfl
@[go_sem] theorem fo80_0 : foff Tryd.prog 80 0 = some 0 := by kernel_rfl
@[go_sem] theorem ft80_1 : fdT Tryd.prog 80 1 = some (3, 1) := by kernel_rfl
@[go_sem] theorem fo80_1 : foff Tryd.prog 80 1 = some 1 := by kernel_rfl
@[go_sem] theorem ft80_2 : fdT Tryd.prog 80 2 = some (3, 2) := by kernel_rfl
@[go_sem] theorem fo80_2 : foff Tryd.prog 80 2 = some 2 := by kernel_rfl
@[go_sem] theorem ft80_3 : fdT Tryd.prog 80 3 = some (3, 3) := by kernel_rfl
@[go_sem] theorem fo80_3 : foff Tryd.prog 80 3 = some 3 := by kernel_rfl
@[go_sem] theorem ft80_4 : fdT Tryd.prog 80 4 = some (3, 4) := by kernel_rfl
@[go_sem] theorem fo80_4 : foff Tryd.prog 80 4 = some 4 := by kernel_rfl
@[go_sem] theorem sz81 : sizeT Tryd.prog 81 = some 5 := by kernel_rfl
@[go_sem] theorem by81 : (Tryd.prog.info? 81).map (·.bytes) = some 56 := by kernel_rfl
@[go_sem] theorem ag81 : aggT Tryd.prog 81 = some true := by kernel_rfl
@[go_sem] theorem ud81 : ud Tryd.prog 81 = .st := by kernel_rfl
@[go_sem] theorem zc81 : zcells Tryd.prog 81 = some [.list .exact [], .lit (.int .i64 0), .lit (.int .i64 0), .lit (.int .i64 0), .lit (.int .i64 0)] := by kernel_rfl
@[go_sem] theorem sp81 : splaces Tryd.prog 81 = some [(0, 1), (1, 1), (2, 1), (3, 1), (4, 1)] := by kernel_rfl
@[go_sem] theorem ft81_0 : fdT Tryd.prog 81 0 = some (77, 0) := by kernel_rfl
@[go_sem] theorem fo81_0 : foff Tryd.prog 81 0 = some 0 := by kernel_rfl
@[go_sem] theorem ft81_1 : fdT Tryd.prog 81 1 = some (3, 1) := by kernel_rfl
@[go_sem] theorem fo81_1 : foff Tryd.prog 81 1 = some 1 := by kernel_rfl
@[go_sem] theorem ft81_2 : fdT Tryd.prog 81 2 = some (3, 2) := by kernel_rfl
@[go_sem] theorem fo81_2 : foff Tryd.prog 81 2 = some 2 := by kernel_rfl
@[go_sem] theorem ft81_3 : fdT Tryd.prog 81 3 = some (3, 3) := by kernel_rfl
@[go_sem] theorem fo81_3 : foff Tryd.prog 81 3 = some 3 := by kernel_rfl
@[go_sem] theorem ft81_4 : fdT Tryd.prog 81 4 = some (3, 4) := by kernel_rfl
@[go_sem] theorem fo81_4 : foff Tryd.prog 81 4 = some 4 := by kernel_rfl
@[go_sem] theorem sz82 : sizeT Tryd.prog 82 = some 4 := by kernel_rfl
@[go_sem] theorem by82 : (Tryd.prog.info? 82).map (·.bytes) = some 40 := by kernel_rfl
@[go_sem] theorem ag82 : aggT Tryd.prog 82 = some true := by kernel_rfl
@[go_sem] theorem ud82 : ud Tryd.prog 82 = .st := by kernel_rfl
@[go_sem] theorem zc82 : zcells Tryd.prog 82 = some [.lit (.int .i64 0), .lit (.int .i64 0), .lit (.string ByteArray.empty), .lit (.int .u32 0)] := by kernel_rfl
@[go_sem] theorem sp82 : splaces Tryd.prog 82 = some [(0, 1), (1, 1), (2, 1), (3, 1)] := by kernel_rfl
@[go_sem] theorem ft82_0 : fdT Tryd.prog 82 0 = some (3, 0) := by kernel_rfl
@[go_sem] theorem fo82_0 : foff Tryd.prog 82 0 = some 0 := by kernel_rfl
@[go_sem] theorem ft82_1 : fdT Tryd.prog 82 1 = some (3, 1) := by kernel_rfl
@[go_sem] theorem fo82_1 : foff Tryd.prog 82 1 = some 1 := by kernel_rfl
@[go_sem] theorem ft82_2 : fdT Tryd.prog 82 2 = some (9, 2) := by kernel_rfl
@[go_sem] theorem fo82_2 : foff Tryd.prog 82 2 = some 2 := by kernel_rfl
@[go_sem] theorem ft82_3 : fdT Tryd.prog 82 3 = some (24, 3) := by kernel_rfl
@[go_sem] theorem fo82_3 : foff Tryd.prog 82 3 = some 3 := by kernel_rfl
@[go_sem] theorem sz84 : sizeT Tryd.prog 84 = some 1 := by kernel_rfl
@[go_sem] theorem by84 : (Tryd.prog.info? 84).map (·.bytes) = some 8 := by kernel_rfl
@[go_sem] theorem ag84 : aggT Tryd.prog 84 = some false := by kernel_rfl
@[go_sem] theorem ud84 : ud Tryd.prog 84 = .oth := by kernel_rfl
@[go_sem] theorem zc84 : zcells Tryd.prog 84 = some [.lit .nilFunc] := by kernel_rfl
@[go_sem] theorem sz85 : sizeT Tryd.prog 85 = some 1 := by kernel_rfl
@[go_sem] theorem by85 : (Tryd.prog.info? 85).map (·.bytes) = some 8 := by kernel_rfl
@[go_sem] theorem ag85 : aggT Tryd.prog 85 = some false := by kernel_rfl
@[go_sem] theorem ud85 : ud Tryd.prog 85 = .oth := by kernel_rfl
@[go_sem] theorem zc85 : zcells Tryd.prog 85 = some [.lit .nilFunc] := by kernel_rfl
@[go_sem] theorem sz86 : sizeT Tryd.prog 86 = some 1 := by kernel_rfl
@[go_sem] theorem by86 : (Tryd.prog.info? 86).map (·.bytes) = some 24 := by kernel_rfl
@[go_sem] theorem ag86 : aggT Tryd.prog 86 = some false := by kernel_rfl
@[go_sem] theorem ud86 : ud Tryd.prog 86 = .sl 167 := by kernel_rfl
@[go_sem] theorem zc86 : zcells Tryd.prog 86 = some [.list .exact []] := by kernel_rfl
@[go_sem] theorem sz87 : sizeT Tryd.prog 87 = some 7 := by kernel_rfl
@[go_sem] theorem by87 : (Tryd.prog.info? 87).map (·.bytes) = some 112 := by kernel_rfl
@[go_sem] theorem ag87 : aggT Tryd.prog 87 = some true := by kernel_rfl
@[go_sem] theorem ud87 : ud Tryd.prog 87 = .st := by kernel_rfl
@[go_sem] theorem zc87 : zcells Tryd.prog 87 = some [.lit (.string ByteArray.empty), .lit (.int .i64 0), .lit (.int .i64 0), .list .exact [], .list .exact [], .list .exact [], .lit (.int .i64 0)] := by kernel_rfl
@[go_sem] theorem sp87 : splaces Tryd.prog 87 = some [(0, 1), (1, 1), (2, 1), (3, 1), (4, 1), (5, 1), (6, 1)] := by kernel_rfl
@[go_sem] theorem ft87_0 : fdT Tryd.prog 87 0 = some (9, 0) := by kernel_rfl
@[go_sem] theorem fo87_0 : foff Tryd.prog 87 0 = some 0 := by kernel_rfl
@[go_sem] theorem ft87_1 : fdT Tryd.prog 87 1 = some (3, 1) := by kernel_rfl
@[go_sem] theorem fo87_1 : foff Tryd.prog 87 1 = some 1 := by kernel_rfl
@[go_sem] theorem ft87_2 : fdT Tryd.prog 87 2 = some (3, 2) := by kernel_rfl
@[go_sem] theorem fo87_2 : foff Tryd.prog 87 2 = some 2 := by kernel_rfl
@[go_sem] theorem ft87_3 : fdT Tryd.prog 87 3 = some (86, 3) := by kernel_rfl
@[go_sem] theorem fo87_3 : foff Tryd.prog 87 3 = some 3 := by kernel_rfl
@[go_sem] theorem ft87_4 : fdT Tryd.prog 87 4 = some (56, 4) := by kernel_rfl
@[go_sem] theorem fo87_4 : foff Tryd.prog 87 4 = some 4 := by kernel_rfl
@[go_sem] theorem ft87_5 : fdT Tryd.prog 87 5 = some (56, 5) := by kernel_rfl
@[go_sem] theorem fo87_5 : foff Tryd.prog 87 5 = some 5 := by kernel_rfl
@[go_sem] theorem ft87_6 : fdT Tryd.prog 87 6 = some (3, 6) := by kernel_rfl
@[go_sem] theorem fo87_6 : foff Tryd.prog 87 6 = some 6 := by kernel_rfl
@[go_sem] theorem sz88 : sizeT Tryd.prog 88 = some 7 := by kernel_rfl
@[go_sem] theorem by88 : (Tryd.prog.info? 88).map (·.bytes) = some 112 := by kernel_rfl
@[go_sem] theorem ag88 : aggT Tryd.prog 88 = some true := by kernel_rfl
@[go_sem] theorem ud88 : ud Tryd.prog 88 = .st := by kernel_rfl
@[go_sem] theorem zc88 : zcells Tryd.prog 88 = some [.lit (.string ByteArray.empty), .lit (.int .i64 0), .lit (.int .i64 0), .list .exact [], .list .exact [], .list .exact [], .lit (.int .i64 0)] := by kernel_rfl
@[go_sem] theorem sp88 : splaces Tryd.prog 88 = some [(0, 1), (1, 1), (2, 1), (3, 1), (4, 1), (5, 1), (6, 1)] := by kernel_rfl
@[go_sem] theorem ft88_0 : fdT Tryd.prog 88 0 = some (9, 0) := by kernel_rfl
@[go_sem] theorem fo88_0 : foff Tryd.prog 88 0 = some 0 := by kernel_rfl
@[go_sem] theorem ft88_1 : fdT Tryd.prog 88 1 = some (3, 1) := by kernel_rfl
@[go_sem] theorem fo88_1 : foff Tryd.prog 88 1 = some 1 := by kernel_rfl
@[go_sem] theorem ft88_2 : fdT Tryd.prog 88 2 = some (3, 2) := by kernel_rfl
@[go_sem] theorem fo88_2 : foff Tryd.prog 88 2 = some 2 := by kernel_rfl
@[go_sem] theorem ft88_3 : fdT Tryd.prog 88 3 = some (86, 3) := by kernel_rfl
@[go_sem] theorem fo88_3 : foff Tryd.prog 88 3 = some 3 := by kernel_rfl
@[go_sem] theorem ft88_4 : fdT Tryd.prog 88 4 = some (56, 4) := by kernel_rfl
@[go_sem] theorem fo88_4 : foff Tryd.prog 88 4 = some 4 := by kernel_rfl
@[go_sem] theorem ft88_5 : fdT Tryd.prog 88 5 = some (56, 5) := by kernel_rfl
@[go_sem] theorem fo88_5 : foff Tryd.prog 88 5 = some 5 := by kernel_rfl
@[go_sem] theorem ft88_6 : fdT Tryd.prog 88 6 = some (3, 6) := by kernel_rfl
@[go_sem] theorem fo88_6 : foff Tryd.prog 88 6 = some 6 := by kernel_rfl
@[go_sem] theorem sz89 : sizeT Tryd.prog 89 = some 1 := by kernel_rfl
@[go_sem] theorem by89 : (Tryd.prog.info? 89).map (·.bytes) = some 8 := by kernel_rfl
@[go_sem] theorem ag89 : aggT Tryd.prog 89 = some false := by kernel_rfl
@[go_sem] theorem ud89 : ud Tryd.prog 89 = .oth := by kernel_rfl
@[go_sem] theorem zc89 : zcells Tryd.prog 89 = some [.lit (.pointer none)] := by kernel_rfl
@[go_sem] theorem sz90 : sizeT Tryd.prog 90 = some 1 := by kernel_rfl
@[go_sem] theorem by90 : (Tryd.prog.info? 90).map (·.bytes) = some 8 := by kernel_rfl
@[go_sem] theorem ag90 : aggT Tryd.prog 90 = some false := by kernel_rfl
@[go_sem] theorem ud90 : ud Tryd.prog 90 = .oth := by kernel_rfl
@[go_sem] theorem zc90 : zcells Tryd.prog 90 = some [.lit (.pointer none)] := by kernel_rfl
@[go_sem] theorem sz91 : sizeT Tryd.prog 91 = some 1 := by kernel_rfl
@[go_sem] theorem by91 : (Tryd.prog.info? 91).map (·.bytes) = some 24 := by kernel_rfl
@[go_sem] theorem ag91 : aggT Tryd.prog 91 = some false := by kernel_rfl
@[go_sem] theorem ud91 : ud Tryd.prog 91 = .sl 3 := by kernel_rfl
@[go_sem] theorem zc91 : zcells Tryd.prog 91 = some [.list .exact []] := by kernel_rfl
@[go_sem] theorem sz92 : sizeT Tryd.prog 92 = some 1 := by kernel_rfl
@[go_sem] theorem by92 : (Tryd.prog.info? 92).map (·.bytes) = some 24 := by kernel_rfl
@[go_sem] theorem ag92 : aggT Tryd.prog 92 = some false := by kernel_rfl
@[go_sem] theorem ud92 : ud Tryd.prog 92 = .sl 91 := by kernel_rfl
@[go_sem] theorem zc92 : zcells Tryd.prog 92 = some [.list .exact []] := by kernel_rfl
@[go_sem] theorem sz93 : sizeT Tryd.prog 93 = some 7 := by kernel_rfl
@[go_sem] theorem by93 : (Tryd.prog.info? 93).map (·.bytes) = some 104 := by kernel_rfl
@[go_sem] theorem ag93 : aggT Tryd.prog 93 = some true := by kernel_rfl
@[go_sem] theorem ud93 : ud Tryd.prog 93 = .st := by kernel_rfl
@[go_sem] theorem zc93 : zcells Tryd.prog 93 = some [.list .exact [], .lit (.pointer none), .list .exact [], .list .exact [], .lit (.int .i64 0), .lit (.int .i64 0), .lit (.int .i64 0)] := by kernel_rfl
@[go_sem] theorem sp93 : splaces Tryd.prog 93 = some [(0, 1), (1, 1), (2, 1), (3, 1), (4, 1), (5, 1), (6, 1)] := by kernel_rfl
@[go_sem] theorem ft93_0 : fdT Tryd.prog 93 0 = some (48, 0) := by kernel_rfl
@[go_sem] theorem fo93_0 : foff Tryd.prog 93 0 = some 0 := by kernel_rfl
@[go_sem] theorem ft93_1 : fdT Tryd.prog 93 1 = some (90, 1) := by kernel_rfl
@[go_sem] theorem fo93_1 : foff Tryd.prog 93 1 = some 1 := by kernel_rfl
@[go_sem] theorem ft93_2 : fdT Tryd.prog 93 2 = some (91, 2) := by kernel_rfl
@[go_sem] theorem fo93_2 : foff Tryd.prog 93 2 = some 2 := by kernel_rfl
@[go_sem] theorem ft93_3 : fdT Tryd.prog 93 3 = some (92, 3) := by kernel_rfl
@[go_sem] theorem fo93_3 : foff Tryd.prog 93 3 = some 3 := by kernel_rfl
@[go_sem] theorem ft93_4 : fdT Tryd.prog 93 4 = some (3, 4) := by kernel_rfl
@[go_sem] theorem fo93_4 : foff Tryd.prog 93 4 = some 4 := by kernel_rfl
@[go_sem] theorem ft93_5 : fdT Tryd.prog 93 5 = some (28, 5) := by kernel_rfl
@[go_sem] theorem fo93_5 : foff Tryd.prog 93 5 = some 5 := by kernel_rfl
@[go_sem] theorem ft93_6 : fdT Tryd.prog 93 6 = some (3, 6) := by kernel_rfl
@[go_sem] theorem fo93_6 : foff Tryd.prog 93 6 = some 6 := by kernel_rfl
@[go_sem] theorem sz94 : sizeT Tryd.prog 94 = some 7 := by kernel_rfl
@[go_sem] theorem by94 : (Tryd.prog.info? 94).map (·.bytes) = some 104 := by kernel_rfl
@[go_sem] theorem ag94 : aggT Tryd.prog 94 = some true := by kernel_rfl
@[go_sem] theorem ud94 : ud Tryd.prog 94 = .st := by kernel_rfl
@[go_sem] theorem zc94 : zcells Tryd.prog 94 = some [.list .exact [], .lit (.pointer none), .list .exact [], .list .exact [], .lit (.int .i64 0), .lit (.int .i64 0), .lit (.int .i64 0)] := by kernel_rfl
@[go_sem] theorem sp94 : splaces Tryd.prog 94 = some [(0, 1), (1, 1), (2, 1), (3, 1), (4, 1), (5, 1), (6, 1)] := by kernel_rfl
@[go_sem] theorem ft94_0 : fdT Tryd.prog 94 0 = some (48, 0) := by kernel_rfl
@[go_sem] theorem fo94_0 : foff Tryd.prog 94 0 = some 0 := by kernel_rfl
@[go_sem] theorem ft94_1 : fdT Tryd.prog 94 1 = some (90, 1) := by kernel_rfl
@[go_sem] theorem fo94_1 : foff Tryd.prog 94 1 = some 1 := by kernel_rfl
@[go_sem] theorem ft94_2 : fdT Tryd.prog 94 2 = some (91, 2) := by kernel_rfl
@[go_sem] theorem fo94_2 : foff Tryd.prog 94 2 = some 2 := by kernel_rfl
@[go_sem] theorem ft94_3 : fdT Tryd.prog 94 3 = some (92, 3) := by kernel_rfl
@[go_sem] theorem fo94_3 : foff Tryd.prog 94 3 = some 3 := by kernel_rfl
@[go_sem] theorem ft94_4 : fdT Tryd.prog 94 4 = some (3, 4) := by kernel_rfl
@[go_sem] theorem fo94_4 : foff Tryd.prog 94 4 = some 4 := by kernel_rfl
@[go_sem] theorem ft94_5 : fdT Tryd.prog 94 5 = some (28, 5) := by kernel_rfl
@[go_sem] theorem fo94_5 : foff Tryd.prog 94 5 = some 5 := by kernel_rfl
@[go_sem] theorem ft94_6 : fdT Tryd.prog 94 6 = some (3, 6) := by kernel_rfl
@[go_sem] theorem fo94_6 : foff Tryd.prog 94 6 = some 6 := by kernel_rfl
@[go_sem] theorem sz95 : sizeT Tryd.prog 95 = some 1 := by kernel_rfl
@[go_sem] theorem by95 : (Tryd.prog.info? 95).map (·.bytes) = some 8 := by kernel_rfl
@[go_sem] theorem ag95 : aggT Tryd.prog 95 = some false := by kernel_rfl
@[go_sem] theorem ud95 : ud Tryd.prog 95 = .oth := by kernel_rfl
@[go_sem] theorem zc95 : zcells Tryd.prog 95 = some [.lit .nilFunc] := by kernel_rfl
@[go_sem] theorem sz96 : sizeT Tryd.prog 96 = some 1 := by kernel_rfl
@[go_sem] theorem by96 : (Tryd.prog.info? 96).map (·.bytes) = some 8 := by kernel_rfl
@[go_sem] theorem ag96 : aggT Tryd.prog 96 = some false := by kernel_rfl
@[go_sem] theorem ud96 : ud Tryd.prog 96 = .oth := by kernel_rfl
@[go_sem] theorem zc96 : zcells Tryd.prog 96 = some [.lit .nilFunc] := by kernel_rfl
@[go_sem] theorem sz97 : sizeT Tryd.prog 97 = some 1 := by kernel_rfl
@[go_sem] theorem by97 : (Tryd.prog.info? 97).map (·.bytes) = some 24 := by kernel_rfl
@[go_sem] theorem ag97 : aggT Tryd.prog 97 = some false := by kernel_rfl
@[go_sem] theorem ud97 : ud Tryd.prog 97 = .sl 96 := by kernel_rfl
@[go_sem] theorem zc97 : zcells Tryd.prog 97 = some [.list .exact []] := by kernel_rfl
@[go_sem] theorem sz98 : sizeT Tryd.prog 98 = some 1 := by kernel_rfl
@[go_sem] theorem by98 : (Tryd.prog.info? 98).map (·.bytes) = some 8 := by kernel_rfl
@[go_sem] theorem ag98 : aggT Tryd.prog 98 = some false := by kernel_rfl
@[go_sem] theorem ud98 : ud Tryd.prog 98 = .oth := by kernel_rfl
@[go_sem] theorem zc98 : zcells Tryd.prog 98 = some [.lit .nilFunc] := by kernel_rfl
@[go_sem] theorem sz99 : sizeT Tryd.prog 99 = some 1 := by kernel_rfl
@[go_sem] theorem by99 : (Tryd.prog.info? 99).map (·.bytes) = some 8 := by kernel_rfl
@[go_sem] theorem ag99 : aggT Tryd.prog 99 = some false := by kernel_rfl
@[go_sem] theorem ud99 : ud Tryd.prog 99 = .oth := by kernel_rfl
@[go_sem] theorem zc99 : zcells Tryd.prog 99 = some [.lit .nilFunc] := by kernel_rfl
@[go_sem] theorem sz100 : sizeT Tryd.prog 100 = some 1 := by kernel_rfl
@[go_sem] theorem by100 : (Tryd.prog.info? 100).map (·.bytes) = some 8 := by kernel_rfl
@[go_sem] theorem ag100 : aggT Tryd.prog 100 = some false := by kernel_rfl
@[go_sem] theorem ud100 : ud Tryd.prog 100 = .oth := by kernel_rfl
@[go_sem] theorem zc100 : zcells Tryd.prog 100 = some [.lit .nilFunc] := by kernel_rfl
@[go_sem] theorem sz101 : sizeT Tryd.prog 101 = some 1 := by kernel_rfl
@[go_sem] theorem by101 : (Tryd.prog.info? 101).map (·.bytes) = some 8 := by kernel_rfl
@[go_sem] theorem ag101 : aggT Tryd.prog 101 = some false := by kernel_rfl
@[go_sem] theorem ud101 : ud Tryd.prog 101 = .oth := by kernel_rfl
@[go_sem] theorem zc101 : zcells Tryd.prog 101 = some [.lit .nilFunc] := by kernel_rfl
@[go_sem] theorem sz102 : sizeT Tryd.prog 102 = some 1 := by kernel_rfl
@[go_sem] theorem by102 : (Tryd.prog.info? 102).map (·.bytes) = some 8 := by kernel_rfl
@[go_sem] theorem ag102 : aggT Tryd.prog 102 = some false := by kernel_rfl
@[go_sem] theorem ud102 : ud Tryd.prog 102 = .oth := by kernel_rfl
@[go_sem] theorem zc102 : zcells Tryd.prog 102 = some [.lit .nilFunc] := by kernel_rfl
@[go_sem] theorem sz103 : sizeT Tryd.prog 103 = some 3 := by kernel_rfl
@[go_sem] theorem by103 : (Tryd.prog.info? 103).map (·.bytes) = some 32 := by kernel_rfl
@[go_sem] theorem ag103 : aggT Tryd.prog 103 = some true := by kernel_rfl
@[go_sem] theorem ud103 : ud Tryd.prog 103 = .st := by kernel_rfl
@[go_sem] theorem zc103 : zcells Tryd.prog 103 = some [.lit (.string ByteArray.empty), .lit (.int .i64 0), .lit (.int .i64 0)] := by kernel_rfl
@[go_sem] theorem sp103 : splaces Tryd.prog 103 = some [(0, 1), (1, 1), (2, 1)] := by kernel_rfl
@[go_sem] theorem ft103_0 : fdT Tryd.prog 103 0 = some (9, 0) := by kernel_rfl
@[go_sem] theorem fo103_0 : foff Tryd.prog 103 0 = some 0 := by kernel_rfl
@[go_sem] theorem ft103_1 : fdT Tryd.prog 103 1 = some (3, 1) := by kernel_rfl
@[go_sem] theorem fo103_1 : foff Tryd.prog 103 1 = some 1 := by kernel_rfl
@[go_sem] theorem ft103_2 : fdT Tryd.prog 103 2 = some (3, 2) := by kernel_rfl
@[go_sem] theorem fo103_2 : foff Tryd.prog 103 2 = some 2 := by kernel_rfl
@[go_sem] theorem sz104 : sizeT Tryd.prog 104 = some 3 := by kernel_rfl
@[go_sem] theorem by104 : (Tryd.prog.info? 104).map (·.bytes) = some 32 := by kernel_rfl
@[go_sem] theorem ag104 : aggT Tryd.prog 104 = some true := by kernel_rfl
@[go_sem] theorem ud104 : ud Tryd.prog 104 = .st := by kernel_rfl
@[go_sem] theorem zc104 : zcells Tryd.prog 104 = some [.lit (.string ByteArray.empty), .lit (.int .i64 0), .lit (.int .i64 0)] := by kernel_rfl
@[go_sem] theorem sp104 : splaces Tryd.prog 104 = some [(0, 1), (1, 1), (2, 1)] := by kernel_rfl
@[go_sem] theorem ft104_0 : fdT Tryd.prog 104 0 = some (9, 0) := by kernel_rfl
@[go_sem] theorem fo104_0 : foff Tryd.prog 104 0 = some 0 := by kernel_rfl
@[go_sem] theorem ft104_1 : fdT Tryd.prog 104 1 = some (3, 1) := by kernel_rfl
@[go_sem] theorem fo104_1 : foff Tryd.prog 104 1 = some 1 := by kernel_rfl
@[go_sem] theorem ft104_2 : fdT Tryd.prog 104 2 = some (3, 2) := by kernel_rfl
@[go_sem] theorem fo104_2 : foff Tryd.prog 104 2 = some 2 := by kernel_rfl
@[go_sem] theorem sz105 : sizeT Tryd.prog 105 = some 1 := by kernel_rfl
@[go_sem] theorem by105 : (Tryd.prog.info? 105).map (·.bytes) = some 8 := by kernel_rfl
@[go_sem] theorem ag105 : aggT Tryd.prog 105 = some false := by kernel_rfl
@[go_sem] theorem ud105 : ud Tryd.prog 105 = .oth := by kernel_rfl
@[go_sem] theorem zc105 : zcells Tryd.prog 105 = some [.lit .nilFunc] := by kernel_rfl
@[go_sem] theorem sz106 : sizeT Tryd.prog 106 = some 1 := by kernel_rfl
@[go_sem] theorem by106 : (Tryd.prog.info? 106).map (·.bytes) = some 8 := by kernel_rfl
@[go_sem] theorem ag106 : aggT Tryd.prog 106 = some false := by kernel_rfl
@[go_sem] theorem ud106 : ud Tryd.prog 106 = .oth := by kernel_rfl
@[go_sem] theorem zc106 : zcells Tryd.prog 106 = some [.lit .nilFunc] := by kernel_rfl
@[go_sem] theorem sz108 : sizeT Tryd.prog 108 = some 1 := by kernel_rfl
@[go_sem] theorem by108 : (Tryd.prog.info? 108).map (·.bytes) = some 8 := by kernel_rfl
@[go_sem] theorem ag108 : aggT Tryd.prog 108 = some false := by kernel_rfl
@[go_sem] theorem ud108 : ud Tryd.prog 108 = .oth := by kernel_rfl
@[go_sem] theorem zc108 : zcells Tryd.prog 108 = some [.lit .nilFunc] := by kernel_rfl
@[go_sem] theorem sz109 : sizeT Tryd.prog 109 = some 1 := by kernel_rfl
@[go_sem] theorem by109 : (Tryd.prog.info? 109).map (·.bytes) = some 8 := by kernel_rfl
@[go_sem] theorem ag109 : aggT Tryd.prog 109 = some false := by kernel_rfl
@[go_sem] theorem ud109 : ud Tryd.prog 109 = .oth := by kernel_rfl
@[go_sem] theorem zc109 : zcells Tryd.prog 109 = some [.lit .nilFunc] := by kernel_rfl
@[go_sem] theorem sz110 : sizeT Tryd.prog 110 = some 1 := by kernel_rfl
@[go_sem] theorem by110 : (Tryd.prog.info? 110).map (·.bytes) = some 8 := by kernel_rfl
@[go_sem] theorem ag110 : aggT Tryd.prog 110 = some false := by kernel_rfl
@[go_sem] theorem ud110 : ud Tryd.prog 110 = .oth := by kernel_rfl
@[go_sem] theorem zc110 : zcells Tryd.prog 110 = some [.lit .nilFunc] := by kernel_rfl
@[go_sem] theorem sz111 : sizeT Tryd.prog 111 = some 1 := by kernel_rfl
@[go_sem] theorem by111 : (Tryd.prog.info? 111).map (·.bytes) = some 8 := by kernel_rfl
@[go_sem] theorem ag111 : aggT Tryd.prog 111 = some false := by kernel_rfl
@[go_sem] theorem ud111 : ud Tryd.prog 111 = .oth := by kernel_rfl
@[go_sem] theorem zc111 : zcells Tryd.prog 111 = some [.lit .nilFunc] := by kernel_rfl
@[go_sem] theorem sz112 : sizeT Tryd.prog 112 = some 1 := by kernel_rfl
@[go_sem] theorem by112 : (Tryd.prog.info? 112).map (·.bytes) = some 8 := by kernel_rfl
@[go_sem] theorem ag112 : aggT Tryd.prog 112 = some false := by kernel_rfl
@[go_sem] theorem ud112 : ud Tryd.prog 112 = .oth := by kernel_rfl
@[go_sem] theorem zc112 : zcells Tryd.prog 112 = some [.lit .nilFunc] := by kernel_rfl
@[go_sem] theorem sz113 : sizeT Tryd.prog 113 = some 1 := by kernel_rfl
@[go_sem] theorem by113 : (Tryd.prog.info? 113).map (·.bytes) = some 8 := by kernel_rfl
@[go_sem] theorem ag113 : aggT Tryd.prog 113 = some false := by kernel_rfl
@[go_sem] theorem ud113 : ud Tryd.prog 113 = .oth := by kernel_rfl
@[go_sem] theorem zc113 : zcells Tryd.prog 113 = some [.lit .nilFunc] := by kernel_rfl
@[go_sem] theorem sz115 : sizeT Tryd.prog 115 = some 1 := by kernel_rfl
@[go_sem] theorem by115 : (Tryd.prog.info? 115).map (·.bytes) = some 8 := by kernel_rfl
@[go_sem] theorem ag115 : aggT Tryd.prog 115 = some false := by kernel_rfl
@[go_sem] theorem ud115 : ud Tryd.prog 115 = .oth := by kernel_rfl
@[go_sem] theorem zc115 : zcells Tryd.prog 115 = some [.lit .nilFunc] := by kernel_rfl
@[go_sem] theorem sz117 : sizeT Tryd.prog 117 = some 1 := by kernel_rfl
@[go_sem] theorem by117 : (Tryd.prog.info? 117).map (·.bytes) = some 8 := by kernel_rfl
@[go_sem] theorem ag117 : aggT Tryd.prog 117 = some false := by kernel_rfl
@[go_sem] theorem ud117 : ud Tryd.prog 117 = .oth := by kernel_rfl
@[go_sem] theorem zc117 : zcells Tryd.prog 117 = some [.lit .nilFunc] := by kernel_rfl
@[go_sem] theorem sz119 : sizeT Tryd.prog 119 = some 1 := by kernel_rfl
@[go_sem] theorem by119 : (Tryd.prog.info? 119).map (·.bytes) = some 8 := by kernel_rfl
@[go_sem] theorem ag119 : aggT Tryd.prog 119 = some false := by kernel_rfl
@[go_sem] theorem ud119 : ud Tryd.prog 119 = .oth := by kernel_rfl
@[go_sem] theorem zc119 : zcells Tryd.prog 119 = some [.lit .nilFunc] := by kernel_rfl
@[go_sem] theorem sz121 : sizeT Tryd.prog 121 = some 1 := by kernel_rfl
@[go_sem] theorem by121 : (Tryd.prog.info? 121).map (·.bytes) = some 8 := by kernel_rfl
@[go_sem] theorem ag121 : aggT Tryd.prog 121 = some false := by kernel_rfl
@[go_sem] theorem ud121 : ud Tryd.prog 121 = .oth := by kernel_rfl
@[go_sem] theorem zc121 : zcells Tryd.prog 121 = some [.lit .nilFunc] := by kernel_rfl
@[go_sem] theorem sz122 : sizeT Tryd.prog 122 = some 1 := by kernel_rfl
@[go_sem] theorem by122 : (Tryd.prog.info? 122).map (·.bytes) = some 8 := by kernel_rfl
@[go_sem] theorem ag122 : aggT Tryd.prog 122 = some false := by kernel_rfl
@[go_sem] theorem ud122 : ud Tryd.prog 122 = .oth := by kernel_rfl
@[go_sem] theorem zc122 : zcells Tryd.prog 122 = some [.lit .nilFunc] := by kernel_rfl
@[go_sem] theorem sz124 : sizeT Tryd.prog 124 = some 1 := by kernel_rfl
@[go_sem] theorem by124 : (Tryd.prog.info? 124).map (·.bytes) = some 8 := by kernel_rfl
@[go_sem] theorem ag124 : aggT Tryd.prog 124 = some false := by kernel_rfl
@[go_sem] theorem ud124 : ud Tryd.prog 124 = .oth := by kernel_rfl
@[go_sem] theorem zc124 : zcells Tryd.prog 124 = some [.lit .nilFunc] := by kernel_rfl
@[go_sem] theorem sz125 : sizeT Tryd.prog 125 = some 1 := by kernel_rfl
@[go_sem] theorem by125 : (Tryd.prog.info? 125).map (·.bytes) = some 8 := by kernel_rfl
@[go_sem] theorem ag125 : aggT Tryd.prog 125 = some false := by kernel_rfl
@[go_sem] theorem ud125 : ud Tryd.prog 125 = .oth := by kernel_rfl
@[go_sem] theorem zc125 : zcells Tryd.prog 125 = some [.lit .nilFunc] := by kernel_rfl
@[go_sem] theorem sz126 : sizeT Tryd.prog 126 = some 1 := by kernel_rfl
@[go_sem] theorem by126 : (Tryd.prog.info? 126).map (·.bytes) = some 8 := by kernel_rfl
@[go_sem] theorem ag126 : aggT Tryd.prog 126 = some false := by kernel_rfl
@[go_sem] theorem ud126 : ud Tryd.prog 126 = .oth := by kernel_rfl
@[go_sem] theorem zc126 : zcells Tryd.prog 126 = some [.lit .nilFunc] := by kernel_rfl
@[go_sem] theorem sz127 : sizeT Tryd.prog 127 = some 1 := by kernel_rfl
@[go_sem] theorem by127 : (Tryd.prog.info? 127).map (·.bytes) = some 8 := by kernel_rfl
@[go_sem] theorem ag127 : aggT Tryd.prog 127 = some false := by kernel_rfl
@[go_sem] theorem ud127 : ud Tryd.prog 127 = .oth := by kernel_rfl
@[go_sem] theorem zc127 : zcells Tryd.prog 127 = some [.lit .nilFunc] := by kernel_rfl
@[go_sem] theorem sz128 : sizeT Tryd.prog 128 = some 1 := by kernel_rfl
@[go_sem] theorem by128 : (Tryd.prog.info? 128).map (·.bytes) = some 8 := by kernel_rfl
@[go_sem] theorem ag128 : aggT Tryd.prog 128 = some false := by kernel_rfl
@[go_sem] theorem ud128 : ud Tryd.prog 128 = .oth := by kernel_rfl
@[go_sem] theorem zc128 : zcells Tryd.prog 128 = some [.lit .nilFunc] := by kernel_rfl
@[go_sem] theorem sz129 : sizeT Tryd.prog 129 = some 1 := by kernel_rfl
@[go_sem] theorem by129 : (Tryd.prog.info? 129).map (·.bytes) = some 8 := by kernel_rfl
@[go_sem] theorem ag129 : aggT Tryd.prog 129 = some false := by kernel_rfl
@[go_sem] theorem ud129 : ud Tryd.prog 129 = .oth := by kernel_rfl
@[go_sem] theorem zc129 : zcells Tryd.prog 129 = some [.lit .nilFunc] := by kernel_rfl
@[go_sem] theorem sz130 : sizeT Tryd.prog 130 = some 1 := by kernel_rfl
@[go_sem] theorem by130 : (Tryd.prog.info? 130).map (·.bytes) = some 8 := by kernel_rfl
@[go_sem] theorem ag130 : aggT Tryd.prog 130 = some false := by kernel_rfl
@[go_sem] theorem ud130 : ud Tryd.prog 130 = .oth := by kernel_rfl
@[go_sem] theorem zc130 : zcells Tryd.prog 130 = some [.lit .nilFunc] := by kernel_rfl
@[go_sem] theorem sz131 : sizeT Tryd.prog 131 = some 1 := by kernel_rfl
@[go_sem] theorem by131 : (Tryd.prog.info? 131).map (·.bytes) = some 8 := by kernel_rfl
@[go_sem] theorem ag131 : aggT Tryd.prog 131 = some false := by kernel_rfl
@[go_sem] theorem ud131 : ud Tryd.prog 131 = .oth := by kernel_rfl
@[go_sem] theorem zc131 : zcells Tryd.prog 131 = some [.lit .nilFunc] := by kernel_rfl
@[go_sem] theorem sz132 : sizeT Tryd.prog 132 = some 1 := by kernel_rfl
@[go_sem] theorem by132 : (Tryd.prog.info? 132).map (·.bytes) = some 8 := by kernel_rfl
@[go_sem] theorem ag132 : aggT Tryd.prog 132 = some false := by kernel_rfl
@[go_sem] theorem ud132 : ud Tryd.prog 132 = .oth := by kernel_rfl
@[go_sem] theorem zc132 : zcells Tryd.prog 132 = some [.lit .nilFunc] := by kernel_rfl
@[go_sem] theorem sz133 : sizeT Tryd.prog 133 = some 1 := by kernel_rfl
@[go_sem] theorem by133 : (Tryd.prog.info? 133).map (·.bytes) = some 8 := by kernel_rfl
@[go_sem] theorem ag133 : aggT Tryd.prog 133 = some false := by kernel_rfl
@[go_sem] theorem ud133 : ud Tryd.prog 133 = .oth := by kernel_rfl
@[go_sem] theorem zc133 : zcells Tryd.prog 133 = some [.lit .nilFunc] := by kernel_rfl
@[go_sem] theorem sz134 : sizeT Tryd.prog 134 = some 1 := by kernel_rfl
@[go_sem] theorem by134 : (Tryd.prog.info? 134).map (·.bytes) = some 8 := by kernel_rfl
@[go_sem] theorem ag134 : aggT Tryd.prog 134 = some false := by kernel_rfl
@[go_sem] theorem ud134 : ud Tryd.prog 134 = .oth := by kernel_rfl
@[go_sem] theorem zc134 : zcells Tryd.prog 134 = some [.lit .nilFunc] := by kernel_rfl
@[go_sem] theorem sz135 : sizeT Tryd.prog 135 = some 1 := by kernel_rfl
@[go_sem] theorem by135 : (Tryd.prog.info? 135).map (·.bytes) = some 8 := by kernel_rfl
@[go_sem] theorem ag135 : aggT Tryd.prog 135 = some false := by kernel_rfl
@[go_sem] theorem ud135 : ud Tryd.prog 135 = .oth := by kernel_rfl
@[go_sem] theorem zc135 : zcells Tryd.prog 135 = some [.lit .nilFunc] := by kernel_rfl
@[go_sem] theorem sz136 : sizeT Tryd.prog 136 = some 1 := by kernel_rfl
@[go_sem] theorem by136 : (Tryd.prog.info? 136).map (·.bytes) = some 8 := by kernel_rfl
@[go_sem] theorem ag136 : aggT Tryd.prog 136 = some false := by kernel_rfl
@[go_sem] theorem ud136 : ud Tryd.prog 136 = .oth := by kernel_rfl
@[go_sem] theorem zc136 : zcells Tryd.prog 136 = some [.lit .nilFunc] := by kernel_rfl
@[go_sem] theorem sz137 : sizeT Tryd.prog 137 = some 1 := by kernel_rfl
@[go_sem] theorem by137 : (Tryd.prog.info? 137).map (·.bytes) = some 8 := by kernel_rfl
@[go_sem] theorem ag137 : aggT Tryd.prog 137 = some false := by kernel_rfl
@[go_sem] theorem ud137 : ud Tryd.prog 137 = .oth := by kernel_rfl
@[go_sem] theorem zc137 : zcells Tryd.prog 137 = some [.lit .nilFunc] := by kernel_rfl
@[go_sem] theorem sz138 : sizeT Tryd.prog 138 = some 3 := by kernel_rfl
@[go_sem] theorem by138 : (Tryd.prog.info? 138).map (·.bytes) = some 48 := by kernel_rfl
@[go_sem] theorem ag138 : aggT Tryd.prog 138 = some true := by kernel_rfl
@[go_sem] theorem ud138 : ud Tryd.prog 138 = .ar 3 9 := by kernel_rfl
@[go_sem] theorem zc138 : zcells Tryd.prog 138 = some [.lit (.string ByteArray.empty), .lit (.string ByteArray.empty), .lit (.string ByteArray.empty)] := by kernel_rfl
@[go_sem] theorem sz139 : sizeT Tryd.prog 139 = some 1 := by kernel_rfl
@[go_sem] theorem by139 : (Tryd.prog.info? 139).map (·.bytes) = some 8 := by kernel_rfl
@[go_sem] theorem ag139 : aggT Tryd.prog 139 = some false := by kernel_rfl
@[go_sem] theorem ud139 : ud Tryd.prog 139 = .oth := by kernel_rfl
@[go_sem] theorem zc139 : zcells Tryd.prog 139 = some [.lit .nilFunc] := by kernel_rfl
@[go_sem] theorem sz140 : sizeT Tryd.prog 140 = some 1 := by kernel_rfl
@[go_sem] theorem by140 : (Tryd.prog.info? 140).map (·.bytes) = some 8 := by kernel_rfl
@[go_sem] theorem ag140 : aggT Tryd.prog 140 = some false := by kernel_rfl
@[go_sem] theorem ud140 : ud Tryd.prog 140 = .int .u64 := by kernel_rfl
@[go_sem] theorem zc140 : zcells Tryd.prog 140 = some [.lit (.int .u64 0)] := by kernel_rfl
@[go_sem] theorem sz141 : sizeT Tryd.prog 141 = some 26 := by kernel_rfl
@[go_sem] theorem by141 : (Tryd.prog.info? 141).map (·.bytes) = some 416 := by kernel_rfl
@[go_sem] theorem ag141 : aggT Tryd.prog 141 = some true := by kernel_rfl
@[go_sem] theorem ud141 : ud Tryd.prog 141 = .ar 26 9 := by kernel_rfl
@[go_sem] theorem zc141 : zcells Tryd.prog 141 = some [.lit (.string ByteArray.empty), .lit (.string ByteArray.empty), .lit (.string ByteArray.empty), .lit (.string ByteArray.empty), .lit (.string ByteArray.empty), .lit (.string ByteArray.empty), .lit (.string ByteArray.empty), .lit (.string ByteArray.empty), .lit (.string ByteArray.empty), .lit (.string ByteArray.empty), .lit (.string ByteArray.empty), .lit (.string ByteArray.empty), .lit (.string ByteArray.empty), .lit (.string ByteArray.empty), .lit (.string ByteArray.empty), .lit (.string ByteArray.empty), .lit (.string ByteArray.empty), .lit (.string ByteArray.empty), .lit (.string ByteArray.empty), .lit (.string ByteArray.empty), .lit (.string ByteArray.empty), .lit (.string ByteArray.empty), .lit (.string ByteArray.empty), .lit (.string ByteArray.empty), .lit (.string ByteArray.empty), .lit (.string ByteArray.empty)] := by kernel_rfl
@[go_sem] theorem sz142 : sizeT Tryd.prog 142 = some 1 := by kernel_rfl
@[go_sem] theorem by142 : (Tryd.prog.info? 142).map (·.bytes) = some 8 := by kernel_rfl
@[go_sem] theorem ag142 : aggT Tryd.prog 142 = some false := by kernel_rfl
@[go_sem] theorem ud142 : ud Tryd.prog 142 = .oth := by kernel_rfl
@[go_sem] theorem zc142 : zcells Tryd.prog 142 = some [.lit .nilFunc] := by kernel_rfl
@[go_sem] theorem sz143 : sizeT Tryd.prog 143 = some 1 := by kernel_rfl
@[go_sem] theorem by143 : (Tryd.prog.info? 143).map (·.bytes) = some 8 := by kernel_rfl
@[go_sem] theorem ag143 : aggT Tryd.prog 143 = some false := by kernel_rfl
@[go_sem] theorem ud143 : ud Tryd.prog 143 = .oth := by kernel_rfl
@[go_sem] theorem zc143 : zcells Tryd.prog 143 = some [.lit (.pointer none)] := by kernel_rfl
@[go_sem] theorem sz144 : sizeT Tryd.prog 144 = some 2 := by kernel_rfl
@[go_sem] theorem by144 : (Tryd.prog.info? 144).map (·.bytes) = some 32 := by kernel_rfl
@[go_sem] theorem ag144 : aggT Tryd.prog 144 = some true := by kernel_rfl
@[go_sem] theorem ud144 : ud Tryd.prog 144 = .st := by kernel_rfl
@[go_sem] theorem zc144 : zcells Tryd.prog 144 = some [.lit (.pointer none), .list .exact []] := by kernel_rfl
@[go_sem] theorem sp144 : splaces Tryd.prog 144 = some [(0, 1), (1, 1)] := by kernel_rfl
@[go_sem] theorem ft144_0 : fdT Tryd.prog 144 0 = some (143, 0) := by kernel_rfl
@[go_sem] theorem fo144_0 : foff Tryd.prog 144 0 = some 0 := by kernel_rfl
@[go_sem] theorem ft144_1 : fdT Tryd.prog 144 1 = some (31, 1) := by kernel_rfl
@[go_sem] theorem fo144_1 : foff Tryd.prog 144 1 = some 1 := by kernel_rfl
@[go_sem] theorem sz145 : sizeT Tryd.prog 145 = some 2 := by kernel_rfl
@[go_sem] theorem by145 : (Tryd.prog.info? 145).map (·.bytes) = some 32 := by kernel_rfl
@[go_sem] theorem ag145 : aggT Tryd.prog 145 = some true := by kernel_rfl
@[go_sem] theorem ud145 : ud Tryd.prog 145 = .st := by kernel_rfl
@[go_sem] theorem zc145 : zcells Tryd.prog 145 = some [.lit (.pointer none), .list .exact []] := by kernel_rfl
@[go_sem] theorem sp145 : splaces Tryd.prog 145 = some [(0, 1), (1, 1)] := by kernel_rfl
@[go_sem] theorem ft145_0 : fdT Tryd.prog 145 0 = some (143, 0) := by kernel_rfl
@[go_sem] theorem fo145_0 : foff Tryd.prog 145 0 = some 0 := by kernel_rfl
@[go_sem] theorem ft145_1 : fdT Tryd.prog 145 1 = some (31, 1) := by kernel_rfl
@[go_sem] theorem fo145_1 : foff Tryd.prog 145 1 = some 1 := by kernel_rfl
@[go_sem] theorem sz146 : sizeT Tryd.prog 146 = some 1 := by kernel_rfl
@[go_sem] theorem by146 : (Tryd.prog.info? 146).map (·.bytes) = some 16 := by kernel_rfl
@[go_sem] theorem ag146 : aggT Tryd.prog 146 = some false := by kernel_rfl
@[go_sem] theorem ud146 : ud Tryd.prog 146 = .oth := by kernel_rfl
@[go_sem] theorem zc146 : zcells Tryd.prog 146 = some [.lit .nilIface] := by kernel_rfl
@[go_sem] theorem sz147 : sizeT Tryd.prog 147 = some 1 := by kernel_rfl
@[go_sem] theorem by147 : (Tryd.prog.info? 147).map (·.bytes) = some 16 := by kernel_rfl
@[go_sem] theorem ag147 : aggT Tryd.prog 147 = some false := by kernel_rfl
@[go_sem] theorem ud147 : ud Tryd.prog 147 = .oth := by kernel_rfl
@[go_sem] theorem zc147 : zcells Tryd.prog 147 = some [.lit .nilIface] := by kernel_rfl
@[go_sem] theorem sz149 : sizeT Tryd.prog 149 = some 1 := by kernel_rfl
@[go_sem] theorem by149 : (Tryd.prog.info? 149).map (·.bytes) = some 8 := by kernel_rfl
@[go_sem] theorem ag149 : aggT Tryd.prog 149 = some false := by kernel_rfl
@[go_sem] theorem ud149 : ud Tryd.prog 149 = .oth := by kernel_rfl
@[go_sem] theorem zc149 : zcells Tryd.prog 149 = some [.lit .nilFunc] := by kernel_rfl
@[go_sem] theorem sz150 : sizeT Tryd.prog 150 = some 4 := by kernel_rfl
@[go_sem] theorem by150 : (Tryd.prog.info? 150).map (·.bytes) = some 64 := by kernel_rfl
@[go_sem] theorem ag150 : aggT Tryd.prog 150 = some true := by kernel_rfl
@[go_sem] theorem ud150 : ud Tryd.prog 150 = .ar 4 9 := by kernel_rfl
@[go_sem] theorem zc150 : zcells Tryd.prog 150 = some [.lit (.string ByteArray.empty), .lit (.string ByteArray.empty), .lit (.string ByteArray.empty), .lit (.string ByteArray.empty)] := by kernel_rfl
@[go_sem] theorem sz151 : sizeT Tryd.prog 151 = some 1 := by kernel_rfl
@[go_sem] theorem by151 : (Tryd.prog.info? 151).map (·.bytes) = some 8 := by kernel_rfl
@[go_sem] theorem ag151 : aggT Tryd.prog 151 = some false := by kernel_rfl
@[go_sem] theorem ud151 : ud Tryd.prog 151 = .oth := by kernel_rfl
@[go_sem] theorem zc151 : zcells Tryd.prog 151 = some [.lit .nilFunc] := by kernel_rfl
@[go_sem] theorem sz152 : sizeT Tryd.prog 152 = some 1 := by kernel_rfl
@[go_sem] theorem by152 : (Tryd.prog.info? 152).map (·.bytes) = some 8 := by kernel_rfl
@[go_sem] theorem ag152 : aggT Tryd.prog 152 = some false := by kernel_rfl
@[go_sem] theorem ud152 : ud Tryd.prog 152 = .oth := by kernel_rfl
@[go_sem] theorem zc152 : zcells Tryd.prog 152 = some [.lit .nilFunc] := by kernel_rfl
@[go_sem] theorem sz153 : sizeT Tryd.prog 153 = some 2 := by kernel_rfl
@[go_sem] theorem by153 : (Tryd.prog.info? 153).map (·.bytes) = some 24 := by kernel_rfl
@[go_sem] theorem ag153 : aggT Tryd.prog 153 = some true := by kernel_rfl
@[go_sem] theorem ud153 : ud Tryd.prog 153 = .st := by kernel_rfl
@[go_sem] theorem zc153 : zcells Tryd.prog 153 = some [.lit (.string ByteArray.empty), .lit (.int .i64 0)] := by kernel_rfl
@[go_sem] theorem sp153 : splaces Tryd.prog 153 = some [(0, 1), (1, 1)] := by kernel_rfl
@[go_sem] theorem ft153_0 : fdT Tryd.prog 153 0 = some (9, 0) := by kernel_rfl
@[go_sem] theorem fo153_0 : foff Tryd.prog 153 0 = some 0 := by kernel_rfl
@[go_sem] theorem ft153_1 : fdT Tryd.prog 153 1 = some (3, 1) := by kernel_rfl
@[go_sem] theorem fo153_1 : foff Tryd.prog 153 1 = some 1 := by kernel_rfl
@[go_sem] theorem sz154 : sizeT Tryd.prog 154 = some 10 := by kernel_rfl
@[go_sem] theorem by154 : (Tryd.prog.info? 154).map (·.bytes) = some 120 := by kernel_rfl
@[go_sem] theorem ag154 : aggT Tryd.prog 154 = some true := by kernel_rfl
@[go_sem] theorem ud154 : ud Tryd.prog 154 = .ar 5 153 := by kernel_rfl
@[go_sem] theorem zc154 : zcells Tryd.prog 154 = some [.lit (.string ByteArray.empty), .lit (.int .i64 0), .lit (.string ByteArray.empty), .lit (.int .i64 0), .lit (.string ByteArray.empty), .lit (.int .i64 0), .lit (.string ByteArray.empty), .lit (.int .i64 0), .lit (.string ByteArray.empty), .lit (.int .i64 0)] := by kernel_rfl
@[go_sem] theorem sz155 : sizeT Tryd.prog 155 = some 1 := by kernel_rfl
@[go_sem] theorem by155 : (Tryd.prog.info? 155).map (·.bytes) = some 8 := by kernel_rfl
@[go_sem] theorem ag155 : aggT Tryd.prog 155 = some false := by kernel_rfl
@[go_sem] theorem ud155 : ud Tryd.prog 155 = .oth := by kernel_rfl
@[go_sem] theorem zc155 : zcells Tryd.prog 155 = some [.lit .nilFunc] := by kernel_rfl
@[go_sem] theorem sz156 : sizeT Tryd.prog 156 = some 1 := by kernel_rfl
@[go_sem] theorem by156 : (Tryd.prog.info? 156).map (·.bytes) = some 8 := by kernel_rfl
@[go_sem] theorem ag156 : aggT Tryd.prog 156 = some false := by kernel_rfl
@[go_sem] theorem ud156 : ud Tryd.prog 156 = .oth := by kernel_rfl
@[go_sem] theorem zc156 : zcells Tryd.prog 156 = some [.lit .nilFunc] := by kernel_rfl
@[go_sem] theorem sz158 : sizeT Tryd.prog 158 = some 1 := by kernel_rfl
@[go_sem] theorem by158 : (Tryd.prog.info? 158).map (·.bytes) = some 8 := by kernel_rfl
@[go_sem] theorem ag158 : aggT Tryd.prog 158 = some false := by kernel_rfl
@[go_sem] theorem ud158 : ud Tryd.prog 158 = .oth := by kernel_rfl
@[go_sem] theorem zc158 : zcells Tryd.prog 158 = some [.lit .nilFunc] := by kernel_rfl
@[go_sem] theorem sz159 : sizeT Tryd.prog 159 = some 1 := by kernel_rfl
@[go_sem] theorem by159 : (Tryd.prog.info? 159).map (·.bytes) = some 8 := by kernel_rfl
@[go_sem] theorem ag159 : aggT Tryd.prog 159 = some false := by kernel_rfl
@[go_sem] theorem ud159 : ud Tryd.prog 159 = .oth := by kernel_rfl
@[go_sem] theorem zc159 : zcells Tryd.prog 159 = some [.lit .nilFunc] := by kernel_rfl
@[go_sem] theorem sz161 : sizeT Tryd.prog 161 = some 1 := by kernel_rfl
@[go_sem] theorem by161 : (Tryd.prog.info? 161).map (·.bytes) = some 8 := by kernel_rfl
@[go_sem] theorem ag161 : aggT Tryd.prog 161 = some false := by kernel_rfl
@[go_sem] theorem ud161 : ud Tryd.prog 161 = .oth := by kernel_rfl
@[go_sem] theorem zc161 : zcells Tryd.prog 161 = some [.lit .nilFunc] := by kernel_rfl
@[go_sem] theorem sz162 : sizeT Tryd.prog 162 = some 6 := by kernel_rfl
@[go_sem] theorem by162 : (Tryd.prog.info? 162).map (·.bytes) = some 96 := by kernel_rfl
@[go_sem] theorem ag162 : aggT Tryd.prog 162 = some true := by kernel_rfl
@[go_sem] theorem ud162 : ud Tryd.prog 162 = .ar 6 9 := by kernel_rfl
@[go_sem] theorem zc162 : zcells Tryd.prog 162 = some [.lit (.string ByteArray.empty), .lit (.string ByteArray.empty), .lit (.string ByteArray.empty), .lit (.string ByteArray.empty), .lit (.string ByteArray.empty), .lit (.string ByteArray.empty)] := by kernel_rfl
@[go_sem] theorem sz163 : sizeT Tryd.prog 163 = some 6 := by kernel_rfl
@[go_sem] theorem by163 : (Tryd.prog.info? 163).map (·.bytes) = some 48 := by kernel_rfl
@[go_sem] theorem ag163 : aggT Tryd.prog 163 = some true := by kernel_rfl
@[go_sem] theorem ud163 : ud Tryd.prog 163 = .ar 6 3 := by kernel_rfl
@[go_sem] theorem zc163 : zcells Tryd.prog 163 = some [.lit (.int .i64 0), .lit (.int .i64 0), .lit (.int .i64 0), .lit (.int .i64 0), .lit (.int .i64 0), .lit (.int .i64 0)] := by kernel_rfl
@[go_sem] theorem sz164 : sizeT Tryd.prog 164 = some 1 := by kernel_rfl
@[go_sem] theorem by164 : (Tryd.prog.info? 164).map (·.bytes) = some 8 := by kernel_rfl
@[go_sem] theorem ag164 : aggT Tryd.prog 164 = some false := by kernel_rfl
@[go_sem] theorem ud164 : ud Tryd.prog 164 = .oth := by kernel_rfl
@[go_sem] theorem zc164 : zcells Tryd.prog 164 = some [.lit .nilFunc] := by kernel_rfl
@[go_sem] theorem sz165 : sizeT Tryd.prog 165 = some 1 := by kernel_rfl
@[go_sem] theorem by165 : (Tryd.prog.info? 165).map (·.bytes) = some 8 := by kernel_rfl
@[go_sem] theorem ag165 : aggT Tryd.prog 165 = some false := by kernel_rfl
@[go_sem] theorem ud165 : ud Tryd.prog 165 = .oth := by kernel_rfl
@[go_sem] theorem zc165 : zcells Tryd.prog 165 = some [.lit (.pointer none)] := by kernel_rfl
@[go_sem] theorem sz166 : sizeT Tryd.prog 166 = some 6 := by kernel_rfl
@[go_sem] theorem by166 : (Tryd.prog.info? 166).map (·.bytes) = some 72 := by kernel_rfl
@[go_sem] theorem ag166 : aggT Tryd.prog 166 = some true := by kernel_rfl
@[go_sem] theorem ud166 : ud Tryd.prog 166 = .st := by kernel_rfl
@[go_sem] theorem zc166 : zcells Tryd.prog 166 = some [.lit (.string ByteArray.empty), .lit (.int .i64 0), .lit (.int .u32 0), .lit (.int .i64 0), .list .exact [], .lit (.int .i64 0)] := by kernel_rfl
@[go_sem] theorem sp166 : splaces Tryd.prog 166 = some [(0, 1), (1, 1), (2, 1), (3, 1), (4, 1), (5, 1)] := by kernel_rfl
@[go_sem] theorem ft166_0 : fdT Tryd.prog 166 0 = some (9, 0) := by kernel_rfl
@[go_sem] theorem fo166_0 : foff Tryd.prog 166 0 = some 0 := by kernel_rfl
@[go_sem] theorem ft166_1 : fdT Tryd.prog 166 1 = some (3, 1) := by kernel_rfl
@[go_sem] theorem fo166_1 : foff Tryd.prog 166 1 = some 1 := by kernel_rfl
@[go_sem] theorem ft166_2 : fdT Tryd.prog 166 2 = some (24, 2) := by kernel_rfl
@[go_sem] theorem fo166_2 : foff Tryd.prog 166 2 = some 2 := by kernel_rfl
@[go_sem] theorem ft166_3 : fdT Tryd.prog 166 3 = some (3, 3) := by kernel_rfl
@[go_sem] theorem fo166_3 : foff Tryd.prog 166 3 = some 3 := by kernel_rfl
@[go_sem] theorem ft166_4 : fdT Tryd.prog 166 4 = some (86, 4) := by kernel_rfl
@[go_sem] theorem fo166_4 : foff Tryd.prog 166 4 = some 4 := by kernel_rfl
@[go_sem] theorem ft166_5 : fdT Tryd.prog 166 5 = some (3, 5) := by kernel_rfl
@[go_sem] theorem fo166_5 : foff Tryd.prog 166 5 = some 5 := by kernel_rfl
@[go_sem] theorem sz167 : sizeT Tryd.prog 167 = some 6 := by kernel_rfl
@[go_sem] theorem by167 : (Tryd.prog.info? 167).map (·.bytes) = some 72 := by kernel_rfl
@[go_sem] theorem ag167 : aggT Tryd.prog 167 = some true := by kernel_rfl
@[go_sem] theorem ud167 : ud Tryd.prog 167 = .st := by kernel_rfl
@[go_sem] theorem zc167 : zcells Tryd.prog 167 = some [.lit (.string ByteArray.empty), .lit (.int .i64 0), .lit (.int .u32 0), .lit (.int .i64 0), .list .exact [], .lit (.int .i64 0)] := by kernel_rfl
@[go_sem] theorem sp167 : splaces Tryd.prog 167 = some [(0, 1), (1, 1), (2, 1), (3, 1), (4, 1), (5, 1)] := by kernel_rfl
@[go_sem] theorem ft167_0 : fdT Tryd.prog 167 0 = some (9, 0) := by kernel_rfl
@[go_sem] theorem fo167_0 : foff Tryd.prog 167 0 = some 0 := by kernel_rfl
@[go_sem] theorem ft167_1 : fdT Tryd.prog 167 1 = some (3, 1) := by kernel_rfl
@[go_sem] theorem fo167_1 : foff Tryd.prog 167 1 = some 1 := by kernel_rfl
@[go_sem] theorem ft167_2 : fdT Tryd.prog 167 2 = some (24, 2) := by kernel_rfl
@[go_sem] theorem fo167_2 : foff Tryd.prog 167 2 = some 2 := by kernel_rfl
@[go_sem] theorem ft167_3 : fdT Tryd.prog 167 3 = some (3, 3) := by kernel_rfl
@[go_sem] theorem fo167_3 : foff Tryd.prog 167 3 = some 3 := by kernel_rfl
@[go_sem] theorem ft167_4 : fdT Tryd.prog 167 4 = some (86, 4) := by kernel_rfl
@[go_sem] theorem fo167_4 : foff Tryd.prog 167 4 = some 4 := by kernel_rfl
@[go_sem] theorem ft167_5 : fdT Tryd.prog 167 5 = some (3, 5) := by kernel_rfl
@[go_sem] theorem fo167_5 : foff Tryd.prog 167 5 = some 5 := by kernel_rfl
@[go_sem] theorem sz168 : sizeT Tryd.prog 168 = some 1 := by kernel_rfl
@[go_sem] theorem by168 : (Tryd.prog.info? 168).map (·.bytes) = some 8 := by kernel_rfl
@[go_sem] theorem ag168 : aggT Tryd.prog 168 = some false := by kernel_rfl
@[go_sem] theorem ud168 : ud Tryd.prog 168 = .oth := by kernel_rfl
@[go_sem] theorem zc168 : zcells Tryd.prog 168 = some [.lit .nilFunc] := by kernel_rfl
@[go_sem] theorem sz169 : sizeT Tryd.prog 169 = some 1 := by kernel_rfl
@[go_sem] theorem by169 : (Tryd.prog.info? 169).map (·.bytes) = some 8 := by kernel_rfl
@[go_sem] theorem ag169 : aggT Tryd.prog 169 = some false := by kernel_rfl
@[go_sem] theorem ud169 : ud Tryd.prog 169 = .oth := by kernel_rfl
@[go_sem] theorem zc169 : zcells Tryd.prog 169 = some [.lit .nilFunc] := by kernel_rfl
@[go_sem] theorem sz170 : sizeT Tryd.prog 170 = some 1 := by kernel_rfl
@[go_sem] theorem by170 : (Tryd.prog.info? 170).map (·.bytes) = some 8 := by kernel_rfl
@[go_sem] theorem ag170 : aggT Tryd.prog 170 = some false := by kernel_rfl
@[go_sem] theorem ud170 : ud Tryd.prog 170 = .oth := by kernel_rfl
@[go_sem] theorem zc170 : zcells Tryd.prog 170 = some [.lit .nilFunc] := by kernel_rfl
@[go_sem] theorem sz171 : sizeT Tryd.prog 171 = some 1 := by kernel_rfl
@[go_sem] theorem by171 : (Tryd.prog.info? 171).map (·.bytes) = some 8 := by kernel_rfl
@[go_sem] theorem ag171 : aggT Tryd.prog 171 = some false := by kernel_rfl
@[go_sem] theorem ud171 : ud Tryd.prog 171 = .oth := by kernel_rfl
@[go_sem] theorem zc171 : zcells Tryd.prog 171 = some [.lit .nilFunc] := by kernel_rfl
@[go_sem] theorem sz172 : sizeT Tryd.prog 172 = some 1 := by kernel_rfl
@[go_sem] theorem by172 : (Tryd.prog.info? 172).map (·.bytes) = some 8 := by kernel_rfl
@[go_sem] theorem ag172 : aggT Tryd.prog 172 = some false := by kernel_rfl
@[go_sem] theorem ud172 : ud Tryd.prog 172 = .oth := by kernel_rfl
@[go_sem] theorem zc172 : zcells Tryd.prog 172 = some [.lit .nilFunc] := by kernel_rfl
@[go_sem] theorem sz173 : sizeT Tryd.prog 173 = some 1 := by kernel_rfl
@[go_sem] theorem by173 : (Tryd.prog.info? 173).map (·.bytes) = some 8 := by kernel_rfl
@[go_sem] theorem ag173 : aggT Tryd.prog 173 = some false := by kernel_rfl
@[go_sem] theorem ud173 : ud Tryd.prog 173 = .oth := by kernel_rfl
@[go_sem] theorem zc173 : zcells Tryd.prog 173 = some [.lit .nilFunc] := by kernel_rfl
@[go_sem] theorem sz174 : sizeT Tryd.prog 174 = some 1 := by kernel_rfl
@[go_sem] theorem by174 : (Tryd.prog.info? 174).map (·.bytes) = some 8 := by kernel_rfl
@[go_sem] theorem ag174 : aggT Tryd.prog 174 = some false := by kernel_rfl
@[go_sem] theorem ud174 : ud Tryd.prog 174 = .oth := by kernel_rfl
@[go_sem] theorem zc174 : zcells Tryd.prog 174 = some [.lit .nilFunc] := by kernel_rfl
@[go_sem] theorem sz175 : sizeT Tryd.prog 175 = some 1 := by kernel_rfl
@[go_sem] theorem by175 : (Tryd.prog.info? 175).map (·.bytes) = some 8 := by kernel_rfl
@[go_sem] theorem ag175 : aggT Tryd.prog 175 = some false := by kernel_rfl
@[go_sem] theorem ud175 : ud Tryd.prog 175 = .oth := by kernel_rfl
@[go_sem] theorem zc175 : zcells Tryd.prog 175 = some [.lit (.pointer none)] := by kernel_rfl
@[go_sem] theorem sz176 : sizeT Tryd.prog 176 = some 1 := by kernel_rfl
@[go_sem] theorem by176 : (Tryd.prog.info? 176).map (·.bytes) = some 8 := by kernel_rfl
@[go_sem] theorem ag176 : aggT Tryd.prog 176 = some false := by kernel_rfl
@[go_sem] theorem ud176 : ud Tryd.prog 176 = .oth := by kernel_rfl
@[go_sem] theorem zc176 : zcells Tryd.prog 176 = some [.lit .nilFunc] := by kernel_rfl
@[go_sem] theorem sz177 : sizeT Tryd.prog 177 = some 1 := by kernel_rfl
@[go_sem] theorem by177 : (Tryd.prog.info? 177).map (·.bytes) = some 8 := by kernel_rfl
@[go_sem] theorem ag177 : aggT Tryd.prog 177 = some false := by kernel_rfl
@[go_sem] theorem ud177 : ud Tryd.prog 177 = .oth := by kernel_rfl
@[go_sem] theorem zc177 : zcells Tryd.prog 177 = some [.lit .nilFunc] := by kernel_rfl
@[go_sem] theorem sz178 : sizeT Tryd.prog 178 = some 24 := by kernel_rfl
@[go_sem] theorem by178 : (Tryd.prog.info? 178).map (·.bytes) = some 24 := by kernel_rfl
@[go_sem] theorem ag178 : aggT Tryd.prog 178 = some true := by kernel_rfl
@[go_sem] theorem ud178 : ud Tryd.prog 178 = .ar 24 5 := by kernel_rfl
@[go_sem] theorem zc178 : zcells Tryd.prog 178 = some [.lit (.int .u8 0), .lit (.int .u8 0), .lit (.int .u8 0), .lit (.int .u8 0), .lit (.int .u8 0), .lit (.int .u8 0), .lit (.int .u8 0), .lit (.int .u8 0), .lit (.int .u8 0), .lit (.int .u8 0), .lit (.int .u8 0), .lit (.int .u8 0), .lit (.int .u8 0), .lit (.int .u8 0), .lit (.int .u8 0), .lit (.int .u8 0), .lit (.int .u8 0), .lit (.int .u8 0), .lit (.int .u8 0), .lit (.int .u8 0), .lit (.int .u8 0), .lit (.int .u8 0), .lit (.int .u8 0), .lit (.int .u8 0)] := by kernel_rfl
@[go_sem] theorem sz179 : sizeT Tryd.prog 179 = some 1 := by kernel_rfl
@[go_sem] theorem by179 : (Tryd.prog.info? 179).map (·.bytes) = some 8 := by kernel_rfl
@[go_sem] theorem ag179 : aggT Tryd.prog 179 = some false := by kernel_rfl
@[go_sem] theorem ud179 : ud Tryd.prog 179 = .oth := by kernel_rfl
@[go_sem] theorem zc179 : zcells Tryd.prog 179 = some [.lit .nilFunc] := by kernel_rfl
@[go_sem] theorem sz180 : sizeT Tryd.prog 180 = some 1 := by kernel_rfl
@[go_sem] theorem by180 : (Tryd.prog.info? 180).map (·.bytes) = some 8 := by kernel_rfl
@[go_sem] theorem ag180 : aggT Tryd.prog 180 = some false := by kernel_rfl
@[go_sem] theorem ud180 : ud Tryd.prog 180 = .oth := by kernel_rfl
@[go_sem] theorem zc180 : zcells Tryd.prog 180 = some [.lit .nilFunc] := by kernel_rfl
@[go_sem] theorem sz182 : sizeT Tryd.prog 182 = some 1 := by kernel_rfl
@[go_sem] theorem by182 : (Tryd.prog.info? 182).map (·.bytes) = some 8 := by kernel_rfl
@[go_sem] theorem ag182 : aggT Tryd.prog 182 = some false := by kernel_rfl
@[go_sem] theorem ud182 : ud Tryd.prog 182 = .oth := by kernel_rfl
@[go_sem] theorem zc182 : zcells Tryd.prog 182 = some [.lit .nilFunc] := by kernel_rfl
@[go_sem] theorem sz183 : sizeT Tryd.prog 183 = some 1 := by kernel_rfl
@[go_sem] theorem by183 : (Tryd.prog.info? 183).map (·.bytes) = some 8 := by kernel_rfl
@[go_sem] theorem ag183 : aggT Tryd.prog 183 = some false := by kernel_rfl
@[go_sem] theorem ud183 : ud Tryd.prog 183 = .oth := by kernel_rfl
@[go_sem] theorem zc183 : zcells Tryd.prog 183 = some [.lit .nilFunc] := by kernel_rfl
@[go_sem] theorem sz184 : sizeT Tryd.prog 184 = some 1 := by kernel_rfl
@[go_sem] theorem by184 : (Tryd.prog.info? 184).map (·.bytes) = some 8 := by kernel_rfl
@[go_sem] theorem ag184 : aggT Tryd.prog 184 = some false := by kernel_rfl
@[go_sem] theorem ud184 : ud Tryd.prog 184 = .oth := by kernel_rfl
@[go_sem] theorem zc184 : zcells Tryd.prog 184 = some [.lit .nilFunc] := by kernel_rfl
@[go_sem] theorem sz185 : sizeT Tryd.prog 185 = some 1 := by kernel_rfl
@[go_sem] theorem by185 : (Tryd.prog.info? 185).map (·.bytes) = some 8 := by kernel_rfl
@[go_sem] theorem ag185 : aggT Tryd.prog 185 = some false := by kernel_rfl
@[go_sem] theorem ud185 : ud Tryd.prog 185 = .oth := by kernel_rfl
@[go_sem] theorem zc185 : zcells Tryd.prog 185 = some [.lit .nilFunc] := by kernel_rfl
@[go_sem] theorem sz186 : sizeT Tryd.prog 186 = some 1 := by kernel_rfl
@[go_sem] theorem by186 : (Tryd.prog.info? 186).map (·.bytes) = some 8 := by kernel_rfl
@[go_sem] theorem ag186 : aggT Tryd.prog 186 = some false := by kernel_rfl
@[go_sem] theorem ud186 : ud Tryd.prog 186 = .oth := by kernel_rfl
@[go_sem] theorem zc186 : zcells Tryd.prog 186 = some [.lit .nilFunc] := by kernel_rfl
@[go_sem] theorem sz187 : sizeT Tryd.prog 187 = some 1 := by kernel_rfl
@[go_sem] theorem by187 : (Tryd.prog.info? 187).map (·.bytes) = some 8 := by kernel_rfl
@[go_sem] theorem ag187 : aggT Tryd.prog 187 = some false := by kernel_rfl
@[go_sem] theorem ud187 : ud Tryd.prog 187 = .oth := by kernel_rfl
@[go_sem] theorem zc187 : zcells Tryd.prog 187 = some [.lit .nilFunc] := by kernel_rfl
@[go_sem] theorem sz188 : sizeT Tryd.prog 188 = some 20 := by kernel_rfl
@[go_sem] theorem by188 : (Tryd.prog.info? 188).map (·.bytes) = some 160 := by kernel_rfl
@[go_sem] theorem ag188 : aggT Tryd.prog 188 = some true := by kernel_rfl
@[go_sem] theorem ud188 : ud Tryd.prog 188 = .ar 20 140 := by kernel_rfl
@[go_sem] theorem zc188 : zcells Tryd.prog 188 = some [.lit (.int .u64 0), .lit (.int .u64 0), .lit (.int .u64 0), .lit (.int .u64 0), .lit (.int .u64 0), .lit (.int .u64 0), .lit (.int .u64 0), .lit (.int .u64 0), .lit (.int .u64 0), .lit (.int .u64 0), .lit (.int .u64 0), .lit (.int .u64 0), .lit (.int .u64 0), .lit (.int .u64 0), .lit (.int .u64 0), .lit (.int .u64 0), .lit (.int .u64 0), .lit (.int .u64 0), .lit (.int .u64 0), .lit (.int .u64 0)] := by kernel_rfl
@[go_sem] theorem sz189 : sizeT Tryd.prog 189 = some 65 := by kernel_rfl
@[go_sem] theorem by189 : (Tryd.prog.info? 189).map (·.bytes) = some 65 := by kernel_rfl
@[go_sem] theorem ag189 : aggT Tryd.prog 189 = some true := by kernel_rfl
@[go_sem] theorem ud189 : ud Tryd.prog 189 = .ar 65 5 := by kernel_rfl
@[go_sem] theorem sz190 : sizeT Tryd.prog 190 = some 1 := by kernel_rfl
@[go_sem] theorem by190 : (Tryd.prog.info? 190).map (·.bytes) = some 8 := by kernel_rfl
@[go_sem] theorem ag190 : aggT Tryd.prog 190 = some false := by kernel_rfl
@[go_sem] theorem ud190 : ud Tryd.prog 190 = .int .u64 := by kernel_rfl
@[go_sem] theorem zc190 : zcells Tryd.prog 190 = some [.lit (.int .u64 0)] := by kernel_rfl
@[go_sem] theorem sz191 : sizeT Tryd.prog 191 = some 1 := by kernel_rfl
@[go_sem] theorem by191 : (Tryd.prog.info? 191).map (·.bytes) = some 8 := by kernel_rfl
@[go_sem] theorem ag191 : aggT Tryd.prog 191 = some false := by kernel_rfl
@[go_sem] theorem ud191 : ud Tryd.prog 191 = .oth := by kernel_rfl
@[go_sem] theorem zc191 : zcells Tryd.prog 191 = some [.lit .nilFunc] := by kernel_rfl
@[go_sem] theorem sz192 : sizeT Tryd.prog 192 = some 1 := by kernel_rfl
@[go_sem] theorem by192 : (Tryd.prog.info? 192).map (·.bytes) = some 8 := by kernel_rfl
@[go_sem] theorem ag192 : aggT Tryd.prog 192 = some false := by kernel_rfl
@[go_sem] theorem ud192 : ud Tryd.prog 192 = .oth := by kernel_rfl
@[go_sem] theorem zc192 : zcells Tryd.prog 192 = some [.lit .nilFunc] := by kernel_rfl
@[go_sem] theorem sz193 : sizeT Tryd.prog 193 = some 1 := by kernel_rfl
@[go_sem] theorem by193 : (Tryd.prog.info? 193).map (·.bytes) = some 8 := by kernel_rfl
@[go_sem] theorem ag193 : aggT Tryd.prog 193 = some false := by kernel_rfl
@[go_sem] theorem ud193 : ud Tryd.prog 193 = .oth := by kernel_rfl
@[go_sem] theorem zc193 : zcells Tryd.prog 193 = some [.lit .nilFunc] := by kernel_rfl
@[go_sem] theorem sz194 : sizeT Tryd.prog 194 = some 2 := by kernel_rfl
@[go_sem] theorem by194 : (Tryd.prog.info? 194).map (·.bytes) = some 32 := by kernel_rfl
@[go_sem] theorem ag194 : aggT Tryd.prog 194 = some true := by kernel_rfl
@[go_sem] theorem ud194 : ud Tryd.prog 194 = .ar 2 9 := by kernel_rfl
@[go_sem] theorem zc194 : zcells Tryd.prog 194 = some [.lit (.string ByteArray.empty), .lit (.string ByteArray.empty)] := by kernel_rfl
@[go_sem] theorem sz195 : sizeT Tryd.prog 195 = some 21 := by kernel_rfl
@[go_sem] theorem by195 : (Tryd.prog.info? 195).map (·.bytes) = some 336 := by kernel_rfl
@[go_sem] theorem ag195 : aggT Tryd.prog 195 = some true := by kernel_rfl
@[go_sem] theorem ud195 : ud Tryd.prog 195 = .ar 7 138 := by kernel_rfl
@[go_sem] theorem zc195 : zcells Tryd.prog 195 = some [.lit (.string ByteArray.empty), .lit (.string ByteArray.empty), .lit (.string ByteArray.empty), .lit (.string ByteArray.empty), .lit (.string ByteArray.empty), .lit (.string ByteArray.empty), .lit (.string ByteArray.empty), .lit (.string ByteArray.empty), .lit (.string ByteArray.empty), .lit (.string ByteArray.empty), .lit (.string ByteArray.empty), .lit (.string ByteArray.empty), .lit (.string ByteArray.empty), .lit (.string ByteArray.empty), .lit (.string ByteArray.empty), .lit (.string ByteArray.empty), .lit (.string ByteArray.empty), .lit (.string ByteArray.empty), .lit (.string ByteArray.empty), .lit (.string ByteArray.empty), .lit (.string ByteArray.empty)] := by kernel_rfl
@[go_sem] theorem sz196 : sizeT Tryd.prog 196 = some 1 := by kernel_rfl
@[go_sem] theorem by196 : (Tryd.prog.info? 196).map (·.bytes) = some 8 := by kernel_rfl
@[go_sem] theorem ag196 : aggT Tryd.prog 196 = some false := by kernel_rfl
@[go_sem] theorem ud196 : ud Tryd.prog 196 = .oth := by kernel_rfl
@[go_sem] theorem zc196 : zcells Tryd.prog 196 = some [.lit .nilFunc] := by kernel_rfl
@[go_sem] theorem sz197 : sizeT Tryd.prog 197 = some 1 := by kernel_rfl
@[go_sem] theorem by197 : (Tryd.prog.info? 197).map (·.bytes) = some 8 := by kernel_rfl
@[go_sem] theorem ag197 : aggT Tryd.prog 197 = some false := by kernel_rfl
@[go_sem] theorem ud197 : ud Tryd.prog 197 = .oth := by kernel_rfl
@[go_sem] theorem zc197 : zcells Tryd.prog 197 = some [.lit .nilFunc] := by kernel_rfl
@[go_sem] theorem sz198 : sizeT Tryd.prog 198 = some 1 := by kernel_rfl
@[go_sem] theorem by198 : (Tryd.prog.info? 198).map (·.bytes) = some 8 := by kernel_rfl
@[go_sem] theorem ag198 : aggT Tryd.prog 198 = some false := by kernel_rfl
@[go_sem] theorem ud198 : ud Tryd.prog 198 = .oth := by kernel_rfl
@[go_sem] theorem zc198 : zcells Tryd.prog 198 = some [.lit .nilFunc] := by kernel_rfl
@[go_sem] theorem sz199 : sizeT Tryd.prog 199 = some 1 := by kernel_rfl
@[go_sem] theorem by199 : (Tryd.prog.info? 199).map (·.bytes) = some 8 := by kernel_rfl
@[go_sem] theorem ag199 : aggT Tryd.prog 199 = some false := by kernel_rfl
@[go_sem] theorem ud199 : ud Tryd.prog 199 = .oth := by kernel_rfl
@[go_sem] theorem zc199 : zcells Tryd.prog 199 = some [.lit .nilFunc] := by kernel_rfl
@[go_sem] theorem sz200 : sizeT Tryd.prog 200 = some 1 := by kernel_rfl
@[go_sem] theorem by200 : (Tryd.prog.info? 200).map (·.bytes) = some 8 := by kernel_rfl
@[go_sem] theorem ag200 : aggT Tryd.prog 200 = some false := by kernel_rfl
@[go_sem] theorem ud200 : ud Tryd.prog 200 = .oth := by kernel_rfl
@[go_sem] theorem zc200 : zcells Tryd.prog 200 = some [.lit .nilFunc] := by kernel_rfl
@[go_sem] theorem sz201 : sizeT Tryd.prog 201 = some 32 := by kernel_rfl
@[go_sem] theorem by201 : (Tryd.prog.info? 201).map (·.bytes) = some 32 := by kernel_rfl
@[go_sem] theorem ag201 : aggT Tryd.prog 201 = some true := by kernel_rfl
@[go_sem] theorem ud201 : ud Tryd.prog 201 = .ar 32 5 := by kernel_rfl
@[go_sem] theorem zc201 : zcells Tryd.prog 201 = some [.lit (.int .u8 0), .lit (.int .u8 0), .lit (.int .u8 0), .lit (.int .u8 0), .lit (.int .u8 0), .lit (.int .u8 0), .lit (.int .u8 0), .lit (.int .u8 0), .lit (.int .u8 0), .lit (.int .u8 0), .lit (.int .u8 0), .lit (.int .u8 0), .lit (.int .u8 0), .lit (.int .u8 0), .lit (.int .u8 0), .lit (.int .u8 0), .lit (.int .u8 0), .lit (.int .u8 0), .lit (.int .u8 0), .lit (.int .u8 0), .lit (.int .u8 0), .lit (.int .u8 0), .lit (.int .u8 0), .lit (.int .u8 0), .lit (.int .u8 0), .lit (.int .u8 0), .lit (.int .u8 0), .lit (.int .u8 0), .lit (.int .u8 0), .lit (.int .u8 0), .lit (.int .u8 0), .lit (.int .u8 0)] := by kernel_rfl
@[go_sem] theorem sz202 : sizeT Tryd.prog 202 = some 64 := by kernel_rfl
@[go_sem] theorem by202 : (Tryd.prog.info? 202).map (·.bytes) = some 64 := by kernel_rfl
@[go_sem] theorem ag202 : aggT Tryd.prog 202 = some true := by kernel_rfl
@[go_sem] theorem ud202 : ud Tryd.prog 202 = .ar 64 5 := by kernel_rfl
@[go_sem] theorem zc202 : zcells Tryd.prog 202 = some [.lit (.int .u8 0), .lit (.int .u8 0), .lit (.int .u8 0), .lit (.int .u8 0), .lit (.int .u8 0), .lit (.int .u8 0), .lit (.int .u8 0), .lit (.int .u8 0), .lit (.int .u8 0), .lit (.int .u8 0), .lit (.int .u8 0), .lit (.int .u8 0), .lit (.int .u8 0), .lit (.int .u8 0), .lit (.int .u8 0), .lit (.int .u8 0), .lit (.int .u8 0), .lit (.int .u8 0), .lit (.int .u8 0), .lit (.int .u8 0), .lit (.int .u8 0), .lit (.int .u8 0), .lit (.int .u8 0), .lit (.int .u8 0), .lit (.int .u8 0), .lit (.int .u8 0), .lit (.int .u8 0), .lit (.int .u8 0), .lit (.int .u8 0), .lit (.int .u8 0), .lit (.int .u8 0), .lit (.int .u8 0), .lit (.int .u8 0), .lit (.int .u8 0), .lit (.int .u8 0), .lit (.int .u8 0), .lit (.int .u8 0), .lit (.int .u8 0), .lit (.int .u8 0), .lit (.int .u8 0), .lit (.int .u8 0), .lit (.int .u8 0), .lit (.int .u8 0), .lit (.int .u8 0), .lit (.int .u8 0), .lit (.int .u8 0), .lit (.int .u8 0), .lit (.int .u8 0), .lit (.int .u8 0), .lit (.int .u8 0), .lit (.int .u8 0), .lit (.int .u8 0), .lit (.int .u8 0), .lit (.int .u8 0), .lit (.int .u8 0), .lit (.int .u8 0), .lit (.int .u8 0), .lit (.int .u8 0), .lit (.int .u8 0), .lit (.int .u8 0), .lit (.int .u8 0), .lit (.int .u8 0), .lit (.int .u8 0), .lit (.int .u8 0)] := by kernel_rfl
@[go_sem] theorem sz203 : sizeT Tryd.prog 203 = some 4 := by kernel_rfl
@[go_sem] theorem by203 : (Tryd.prog.info? 203).map (·.bytes) = some 40 := by kernel_rfl
@[go_sem] theorem ag203 : aggT Tryd.prog 203 = some true := by kernel_rfl
@[go_sem] theorem ud203 : ud Tryd.prog 203 = .st := by kernel_rfl
@[go_sem] theorem zc203 : zcells Tryd.prog 203 = some [.lit (.pointer none), .lit (.pointer none), .lit (.pointer none), .lit (.string ByteArray.empty)] := by kernel_rfl
@[go_sem] theorem sp203 : splaces Tryd.prog 203 = some [(0, 1), (1, 1), (2, 1), (3, 1)] := by kernel_rfl
@[go_sem] theorem ft203_0 : fdT Tryd.prog 203 0 = some (17, 0) := by kernel_rfl
@[go_sem] theorem fo203_0 : foff Tryd.prog 203 0 = some 0 := by kernel_rfl
@[go_sem] theorem ft203_1 : fdT Tryd.prog 203 1 = some (17, 1) := by kernel_rfl
@[go_sem] theorem fo203_1 : foff Tryd.prog 203 1 = some 1 := by kernel_rfl
@[go_sem] theorem ft203_2 : fdT Tryd.prog 203 2 = some (17, 2) := by kernel_rfl
@[go_sem] theorem fo203_2 : foff Tryd.prog 203 2 = some 2 := by kernel_rfl
@[go_sem] theorem ft203_3 : fdT Tryd.prog 203 3 = some (9, 3) := by kernel_rfl
@[go_sem] theorem fo203_3 : foff Tryd.prog 203 3 = some 3 := by kernel_rfl
@[go_sem] theorem sz204 : sizeT Tryd.prog 204 = some 4 := by kernel_rfl
@[go_sem] theorem by204 : (Tryd.prog.info? 204).map (·.bytes) = some 40 := by kernel_rfl
@[go_sem] theorem ag204 : aggT Tryd.prog 204 = some true := by kernel_rfl
@[go_sem] theorem ud204 : ud Tryd.prog 204 = .st := by kernel_rfl
@[go_sem] theorem zc204 : zcells Tryd.prog 204 = some [.lit (.pointer none), .lit (.pointer none), .lit (.pointer none), .lit (.string ByteArray.empty)] := by kernel_rfl
@[go_sem] theorem sp204 : splaces Tryd.prog 204 = some [(0, 1), (1, 1), (2, 1), (3, 1)] := by kernel_rfl
@[go_sem] theorem ft204_0 : fdT Tryd.prog 204 0 = some (17, 0) := by kernel_rfl
@[go_sem] theorem fo204_0 : foff Tryd.prog 204 0 = some 0 := by kernel_rfl
@[go_sem] theorem ft204_1 : fdT Tryd.prog 204 1 = some (17, 1) := by kernel_rfl
@[go_sem] theorem fo204_1 : foff Tryd.prog 204 1 = some 1 := by kernel_rfl
@[go_sem] theorem ft204_2 : fdT Tryd.prog 204 2 = some (17, 2) := by kernel_rfl
@[go_sem] theorem fo204_2 : foff Tryd.prog 204 2 = some 2 := by kernel_rfl
@[go_sem] theorem ft204_3 : fdT Tryd.prog 204 3 = some (9, 3) := by kernel_rfl
@[go_sem] theorem fo204_3 : foff Tryd.prog 204 3 = some 3 := by kernel_rfl
@[go_sem] theorem sz205 : sizeT Tryd.prog 205 = some 0 := by kernel_rfl
@[go_sem] theorem by205 : (Tryd.prog.info? 205).map (·.bytes) = some 0 := by kernel_rfl
@[go_sem] theorem ag205 : aggT Tryd.prog 205 = some true := by kernel_rfl
@[go_sem] theorem ud205 : ud Tryd.prog 205 = .ar 0 16 := by kernel_rfl
@[go_sem] theorem zc205 : zcells Tryd.prog 205 = some [] := by kernel_rfl
@[go_sem] theorem sz206 : sizeT Tryd.prog 206 = some 0 := by kernel_rfl
@[go_sem] theorem by206 : (Tryd.prog.info? 206).map (·.bytes) = some 0 := by kernel_rfl
@[go_sem] theorem ag206 : aggT Tryd.prog 206 = some true := by kernel_rfl
@[go_sem] theorem ud206 : ud Tryd.prog 206 = .st := by kernel_rfl
@[go_sem] theorem zc206 : zcells Tryd.prog 206 = some [] := by kernel_rfl
@[go_sem] theorem sp206 : splaces Tryd.prog 206 = some [(0, 0)] := by kernel_rfl
@[go_sem] theorem ft206_0 : fdT Tryd.prog 206 0 = some (205, 0) := by kernel_rfl
@[go_sem] theorem sz207 : sizeT Tryd.prog 207 = some 0 := by kernel_rfl
@[go_sem] theorem by207 : (Tryd.prog.info? 207).map (·.bytes) = some 0 := by kernel_rfl
@[go_sem] theorem ag207 : aggT Tryd.prog 207 = some true := by kernel_rfl
@[go_sem] theorem ud207 : ud Tryd.prog 207 = .st := by kernel_rfl
@[go_sem] theorem zc207 : zcells Tryd.prog 207 = some [] := by kernel_rfl
@[go_sem] theorem sp207 : splaces Tryd.prog 207 = some [(0, 0)] := by kernel_rfl
@[go_sem] theorem ft207_0 : fdT Tryd.prog 207 0 = some (205, 0) := by kernel_rfl
@[go_sem] theorem sz208 : sizeT Tryd.prog 208 = some 1 := by kernel_rfl
@[go_sem] theorem by208 : (Tryd.prog.info? 208).map (·.bytes) = some 1 := by kernel_rfl
@[go_sem] theorem ag208 : aggT Tryd.prog 208 = some false := by kernel_rfl
@[go_sem] theorem ud208 : ud Tryd.prog 208 = .int .u8 := by kernel_rfl
@[go_sem] theorem zc208 : zcells Tryd.prog 208 = some [.lit (.int .u8 0)] := by kernel_rfl
@[go_sem] theorem sz209 : sizeT Tryd.prog 209 = some 1 := by kernel_rfl
@[go_sem] theorem by209 : (Tryd.prog.info? 209).map (·.bytes) = some 1 := by kernel_rfl
@[go_sem] theorem ag209 : aggT Tryd.prog 209 = some false := by kernel_rfl
@[go_sem] theorem ud209 : ud Tryd.prog 209 = .int .u8 := by kernel_rfl
@[go_sem] theorem zc209 : zcells Tryd.prog 209 = some [.lit (.int .u8 0)] := by kernel_rfl
@[go_sem] theorem sz210 : sizeT Tryd.prog 210 = some 1 := by kernel_rfl
@[go_sem] theorem by210 : (Tryd.prog.info? 210).map (·.bytes) = some 8 := by kernel_rfl
@[go_sem] theorem ag210 : aggT Tryd.prog 210 = some false := by kernel_rfl
@[go_sem] theorem ud210 : ud Tryd.prog 210 = .oth := by kernel_rfl
@[go_sem] theorem zc210 : zcells Tryd.prog 210 = some [.lit .nilFunc] := by kernel_rfl
@[go_sem] theorem sz211 : sizeT Tryd.prog 211 = some 1 := by kernel_rfl
@[go_sem] theorem by211 : (Tryd.prog.info? 211).map (·.bytes) = some 4 := by kernel_rfl
@[go_sem] theorem ag211 : aggT Tryd.prog 211 = some false := by kernel_rfl
@[go_sem] theorem ud211 : ud Tryd.prog 211 = .int .i32 := by kernel_rfl
@[go_sem] theorem zc211 : zcells Tryd.prog 211 = some [.lit (.int .i32 0)] := by kernel_rfl
@[go_sem] theorem sz212 : sizeT Tryd.prog 212 = some 1 := by kernel_rfl
@[go_sem] theorem by212 : (Tryd.prog.info? 212).map (·.bytes) = some 4 := by kernel_rfl
@[go_sem] theorem ag212 : aggT Tryd.prog 212 = some false := by kernel_rfl
@[go_sem] theorem ud212 : ud Tryd.prog 212 = .int .i32 := by kernel_rfl
@[go_sem] theorem zc212 : zcells Tryd.prog 212 = some [.lit (.int .i32 0)] := by kernel_rfl
@[go_sem] theorem sz213 : sizeT Tryd.prog 213 = some 11 := by kernel_rfl
@[go_sem] theorem by213 : (Tryd.prog.info? 213).map (·.bytes) = some 48 := by kernel_rfl
@[go_sem] theorem ag213 : aggT Tryd.prog 213 = some true := by kernel_rfl
@[go_sem] theorem ud213 : ud Tryd.prog 213 = .st := by kernel_rfl
@[go_sem] theorem zc213 : zcells Tryd.prog 213 = some [.lit (.int .u64 0), .lit (.int .u64 0), .lit (.int .u32 0), .lit (.int .u8 0), .lit (.int .u8 0), .lit (.int .u8 0), .lit (.int .u8 0), .lit .nilFunc, .lit (.pointer none), .lit (.int .i32 0), .lit (.int .i32 0)] := by kernel_rfl
@[go_sem] theorem sp213 : splaces Tryd.prog 213 = some [(0, 1), (1, 1), (2, 1), (3, 1), (4, 1), (5, 1), (6, 1), (7, 1), (8, 1), (9, 1), (10, 1)] := by kernel_rfl
@[go_sem] theorem ft213_0 : fdT Tryd.prog 213 0 = some (12, 0) := by kernel_rfl
@[go_sem] theorem fo213_0 : foff Tryd.prog 213 0 = some 0 := by kernel_rfl
@[go_sem] theorem ft213_1 : fdT Tryd.prog 213 1 = some (12, 1) := by kernel_rfl
@[go_sem] theorem fo213_1 : foff Tryd.prog 213 1 = some 1 := by kernel_rfl
@[go_sem] theorem ft213_2 : fdT Tryd.prog 213 2 = some (24, 2) := by kernel_rfl
@[go_sem] theorem fo213_2 : foff Tryd.prog 213 2 = some 2 := by kernel_rfl
@[go_sem] theorem ft213_3 : fdT Tryd.prog 213 3 = some (208, 3) := by kernel_rfl
@[go_sem] theorem fo213_3 : foff Tryd.prog 213 3 = some 3 := by kernel_rfl
@[go_sem] theorem ft213_4 : fdT Tryd.prog 213 4 = some (5, 4) := by kernel_rfl
@[go_sem] theorem fo213_4 : foff Tryd.prog 213 4 = some 4 := by kernel_rfl
@[go_sem] theorem ft213_5 : fdT Tryd.prog 213 5 = some (5, 5) := by kernel_rfl
@[go_sem] theorem fo213_5 : foff Tryd.prog 213 5 = some 5 := by kernel_rfl
@[go_sem] theorem ft213_6 : fdT Tryd.prog 213 6 = some (209, 6) := by kernel_rfl
@[go_sem] theorem fo213_6 : foff Tryd.prog 213 6 = some 6 := by kernel_rfl
@[go_sem] theorem ft213_7 : fdT Tryd.prog 213 7 = some (210, 7) := by kernel_rfl
@[go_sem] theorem fo213_7 : foff Tryd.prog 213 7 = some 7 := by kernel_rfl
@[go_sem] theorem ft213_8 : fdT Tryd.prog 213 8 = some (165, 8) := by kernel_rfl
@[go_sem] theorem fo213_8 : foff Tryd.prog 213 8 = some 8 := by kernel_rfl
@[go_sem] theorem ft213_9 : fdT Tryd.prog 213 9 = some (211, 9) := by kernel_rfl
@[go_sem] theorem fo213_9 : foff Tryd.prog 213 9 = some 9 := by kernel_rfl
@[go_sem] theorem ft213_10 : fdT Tryd.prog 213 10 = some (212, 10) := by kernel_rfl
@[go_sem] theorem fo213_10 : foff Tryd.prog 213 10 = some 10 := by kernel_rfl
@[go_sem] theorem sz214 : sizeT Tryd.prog 214 = some 11 := by kernel_rfl
@[go_sem] theorem by214 : (Tryd.prog.info? 214).map (·.bytes) = some 48 := by kernel_rfl
@[go_sem] theorem ag214 : aggT Tryd.prog 214 = some true := by kernel_rfl
@[go_sem] theorem ud214 : ud Tryd.prog 214 = .st := by kernel_rfl
@[go_sem] theorem zc214 : zcells Tryd.prog 214 = some [.lit (.int .u64 0), .lit (.int .u64 0), .lit (.int .u32 0), .lit (.int .u8 0), .lit (.int .u8 0), .lit (.int .u8 0), .lit (.int .u8 0), .lit .nilFunc, .lit (.pointer none), .lit (.int .i32 0), .lit (.int .i32 0)] := by kernel_rfl
@[go_sem] theorem sp214 : splaces Tryd.prog 214 = some [(0, 1), (1, 1), (2, 1), (3, 1), (4, 1), (5, 1), (6, 1), (7, 1), (8, 1), (9, 1), (10, 1)] := by kernel_rfl
@[go_sem] theorem ft214_0 : fdT Tryd.prog 214 0 = some (12, 0) := by kernel_rfl
@[go_sem] theorem fo214_0 : foff Tryd.prog 214 0 = some 0 := by kernel_rfl
@[go_sem] theorem ft214_1 : fdT Tryd.prog 214 1 = some (12, 1) := by kernel_rfl
@[go_sem] theorem fo214_1 : foff Tryd.prog 214 1 = some 1 := by kernel_rfl
@[go_sem] theorem ft214_2 : fdT Tryd.prog 214 2 = some (24, 2) := by kernel_rfl
@[go_sem] theorem fo214_2 : foff Tryd.prog 214 2 = some 2 := by kernel_rfl
@[go_sem] theorem ft214_3 : fdT Tryd.prog 214 3 = some (208, 3) := by kernel_rfl
@[go_sem] theorem fo214_3 : foff Tryd.prog 214 3 = some 3 := by kernel_rfl
@[go_sem] theorem ft214_4 : fdT Tryd.prog 214 4 = some (5, 4) := by kernel_rfl
@[go_sem] theorem fo214_4 : foff Tryd.prog 214 4 = some 4 := by kernel_rfl
@[go_sem] theorem ft214_5 : fdT Tryd.prog 214 5 = some (5, 5) := by kernel_rfl
@[go_sem] theorem fo214_5 : foff Tryd.prog 214 5 = some 5 := by kernel_rfl
@[go_sem] theorem ft214_6 : fdT Tryd.prog 214 6 = some (209, 6) := by kernel_rfl
@[go_sem] theorem fo214_6 : foff Tryd.prog 214 6 = some 6 := by kernel_rfl
@[go_sem] theorem ft214_7 : fdT Tryd.prog 214 7 = some (210, 7) := by kernel_rfl
@[go_sem] theorem fo214_7 : foff Tryd.prog 214 7 = some 7 := by kernel_rfl
@[go_sem] theorem ft214_8 : fdT Tryd.prog 214 8 = some (165, 8) := by kernel_rfl
@[go_sem] theorem fo214_8 : foff Tryd.prog 214 8 = some 8 := by kernel_rfl
@[go_sem] theorem ft214_9 : fdT Tryd.prog 214 9 = some (211, 9) := by kernel_rfl
@[go_sem] theorem fo214_9 : foff Tryd.prog 214 9 = some 9 := by kernel_rfl
@[go_sem] theorem ft214_10 : fdT Tryd.prog 214 10 = some (212, 10) := by kernel_rfl
@[go_sem] theorem fo214_10 : foff Tryd.prog 214 10 = some 10 := by kernel_rfl
end Go.Proofs.YtolhahlnccekcaaDoor.Abs
