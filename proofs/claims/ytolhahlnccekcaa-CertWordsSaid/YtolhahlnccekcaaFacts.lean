/-
  Facts on the types of the translation, each by the kernel. Written by a program of mine (facts.py).
-/
import Derived.Test.YtolhahlnccekcaaProg
import Derived.Test.YtolhahlnccekcaaA20
import Derived.KernelRfl
namespace Go.Proofs.Ytolhahlnccekcaa.Abs
@[go_sem] theorem sz1 : sizeT Try.prog 1 = some 1 := by kernel_rfl
@[go_sem] theorem by1 : (Try.prog.info? 1).map (·.bytes) = some 8 := by kernel_rfl
@[go_sem] theorem ag1 : aggT Try.prog 1 = some false := by kernel_rfl
@[go_sem] theorem ud1 : ud Try.prog 1 = .oth := by kernel_rfl
@[go_sem] theorem zc1 : zcells Try.prog 1 = some [.lit .nilFunc] := by kernel_rfl
@[go_sem] theorem sz2 : sizeT Try.prog 2 = some 1 := by kernel_rfl
@[go_sem] theorem by2 : (Try.prog.info? 2).map (·.bytes) = some 8 := by kernel_rfl
@[go_sem] theorem ag2 : aggT Try.prog 2 = some false := by kernel_rfl
@[go_sem] theorem ud2 : ud Try.prog 2 = .int .i64 := by kernel_rfl
@[go_sem] theorem zc2 : zcells Try.prog 2 = some [.lit (.int .i64 0)] := by kernel_rfl
@[go_sem] theorem sz3 : sizeT Try.prog 3 = some 1 := by kernel_rfl
@[go_sem] theorem by3 : (Try.prog.info? 3).map (·.bytes) = some 8 := by kernel_rfl
@[go_sem] theorem ag3 : aggT Try.prog 3 = some false := by kernel_rfl
@[go_sem] theorem ud3 : ud Try.prog 3 = .int .i64 := by kernel_rfl
@[go_sem] theorem zc3 : zcells Try.prog 3 = some [.lit (.int .i64 0)] := by kernel_rfl
@[go_sem] theorem sz4 : sizeT Try.prog 4 = some 1 := by kernel_rfl
@[go_sem] theorem by4 : (Try.prog.info? 4).map (·.bytes) = some 1 := by kernel_rfl
@[go_sem] theorem ag4 : aggT Try.prog 4 = some false := by kernel_rfl
@[go_sem] theorem ud4 : ud Try.prog 4 = .oth := by kernel_rfl
@[go_sem] theorem zc4 : zcells Try.prog 4 = some [.lit (.bool false)] := by kernel_rfl
@[go_sem] theorem sz5 : sizeT Try.prog 5 = some 1 := by kernel_rfl
@[go_sem] theorem by5 : (Try.prog.info? 5).map (·.bytes) = some 1 := by kernel_rfl
@[go_sem] theorem ag5 : aggT Try.prog 5 = some false := by kernel_rfl
@[go_sem] theorem ud5 : ud Try.prog 5 = .int .u8 := by kernel_rfl
@[go_sem] theorem zc5 : zcells Try.prog 5 = some [.lit (.int .u8 0)] := by kernel_rfl
@[go_sem] theorem sz6 : sizeT Try.prog 6 = some 1 := by kernel_rfl
@[go_sem] theorem by6 : (Try.prog.info? 6).map (·.bytes) = some 1 := by kernel_rfl
@[go_sem] theorem ag6 : aggT Try.prog 6 = some false := by kernel_rfl
@[go_sem] theorem ud6 : ud Try.prog 6 = .int .u8 := by kernel_rfl
@[go_sem] theorem zc6 : zcells Try.prog 6 = some [.lit (.int .u8 0)] := by kernel_rfl
@[go_sem] theorem sz7 : sizeT Try.prog 7 = some 4 := by kernel_rfl
@[go_sem] theorem by7 : (Try.prog.info? 7).map (·.bytes) = some 24 := by kernel_rfl
@[go_sem] theorem ag7 : aggT Try.prog 7 = some true := by kernel_rfl
@[go_sem] theorem ud7 : ud Try.prog 7 = .st := by kernel_rfl
@[go_sem] theorem zc7 : zcells Try.prog 7 = some [.lit (.int .i64 0), .lit (.int .i64 0), .lit (.bool false), .lit (.int .u8 0)] := by kernel_rfl
@[go_sem] theorem sp7 : splaces Try.prog 7 = some [(0, 1), (1, 1), (2, 1), (3, 1)] := by kernel_rfl
@[go_sem] theorem ft7_0 : fdT Try.prog 7 0 = some (2, 0) := by kernel_rfl
@[go_sem] theorem fo7_0 : foff Try.prog 7 0 = some 0 := by kernel_rfl
@[go_sem] theorem ft7_1 : fdT Try.prog 7 1 = some (3, 1) := by kernel_rfl
@[go_sem] theorem fo7_1 : foff Try.prog 7 1 = some 1 := by kernel_rfl
@[go_sem] theorem ft7_2 : fdT Try.prog 7 2 = some (4, 2) := by kernel_rfl
@[go_sem] theorem fo7_2 : foff Try.prog 7 2 = some 2 := by kernel_rfl
@[go_sem] theorem ft7_3 : fdT Try.prog 7 3 = some (6, 3) := by kernel_rfl
@[go_sem] theorem fo7_3 : foff Try.prog 7 3 = some 3 := by kernel_rfl
@[go_sem] theorem sz8 : sizeT Try.prog 8 = some 4 := by kernel_rfl
@[go_sem] theorem by8 : (Try.prog.info? 8).map (·.bytes) = some 24 := by kernel_rfl
@[go_sem] theorem ag8 : aggT Try.prog 8 = some true := by kernel_rfl
@[go_sem] theorem ud8 : ud Try.prog 8 = .st := by kernel_rfl
@[go_sem] theorem zc8 : zcells Try.prog 8 = some [.lit (.int .i64 0), .lit (.int .i64 0), .lit (.bool false), .lit (.int .u8 0)] := by kernel_rfl
@[go_sem] theorem sp8 : splaces Try.prog 8 = some [(0, 1), (1, 1), (2, 1), (3, 1)] := by kernel_rfl
@[go_sem] theorem ft8_0 : fdT Try.prog 8 0 = some (2, 0) := by kernel_rfl
@[go_sem] theorem fo8_0 : foff Try.prog 8 0 = some 0 := by kernel_rfl
@[go_sem] theorem ft8_1 : fdT Try.prog 8 1 = some (3, 1) := by kernel_rfl
@[go_sem] theorem fo8_1 : foff Try.prog 8 1 = some 1 := by kernel_rfl
@[go_sem] theorem ft8_2 : fdT Try.prog 8 2 = some (4, 2) := by kernel_rfl
@[go_sem] theorem fo8_2 : foff Try.prog 8 2 = some 2 := by kernel_rfl
@[go_sem] theorem ft8_3 : fdT Try.prog 8 3 = some (6, 3) := by kernel_rfl
@[go_sem] theorem fo8_3 : foff Try.prog 8 3 = some 3 := by kernel_rfl
@[go_sem] theorem sz9 : sizeT Try.prog 9 = some 1 := by kernel_rfl
@[go_sem] theorem by9 : (Try.prog.info? 9).map (·.bytes) = some 16 := by kernel_rfl
@[go_sem] theorem ag9 : aggT Try.prog 9 = some false := by kernel_rfl
@[go_sem] theorem ud9 : ud Try.prog 9 = .str := by kernel_rfl
@[go_sem] theorem zc9 : zcells Try.prog 9 = some [.lit (.string ByteArray.empty)] := by kernel_rfl
@[go_sem] theorem sz10 : sizeT Try.prog 10 = some 1 := by kernel_rfl
@[go_sem] theorem by10 : (Try.prog.info? 10).map (·.bytes) = some 16 := by kernel_rfl
@[go_sem] theorem ag10 : aggT Try.prog 10 = some false := by kernel_rfl
@[go_sem] theorem ud10 : ud Try.prog 10 = .str := by kernel_rfl
@[go_sem] theorem zc10 : zcells Try.prog 10 = some [.lit (.string ByteArray.empty)] := by kernel_rfl
@[go_sem] theorem sz11 : sizeT Try.prog 11 = some 1 := by kernel_rfl
@[go_sem] theorem by11 : (Try.prog.info? 11).map (·.bytes) = some 16 := by kernel_rfl
@[go_sem] theorem ag11 : aggT Try.prog 11 = some false := by kernel_rfl
@[go_sem] theorem ud11 : ud Try.prog 11 = .str := by kernel_rfl
@[go_sem] theorem zc11 : zcells Try.prog 11 = some [.lit (.string ByteArray.empty)] := by kernel_rfl
@[go_sem] theorem sz12 : sizeT Try.prog 12 = some 1 := by kernel_rfl
@[go_sem] theorem by12 : (Try.prog.info? 12).map (·.bytes) = some 8 := by kernel_rfl
@[go_sem] theorem ag12 : aggT Try.prog 12 = some false := by kernel_rfl
@[go_sem] theorem ud12 : ud Try.prog 12 = .int .u64 := by kernel_rfl
@[go_sem] theorem zc12 : zcells Try.prog 12 = some [.lit (.int .u64 0)] := by kernel_rfl
@[go_sem] theorem sz13 : sizeT Try.prog 13 = some 2 := by kernel_rfl
@[go_sem] theorem by13 : (Try.prog.info? 13).map (·.bytes) = some 24 := by kernel_rfl
@[go_sem] theorem ag13 : aggT Try.prog 13 = some true := by kernel_rfl
@[go_sem] theorem ud13 : ud Try.prog 13 = .st := by kernel_rfl
@[go_sem] theorem zc13 : zcells Try.prog 13 = some [.lit (.string ByteArray.empty), .lit (.int .u64 0)] := by kernel_rfl
@[go_sem] theorem sp13 : splaces Try.prog 13 = some [(0, 1), (1, 1)] := by kernel_rfl
@[go_sem] theorem ft13_0 : fdT Try.prog 13 0 = some (9, 0) := by kernel_rfl
@[go_sem] theorem fo13_0 : foff Try.prog 13 0 = some 0 := by kernel_rfl
@[go_sem] theorem ft13_1 : fdT Try.prog 13 1 = some (12, 1) := by kernel_rfl
@[go_sem] theorem fo13_1 : foff Try.prog 13 1 = some 1 := by kernel_rfl
@[go_sem] theorem sz14 : sizeT Try.prog 14 = some 2 := by kernel_rfl
@[go_sem] theorem by14 : (Try.prog.info? 14).map (·.bytes) = some 24 := by kernel_rfl
@[go_sem] theorem ag14 : aggT Try.prog 14 = some true := by kernel_rfl
@[go_sem] theorem ud14 : ud Try.prog 14 = .st := by kernel_rfl
@[go_sem] theorem zc14 : zcells Try.prog 14 = some [.lit (.string ByteArray.empty), .lit (.int .u64 0)] := by kernel_rfl
@[go_sem] theorem sp14 : splaces Try.prog 14 = some [(0, 1), (1, 1)] := by kernel_rfl
@[go_sem] theorem ft14_0 : fdT Try.prog 14 0 = some (9, 0) := by kernel_rfl
@[go_sem] theorem fo14_0 : foff Try.prog 14 0 = some 0 := by kernel_rfl
@[go_sem] theorem ft14_1 : fdT Try.prog 14 1 = some (12, 1) := by kernel_rfl
@[go_sem] theorem fo14_1 : foff Try.prog 14 1 = some 1 := by kernel_rfl
@[go_sem] theorem sz15 : sizeT Try.prog 15 = some 1 := by kernel_rfl
@[go_sem] theorem by15 : (Try.prog.info? 15).map (·.bytes) = some 8 := by kernel_rfl
@[go_sem] theorem ag15 : aggT Try.prog 15 = some false := by kernel_rfl
@[go_sem] theorem ud15 : ud Try.prog 15 = .oth := by kernel_rfl
@[go_sem] theorem zc15 : zcells Try.prog 15 = some [.lit (.pointer none)] := by kernel_rfl
@[go_sem] theorem sz16 : sizeT Try.prog 16 = some 1 := by kernel_rfl
@[go_sem] theorem by16 : (Try.prog.info? 16).map (·.bytes) = some 8 := by kernel_rfl
@[go_sem] theorem ag16 : aggT Try.prog 16 = some false := by kernel_rfl
@[go_sem] theorem ud16 : ud Try.prog 16 = .oth := by kernel_rfl
@[go_sem] theorem zc16 : zcells Try.prog 16 = some [.lit (.pointer none)] := by kernel_rfl
@[go_sem] theorem sz17 : sizeT Try.prog 17 = some 1 := by kernel_rfl
@[go_sem] theorem by17 : (Try.prog.info? 17).map (·.bytes) = some 8 := by kernel_rfl
@[go_sem] theorem ag17 : aggT Try.prog 17 = some false := by kernel_rfl
@[go_sem] theorem ud17 : ud Try.prog 17 = .oth := by kernel_rfl
@[go_sem] theorem zc17 : zcells Try.prog 17 = some [.lit (.pointer none)] := by kernel_rfl
@[go_sem] theorem sz18 : sizeT Try.prog 18 = some 1 := by kernel_rfl
@[go_sem] theorem by18 : (Try.prog.info? 18).map (·.bytes) = some 8 := by kernel_rfl
@[go_sem] theorem ag18 : aggT Try.prog 18 = some true := by kernel_rfl
@[go_sem] theorem ud18 : ud Try.prog 18 = .st := by kernel_rfl
@[go_sem] theorem zc18 : zcells Try.prog 18 = some [.lit (.pointer none)] := by kernel_rfl
@[go_sem] theorem sp18 : splaces Try.prog 18 = some [(0, 1)] := by kernel_rfl
@[go_sem] theorem ft18_0 : fdT Try.prog 18 0 = some (17, 0) := by kernel_rfl
@[go_sem] theorem fo18_0 : foff Try.prog 18 0 = some 0 := by kernel_rfl
@[go_sem] theorem sz19 : sizeT Try.prog 19 = some 1 := by kernel_rfl
@[go_sem] theorem by19 : (Try.prog.info? 19).map (·.bytes) = some 8 := by kernel_rfl
@[go_sem] theorem ag19 : aggT Try.prog 19 = some true := by kernel_rfl
@[go_sem] theorem ud19 : ud Try.prog 19 = .st := by kernel_rfl
@[go_sem] theorem zc19 : zcells Try.prog 19 = some [.lit (.pointer none)] := by kernel_rfl
@[go_sem] theorem sp19 : splaces Try.prog 19 = some [(0, 1)] := by kernel_rfl
@[go_sem] theorem ft19_0 : fdT Try.prog 19 0 = some (17, 0) := by kernel_rfl
@[go_sem] theorem fo19_0 : foff Try.prog 19 0 = some 0 := by kernel_rfl
@[go_sem] theorem sz20 : sizeT Try.prog 20 = some 1 := by kernel_rfl
@[go_sem] theorem by20 : (Try.prog.info? 20).map (·.bytes) = some 16 := by kernel_rfl
@[go_sem] theorem ag20 : aggT Try.prog 20 = some false := by kernel_rfl
@[go_sem] theorem ud20 : ud Try.prog 20 = .oth := by kernel_rfl
@[go_sem] theorem zc20 : zcells Try.prog 20 = some [.lit .nilIface] := by kernel_rfl
@[go_sem] theorem sz21 : sizeT Try.prog 21 = some 1 := by kernel_rfl
@[go_sem] theorem by21 : (Try.prog.info? 21).map (·.bytes) = some 4 := by kernel_rfl
@[go_sem] theorem ag21 : aggT Try.prog 21 = some false := by kernel_rfl
@[go_sem] theorem ud21 : ud Try.prog 21 = .int .i32 := by kernel_rfl
@[go_sem] theorem zc21 : zcells Try.prog 21 = some [.lit (.int .i32 0)] := by kernel_rfl
@[go_sem] theorem sz22 : sizeT Try.prog 22 = some 1 := by kernel_rfl
@[go_sem] theorem by22 : (Try.prog.info? 22).map (·.bytes) = some 24 := by kernel_rfl
@[go_sem] theorem ag22 : aggT Try.prog 22 = some false := by kernel_rfl
@[go_sem] theorem ud22 : ud Try.prog 22 = .sl 5 := by kernel_rfl
@[go_sem] theorem zc22 : zcells Try.prog 22 = some [.list .exact []] := by kernel_rfl
@[go_sem] theorem sz23 : sizeT Try.prog 23 = some 1 := by kernel_rfl
@[go_sem] theorem by23 : (Try.prog.info? 23).map (·.bytes) = some 8 := by kernel_rfl
@[go_sem] theorem ag23 : aggT Try.prog 23 = some false := by kernel_rfl
@[go_sem] theorem ud23 : ud Try.prog 23 = .oth := by kernel_rfl
@[go_sem] theorem zc23 : zcells Try.prog 23 = some [.lit .nilFunc] := by kernel_rfl
@[go_sem] theorem sz24 : sizeT Try.prog 24 = some 1 := by kernel_rfl
@[go_sem] theorem by24 : (Try.prog.info? 24).map (·.bytes) = some 24 := by kernel_rfl
@[go_sem] theorem ag24 : aggT Try.prog 24 = some false := by kernel_rfl
@[go_sem] theorem ud24 : ud Try.prog 24 = .sl 46 := by kernel_rfl
@[go_sem] theorem zc24 : zcells Try.prog 24 = some [.list .exact []] := by kernel_rfl
@[go_sem] theorem sz25 : sizeT Try.prog 25 = some 1 := by kernel_rfl
@[go_sem] theorem by25 : (Try.prog.info? 25).map (·.bytes) = some 24 := by kernel_rfl
@[go_sem] theorem ag25 : aggT Try.prog 25 = some false := by kernel_rfl
@[go_sem] theorem ud25 : ud Try.prog 25 = .sl 64 := by kernel_rfl
@[go_sem] theorem zc25 : zcells Try.prog 25 = some [.list .exact []] := by kernel_rfl
@[go_sem] theorem sz26 : sizeT Try.prog 26 = some 1 := by kernel_rfl
@[go_sem] theorem by26 : (Try.prog.info? 26).map (·.bytes) = some 4 := by kernel_rfl
@[go_sem] theorem ag26 : aggT Try.prog 26 = some false := by kernel_rfl
@[go_sem] theorem ud26 : ud Try.prog 26 = .int .u32 := by kernel_rfl
@[go_sem] theorem zc26 : zcells Try.prog 26 = some [.lit (.int .u32 0)] := by kernel_rfl
@[go_sem] theorem sz27 : sizeT Try.prog 27 = some 1 := by kernel_rfl
@[go_sem] theorem by27 : (Try.prog.info? 27).map (·.bytes) = some 24 := by kernel_rfl
@[go_sem] theorem ag27 : aggT Try.prog 27 = some false := by kernel_rfl
@[go_sem] theorem ud27 : ud Try.prog 27 = .sl 29 := by kernel_rfl
@[go_sem] theorem zc27 : zcells Try.prog 27 = some [.list .exact []] := by kernel_rfl
@[go_sem] theorem sz28 : sizeT Try.prog 28 = some 3 := by kernel_rfl
@[go_sem] theorem by28 : (Try.prog.info? 28).map (·.bytes) = some 40 := by kernel_rfl
@[go_sem] theorem ag28 : aggT Try.prog 28 = some true := by kernel_rfl
@[go_sem] theorem ud28 : ud Try.prog 28 = .st := by kernel_rfl
@[go_sem] theorem zc28 : zcells Try.prog 28 = some [.lit (.int .i64 0), .lit (.int .u32 0), .list .exact []] := by kernel_rfl
@[go_sem] theorem sp28 : splaces Try.prog 28 = some [(0, 1), (1, 1), (2, 1)] := by kernel_rfl
@[go_sem] theorem ft28_0 : fdT Try.prog 28 0 = some (3, 0) := by kernel_rfl
@[go_sem] theorem fo28_0 : foff Try.prog 28 0 = some 0 := by kernel_rfl
@[go_sem] theorem ft28_1 : fdT Try.prog 28 1 = some (26, 1) := by kernel_rfl
@[go_sem] theorem fo28_1 : foff Try.prog 28 1 = some 1 := by kernel_rfl
@[go_sem] theorem ft28_2 : fdT Try.prog 28 2 = some (27, 2) := by kernel_rfl
@[go_sem] theorem fo28_2 : foff Try.prog 28 2 = some 2 := by kernel_rfl
@[go_sem] theorem sz29 : sizeT Try.prog 29 = some 3 := by kernel_rfl
@[go_sem] theorem by29 : (Try.prog.info? 29).map (·.bytes) = some 40 := by kernel_rfl
@[go_sem] theorem ag29 : aggT Try.prog 29 = some true := by kernel_rfl
@[go_sem] theorem ud29 : ud Try.prog 29 = .st := by kernel_rfl
@[go_sem] theorem zc29 : zcells Try.prog 29 = some [.lit (.int .i64 0), .lit (.int .u32 0), .list .exact []] := by kernel_rfl
@[go_sem] theorem sp29 : splaces Try.prog 29 = some [(0, 1), (1, 1), (2, 1)] := by kernel_rfl
@[go_sem] theorem ft29_0 : fdT Try.prog 29 0 = some (3, 0) := by kernel_rfl
@[go_sem] theorem fo29_0 : foff Try.prog 29 0 = some 0 := by kernel_rfl
@[go_sem] theorem ft29_1 : fdT Try.prog 29 1 = some (26, 1) := by kernel_rfl
@[go_sem] theorem fo29_1 : foff Try.prog 29 1 = some 1 := by kernel_rfl
@[go_sem] theorem ft29_2 : fdT Try.prog 29 2 = some (27, 2) := by kernel_rfl
@[go_sem] theorem fo29_2 : foff Try.prog 29 2 = some 2 := by kernel_rfl
@[go_sem] theorem sz30 : sizeT Try.prog 30 = some 1 := by kernel_rfl
@[go_sem] theorem by30 : (Try.prog.info? 30).map (·.bytes) = some 24 := by kernel_rfl
@[go_sem] theorem ag30 : aggT Try.prog 30 = some false := by kernel_rfl
@[go_sem] theorem ud30 : ud Try.prog 30 = .sl 32 := by kernel_rfl
@[go_sem] theorem zc30 : zcells Try.prog 30 = some [.list .exact []] := by kernel_rfl
@[go_sem] theorem sz31 : sizeT Try.prog 31 = some 12 := by kernel_rfl
@[go_sem] theorem by31 : (Try.prog.info? 31).map (·.bytes) = some 144 := by kernel_rfl
@[go_sem] theorem ag31 : aggT Try.prog 31 = some true := by kernel_rfl
@[go_sem] theorem ud31 : ud Try.prog 31 = .st := by kernel_rfl
@[go_sem] theorem zc31 : zcells Try.prog 31 = some [.lit (.int .i64 0), .lit (.int .i64 0), .lit (.int .i64 0), .lit (.int .i64 0), .lit (.int .i64 0), .lit (.int .i64 0), .lit (.int .u32 0), .list .exact [], .lit (.int .i64 0), .lit (.int .u32 0), .list .exact [], .list .exact []] := by kernel_rfl
@[go_sem] theorem sp31 : splaces Try.prog 31 = some [(0, 1), (1, 1), (2, 1), (3, 1), (4, 1), (5, 3), (8, 3), (11, 1)] := by kernel_rfl
@[go_sem] theorem ft31_0 : fdT Try.prog 31 0 = some (3, 0) := by kernel_rfl
@[go_sem] theorem fo31_0 : foff Try.prog 31 0 = some 0 := by kernel_rfl
@[go_sem] theorem ft31_1 : fdT Try.prog 31 1 = some (3, 1) := by kernel_rfl
@[go_sem] theorem fo31_1 : foff Try.prog 31 1 = some 1 := by kernel_rfl
@[go_sem] theorem ft31_2 : fdT Try.prog 31 2 = some (3, 2) := by kernel_rfl
@[go_sem] theorem fo31_2 : foff Try.prog 31 2 = some 2 := by kernel_rfl
@[go_sem] theorem ft31_3 : fdT Try.prog 31 3 = some (3, 3) := by kernel_rfl
@[go_sem] theorem fo31_3 : foff Try.prog 31 3 = some 3 := by kernel_rfl
@[go_sem] theorem ft31_4 : fdT Try.prog 31 4 = some (3, 4) := by kernel_rfl
@[go_sem] theorem fo31_4 : foff Try.prog 31 4 = some 4 := by kernel_rfl
@[go_sem] theorem ft31_5 : fdT Try.prog 31 5 = some (29, 5) := by kernel_rfl
@[go_sem] theorem fo31_5 : foff Try.prog 31 5 = some 5 := by kernel_rfl
@[go_sem] theorem ft31_6 : fdT Try.prog 31 6 = some (29, 8) := by kernel_rfl
@[go_sem] theorem fo31_6 : foff Try.prog 31 6 = some 8 := by kernel_rfl
@[go_sem] theorem ft31_7 : fdT Try.prog 31 7 = some (30, 11) := by kernel_rfl
@[go_sem] theorem fo31_7 : foff Try.prog 31 7 = some 11 := by kernel_rfl
@[go_sem] theorem sz32 : sizeT Try.prog 32 = some 12 := by kernel_rfl
@[go_sem] theorem by32 : (Try.prog.info? 32).map (·.bytes) = some 144 := by kernel_rfl
@[go_sem] theorem ag32 : aggT Try.prog 32 = some true := by kernel_rfl
@[go_sem] theorem ud32 : ud Try.prog 32 = .st := by kernel_rfl
@[go_sem] theorem zc32 : zcells Try.prog 32 = some [.lit (.int .i64 0), .lit (.int .i64 0), .lit (.int .i64 0), .lit (.int .i64 0), .lit (.int .i64 0), .lit (.int .i64 0), .lit (.int .u32 0), .list .exact [], .lit (.int .i64 0), .lit (.int .u32 0), .list .exact [], .list .exact []] := by kernel_rfl
@[go_sem] theorem sp32 : splaces Try.prog 32 = some [(0, 1), (1, 1), (2, 1), (3, 1), (4, 1), (5, 3), (8, 3), (11, 1)] := by kernel_rfl
@[go_sem] theorem ft32_0 : fdT Try.prog 32 0 = some (3, 0) := by kernel_rfl
@[go_sem] theorem fo32_0 : foff Try.prog 32 0 = some 0 := by kernel_rfl
@[go_sem] theorem ft32_1 : fdT Try.prog 32 1 = some (3, 1) := by kernel_rfl
@[go_sem] theorem fo32_1 : foff Try.prog 32 1 = some 1 := by kernel_rfl
@[go_sem] theorem ft32_2 : fdT Try.prog 32 2 = some (3, 2) := by kernel_rfl
@[go_sem] theorem fo32_2 : foff Try.prog 32 2 = some 2 := by kernel_rfl
@[go_sem] theorem ft32_3 : fdT Try.prog 32 3 = some (3, 3) := by kernel_rfl
@[go_sem] theorem fo32_3 : foff Try.prog 32 3 = some 3 := by kernel_rfl
@[go_sem] theorem ft32_4 : fdT Try.prog 32 4 = some (3, 4) := by kernel_rfl
@[go_sem] theorem fo32_4 : foff Try.prog 32 4 = some 4 := by kernel_rfl
@[go_sem] theorem ft32_5 : fdT Try.prog 32 5 = some (29, 5) := by kernel_rfl
@[go_sem] theorem fo32_5 : foff Try.prog 32 5 = some 5 := by kernel_rfl
@[go_sem] theorem ft32_6 : fdT Try.prog 32 6 = some (29, 8) := by kernel_rfl
@[go_sem] theorem fo32_6 : foff Try.prog 32 6 = some 8 := by kernel_rfl
@[go_sem] theorem ft32_7 : fdT Try.prog 32 7 = some (30, 11) := by kernel_rfl
@[go_sem] theorem fo32_7 : foff Try.prog 32 7 = some 11 := by kernel_rfl
@[go_sem] theorem sz33 : sizeT Try.prog 33 = some 18 := by kernel_rfl
@[go_sem] theorem by33 : (Try.prog.info? 33).map (·.bytes) = some 232 := by kernel_rfl
@[go_sem] theorem ag33 : aggT Try.prog 33 = some true := by kernel_rfl
@[go_sem] theorem ud33 : ud Try.prog 33 = .st := by kernel_rfl
@[go_sem] theorem zc33 : zcells Try.prog 33 = some [.lit (.string ByteArray.empty), .lit (.int .i64 0), .list .exact [], .lit (.int .i64 0), .lit (.int .i64 0), .list .exact [], .lit (.int .i64 0), .lit (.int .i64 0), .lit (.int .i64 0), .lit (.int .i64 0), .lit (.int .i64 0), .lit (.int .i64 0), .lit (.int .u32 0), .list .exact [], .lit (.int .i64 0), .lit (.int .u32 0), .list .exact [], .list .exact []] := by kernel_rfl
@[go_sem] theorem sp33 : splaces Try.prog 33 = some [(0, 1), (1, 1), (2, 1), (3, 1), (4, 1), (5, 1), (6, 12)] := by kernel_rfl
@[go_sem] theorem ft33_0 : fdT Try.prog 33 0 = some (9, 0) := by kernel_rfl
@[go_sem] theorem fo33_0 : foff Try.prog 33 0 = some 0 := by kernel_rfl
@[go_sem] theorem ft33_1 : fdT Try.prog 33 1 = some (3, 1) := by kernel_rfl
@[go_sem] theorem fo33_1 : foff Try.prog 33 1 = some 1 := by kernel_rfl
@[go_sem] theorem ft33_2 : fdT Try.prog 33 2 = some (24, 2) := by kernel_rfl
@[go_sem] theorem fo33_2 : foff Try.prog 33 2 = some 2 := by kernel_rfl
@[go_sem] theorem ft33_3 : fdT Try.prog 33 3 = some (3, 3) := by kernel_rfl
@[go_sem] theorem fo33_3 : foff Try.prog 33 3 = some 3 := by kernel_rfl
@[go_sem] theorem ft33_4 : fdT Try.prog 33 4 = some (3, 4) := by kernel_rfl
@[go_sem] theorem fo33_4 : foff Try.prog 33 4 = some 4 := by kernel_rfl
@[go_sem] theorem ft33_5 : fdT Try.prog 33 5 = some (25, 5) := by kernel_rfl
@[go_sem] theorem fo33_5 : foff Try.prog 33 5 = some 5 := by kernel_rfl
@[go_sem] theorem ft33_6 : fdT Try.prog 33 6 = some (32, 6) := by kernel_rfl
@[go_sem] theorem fo33_6 : foff Try.prog 33 6 = some 6 := by kernel_rfl
@[go_sem] theorem sz34 : sizeT Try.prog 34 = some 18 := by kernel_rfl
@[go_sem] theorem by34 : (Try.prog.info? 34).map (·.bytes) = some 232 := by kernel_rfl
@[go_sem] theorem ag34 : aggT Try.prog 34 = some true := by kernel_rfl
@[go_sem] theorem ud34 : ud Try.prog 34 = .st := by kernel_rfl
@[go_sem] theorem zc34 : zcells Try.prog 34 = some [.lit (.string ByteArray.empty), .lit (.int .i64 0), .list .exact [], .lit (.int .i64 0), .lit (.int .i64 0), .list .exact [], .lit (.int .i64 0), .lit (.int .i64 0), .lit (.int .i64 0), .lit (.int .i64 0), .lit (.int .i64 0), .lit (.int .i64 0), .lit (.int .u32 0), .list .exact [], .lit (.int .i64 0), .lit (.int .u32 0), .list .exact [], .list .exact []] := by kernel_rfl
@[go_sem] theorem sp34 : splaces Try.prog 34 = some [(0, 1), (1, 1), (2, 1), (3, 1), (4, 1), (5, 1), (6, 12)] := by kernel_rfl
@[go_sem] theorem ft34_0 : fdT Try.prog 34 0 = some (9, 0) := by kernel_rfl
@[go_sem] theorem fo34_0 : foff Try.prog 34 0 = some 0 := by kernel_rfl
@[go_sem] theorem ft34_1 : fdT Try.prog 34 1 = some (3, 1) := by kernel_rfl
@[go_sem] theorem fo34_1 : foff Try.prog 34 1 = some 1 := by kernel_rfl
@[go_sem] theorem ft34_2 : fdT Try.prog 34 2 = some (24, 2) := by kernel_rfl
@[go_sem] theorem fo34_2 : foff Try.prog 34 2 = some 2 := by kernel_rfl
@[go_sem] theorem ft34_3 : fdT Try.prog 34 3 = some (3, 3) := by kernel_rfl
@[go_sem] theorem fo34_3 : foff Try.prog 34 3 = some 3 := by kernel_rfl
@[go_sem] theorem ft34_4 : fdT Try.prog 34 4 = some (3, 4) := by kernel_rfl
@[go_sem] theorem fo34_4 : foff Try.prog 34 4 = some 4 := by kernel_rfl
@[go_sem] theorem ft34_5 : fdT Try.prog 34 5 = some (25, 5) := by kernel_rfl
@[go_sem] theorem fo34_5 : foff Try.prog 34 5 = some 5 := by kernel_rfl
@[go_sem] theorem ft34_6 : fdT Try.prog 34 6 = some (32, 6) := by kernel_rfl
@[go_sem] theorem fo34_6 : foff Try.prog 34 6 = some 6 := by kernel_rfl
@[go_sem] theorem sz35 : sizeT Try.prog 35 = some 1 := by kernel_rfl
@[go_sem] theorem by35 : (Try.prog.info? 35).map (·.bytes) = some 8 := by kernel_rfl
@[go_sem] theorem ag35 : aggT Try.prog 35 = some false := by kernel_rfl
@[go_sem] theorem ud35 : ud Try.prog 35 = .int .i64 := by kernel_rfl
@[go_sem] theorem zc35 : zcells Try.prog 35 = some [.lit (.int .i64 0)] := by kernel_rfl
@[go_sem] theorem sz37 : sizeT Try.prog 37 = some 1 := by kernel_rfl
@[go_sem] theorem by37 : (Try.prog.info? 37).map (·.bytes) = some 8 := by kernel_rfl
@[go_sem] theorem ag37 : aggT Try.prog 37 = some false := by kernel_rfl
@[go_sem] theorem ud37 : ud Try.prog 37 = .oth := by kernel_rfl
@[go_sem] theorem zc37 : zcells Try.prog 37 = some [.lit .nilFunc] := by kernel_rfl
@[go_sem] theorem sz38 : sizeT Try.prog 38 = some 1 := by kernel_rfl
@[go_sem] theorem by38 : (Try.prog.info? 38).map (·.bytes) = some 8 := by kernel_rfl
@[go_sem] theorem ag38 : aggT Try.prog 38 = some false := by kernel_rfl
@[go_sem] theorem ud38 : ud Try.prog 38 = .oth := by kernel_rfl
@[go_sem] theorem zc38 : zcells Try.prog 38 = some [.lit .nilFunc] := by kernel_rfl
@[go_sem] theorem sz40 : sizeT Try.prog 40 = some 1 := by kernel_rfl
@[go_sem] theorem by40 : (Try.prog.info? 40).map (·.bytes) = some 8 := by kernel_rfl
@[go_sem] theorem ag40 : aggT Try.prog 40 = some false := by kernel_rfl
@[go_sem] theorem ud40 : ud Try.prog 40 = .oth := by kernel_rfl
@[go_sem] theorem zc40 : zcells Try.prog 40 = some [.lit .nilFunc] := by kernel_rfl
@[go_sem] theorem sz41 : sizeT Try.prog 41 = some 1 := by kernel_rfl
@[go_sem] theorem by41 : (Try.prog.info? 41).map (·.bytes) = some 8 := by kernel_rfl
@[go_sem] theorem ag41 : aggT Try.prog 41 = some false := by kernel_rfl
@[go_sem] theorem ud41 : ud Try.prog 41 = .oth := by kernel_rfl
@[go_sem] theorem zc41 : zcells Try.prog 41 = some [.lit .nilFunc] := by kernel_rfl
@[go_sem] theorem sz42 : sizeT Try.prog 42 = some 1 := by kernel_rfl
@[go_sem] theorem by42 : (Try.prog.info? 42).map (·.bytes) = some 24 := by kernel_rfl
@[go_sem] theorem ag42 : aggT Try.prog 42 = some false := by kernel_rfl
@[go_sem] theorem ud42 : ud Try.prog 42 = .sl 3 := by kernel_rfl
@[go_sem] theorem zc42 : zcells Try.prog 42 = some [.list .exact []] := by kernel_rfl
@[go_sem] theorem sz43 : sizeT Try.prog 43 = some 1 := by kernel_rfl
@[go_sem] theorem by43 : (Try.prog.info? 43).map (·.bytes) = some 24 := by kernel_rfl
@[go_sem] theorem ag43 : aggT Try.prog 43 = some false := by kernel_rfl
@[go_sem] theorem ud43 : ud Try.prog 43 = .sl 47 := by kernel_rfl
@[go_sem] theorem zc43 : zcells Try.prog 43 = some [.list .exact []] := by kernel_rfl
@[go_sem] theorem sz44 : sizeT Try.prog 44 = some 1 := by kernel_rfl
@[go_sem] theorem by44 : (Try.prog.info? 44).map (·.bytes) = some 24 := by kernel_rfl
@[go_sem] theorem ag44 : aggT Try.prog 44 = some false := by kernel_rfl
@[go_sem] theorem ud44 : ud Try.prog 44 = .sl 26 := by kernel_rfl
@[go_sem] theorem zc44 : zcells Try.prog 44 = some [.list .exact []] := by kernel_rfl
@[go_sem] theorem sz45 : sizeT Try.prog 45 = some 2 := by kernel_rfl
@[go_sem] theorem by45 : (Try.prog.info? 45).map (·.bytes) = some 16 := by kernel_rfl
@[go_sem] theorem ag45 : aggT Try.prog 45 = some true := by kernel_rfl
@[go_sem] theorem ud45 : ud Try.prog 45 = .st := by kernel_rfl
@[go_sem] theorem zc45 : zcells Try.prog 45 = some [.lit (.int .i64 0), .lit (.int .i64 0)] := by kernel_rfl
@[go_sem] theorem sp45 : splaces Try.prog 45 = some [(0, 1), (1, 1)] := by kernel_rfl
@[go_sem] theorem ft45_0 : fdT Try.prog 45 0 = some (3, 0) := by kernel_rfl
@[go_sem] theorem fo45_0 : foff Try.prog 45 0 = some 0 := by kernel_rfl
@[go_sem] theorem ft45_1 : fdT Try.prog 45 1 = some (3, 1) := by kernel_rfl
@[go_sem] theorem fo45_1 : foff Try.prog 45 1 = some 1 := by kernel_rfl
@[go_sem] theorem sz46 : sizeT Try.prog 46 = some 2 := by kernel_rfl
@[go_sem] theorem by46 : (Try.prog.info? 46).map (·.bytes) = some 16 := by kernel_rfl
@[go_sem] theorem ag46 : aggT Try.prog 46 = some true := by kernel_rfl
@[go_sem] theorem ud46 : ud Try.prog 46 = .st := by kernel_rfl
@[go_sem] theorem zc46 : zcells Try.prog 46 = some [.lit (.int .i64 0), .lit (.int .i64 0)] := by kernel_rfl
@[go_sem] theorem sp46 : splaces Try.prog 46 = some [(0, 1), (1, 1)] := by kernel_rfl
@[go_sem] theorem ft46_0 : fdT Try.prog 46 0 = some (3, 0) := by kernel_rfl
@[go_sem] theorem fo46_0 : foff Try.prog 46 0 = some 0 := by kernel_rfl
@[go_sem] theorem ft46_1 : fdT Try.prog 46 1 = some (3, 1) := by kernel_rfl
@[go_sem] theorem fo46_1 : foff Try.prog 46 1 = some 1 := by kernel_rfl
@[go_sem] theorem sz47 : sizeT Try.prog 47 = some 1 := by kernel_rfl
@[go_sem] theorem by47 : (Try.prog.info? 47).map (·.bytes) = some 8 := by kernel_rfl
@[go_sem] theorem ag47 : aggT Try.prog 47 = some false := by kernel_rfl
@[go_sem] theorem ud47 : ud Try.prog 47 = .int .u64 := by kernel_rfl
@[go_sem] theorem zc47 : zcells Try.prog 47 = some [.lit (.int .u64 0)] := by kernel_rfl
@[go_sem] theorem sz48 : sizeT Try.prog 48 = some 1 := by kernel_rfl
@[go_sem] theorem by48 : (Try.prog.info? 48).map (·.bytes) = some 8 := by kernel_rfl
@[go_sem] theorem ag48 : aggT Try.prog 48 = some false := by kernel_rfl
@[go_sem] theorem ud48 : ud Try.prog 48 = .oth := by kernel_rfl
@[go_sem] theorem zc48 : zcells Try.prog 48 = some [.lit .nilFunc] := by kernel_rfl
@[go_sem] theorem sz49 : sizeT Try.prog 49 = some 1 := by kernel_rfl
@[go_sem] theorem by49 : (Try.prog.info? 49).map (·.bytes) = some 8 := by kernel_rfl
@[go_sem] theorem ag49 : aggT Try.prog 49 = some false := by kernel_rfl
@[go_sem] theorem ud49 : ud Try.prog 49 = .oth := by kernel_rfl
@[go_sem] theorem zc49 : zcells Try.prog 49 = some [.lit .nilFunc] := by kernel_rfl
@[go_sem] theorem sz50 : sizeT Try.prog 50 = some 1 := by kernel_rfl
@[go_sem] theorem by50 : (Try.prog.info? 50).map (·.bytes) = some 8 := by kernel_rfl
@[go_sem] theorem ag50 : aggT Try.prog 50 = some false := by kernel_rfl
@[go_sem] theorem ud50 : ud Try.prog 50 = .oth := by kernel_rfl
@[go_sem] theorem zc50 : zcells Try.prog 50 = some [.lit (.pointer none)] := by kernel_rfl
@[go_sem] theorem sz51 : sizeT Try.prog 51 = some 2 := by kernel_rfl
@[go_sem] theorem by51 : (Try.prog.info? 51).map (·.bytes) = some 32 := by kernel_rfl
@[go_sem] theorem ag51 : aggT Try.prog 51 = some true := by kernel_rfl
@[go_sem] theorem ud51 : ud Try.prog 51 = .st := by kernel_rfl
@[go_sem] theorem zc51 : zcells Try.prog 51 = some [.list .exact [], .lit (.bool false)] := by kernel_rfl
@[go_sem] theorem sp51 : splaces Try.prog 51 = some [(0, 1), (1, 1)] := by kernel_rfl
@[go_sem] theorem ft51_0 : fdT Try.prog 51 0 = some (22, 0) := by kernel_rfl
@[go_sem] theorem fo51_0 : foff Try.prog 51 0 = some 0 := by kernel_rfl
@[go_sem] theorem ft51_1 : fdT Try.prog 51 1 = some (4, 1) := by kernel_rfl
@[go_sem] theorem fo51_1 : foff Try.prog 51 1 = some 1 := by kernel_rfl
@[go_sem] theorem sz52 : sizeT Try.prog 52 = some 2 := by kernel_rfl
@[go_sem] theorem by52 : (Try.prog.info? 52).map (·.bytes) = some 32 := by kernel_rfl
@[go_sem] theorem ag52 : aggT Try.prog 52 = some true := by kernel_rfl
@[go_sem] theorem ud52 : ud Try.prog 52 = .st := by kernel_rfl
@[go_sem] theorem zc52 : zcells Try.prog 52 = some [.list .exact [], .lit (.bool false)] := by kernel_rfl
@[go_sem] theorem sp52 : splaces Try.prog 52 = some [(0, 1), (1, 1)] := by kernel_rfl
@[go_sem] theorem ft52_0 : fdT Try.prog 52 0 = some (22, 0) := by kernel_rfl
@[go_sem] theorem fo52_0 : foff Try.prog 52 0 = some 0 := by kernel_rfl
@[go_sem] theorem ft52_1 : fdT Try.prog 52 1 = some (4, 1) := by kernel_rfl
@[go_sem] theorem fo52_1 : foff Try.prog 52 1 = some 1 := by kernel_rfl
@[go_sem] theorem sz53 : sizeT Try.prog 53 = some 1 := by kernel_rfl
@[go_sem] theorem by53 : (Try.prog.info? 53).map (·.bytes) = some 8 := by kernel_rfl
@[go_sem] theorem ag53 : aggT Try.prog 53 = some false := by kernel_rfl
@[go_sem] theorem ud53 : ud Try.prog 53 = .oth := by kernel_rfl
@[go_sem] theorem zc53 : zcells Try.prog 53 = some [.lit .nilFunc] := by kernel_rfl
@[go_sem] theorem sz54 : sizeT Try.prog 54 = some 1 := by kernel_rfl
@[go_sem] theorem by54 : (Try.prog.info? 54).map (·.bytes) = some 8 := by kernel_rfl
@[go_sem] theorem ag54 : aggT Try.prog 54 = some false := by kernel_rfl
@[go_sem] theorem ud54 : ud Try.prog 54 = .oth := by kernel_rfl
@[go_sem] theorem zc54 : zcells Try.prog 54 = some [.lit .nilFunc] := by kernel_rfl
@[go_sem] theorem sz55 : sizeT Try.prog 55 = some 1 := by kernel_rfl
@[go_sem] theorem by55 : (Try.prog.info? 55).map (·.bytes) = some 8 := by kernel_rfl
@[go_sem] theorem ag55 : aggT Try.prog 55 = some false := by kernel_rfl
@[go_sem] theorem ud55 : ud Try.prog 55 = .oth := by kernel_rfl
@[go_sem] theorem zc55 : zcells Try.prog 55 = some [.lit .nilFunc] := by kernel_rfl
@[go_sem] theorem sz57 : sizeT Try.prog 57 = some 1 := by kernel_rfl
@[go_sem] theorem by57 : (Try.prog.info? 57).map (·.bytes) = some 8 := by kernel_rfl
@[go_sem] theorem ag57 : aggT Try.prog 57 = some false := by kernel_rfl
@[go_sem] theorem ud57 : ud Try.prog 57 = .oth := by kernel_rfl
@[go_sem] theorem zc57 : zcells Try.prog 57 = some [.lit .nilFunc] := by kernel_rfl
@[go_sem] theorem sz58 : sizeT Try.prog 58 = some 1 := by kernel_rfl
@[go_sem] theorem by58 : (Try.prog.info? 58).map (·.bytes) = some 8 := by kernel_rfl
@[go_sem] theorem ag58 : aggT Try.prog 58 = some false := by kernel_rfl
@[go_sem] theorem ud58 : ud Try.prog 58 = .oth := by kernel_rfl
@[go_sem] theorem zc58 : zcells Try.prog 58 = some [.lit .nilFunc] := by kernel_rfl
@[go_sem] theorem sz59 : sizeT Try.prog 59 = some 3 := by kernel_rfl
@[go_sem] theorem by59 : (Try.prog.info? 59).map (·.bytes) = some 24 := by kernel_rfl
@[go_sem] theorem ag59 : aggT Try.prog 59 = some true := by kernel_rfl
@[go_sem] theorem ud59 : ud Try.prog 59 = .ar 3 3 := by kernel_rfl
@[go_sem] theorem zc59 : zcells Try.prog 59 = some [.lit (.int .i64 0), .lit (.int .i64 0), .lit (.int .i64 0)] := by kernel_rfl
@[go_sem] theorem sz60 : sizeT Try.prog 60 = some 1 := by kernel_rfl
@[go_sem] theorem by60 : (Try.prog.info? 60).map (·.bytes) = some 8 := by kernel_rfl
@[go_sem] theorem ag60 : aggT Try.prog 60 = some false := by kernel_rfl
@[go_sem] theorem ud60 : ud Try.prog 60 = .oth := by kernel_rfl
@[go_sem] theorem zc60 : zcells Try.prog 60 = some [.lit .nilFunc] := by kernel_rfl
@[go_sem] theorem sz61 : sizeT Try.prog 61 = some 1 := by kernel_rfl
@[go_sem] theorem by61 : (Try.prog.info? 61).map (·.bytes) = some 8 := by kernel_rfl
@[go_sem] theorem ag61 : aggT Try.prog 61 = some false := by kernel_rfl
@[go_sem] theorem ud61 : ud Try.prog 61 = .oth := by kernel_rfl
@[go_sem] theorem zc61 : zcells Try.prog 61 = some [.lit .nilFunc] := by kernel_rfl
@[go_sem] theorem sz62 : sizeT Try.prog 62 = some 1 := by kernel_rfl
@[go_sem] theorem by62 : (Try.prog.info? 62).map (·.bytes) = some 24 := by kernel_rfl
@[go_sem] theorem ag62 : aggT Try.prog 62 = some false := by kernel_rfl
@[go_sem] theorem ud62 : ud Try.prog 62 = .sl 81 := by kernel_rfl
@[go_sem] theorem zc62 : zcells Try.prog 62 = some [.list .exact []] := by kernel_rfl
@[go_sem] theorem sz63 : sizeT Try.prog 63 = some 17 := by kernel_rfl
@[go_sem] theorem by63 : (Try.prog.info? 63).map (·.bytes) = some 232 := by kernel_rfl
@[go_sem] theorem ag63 : aggT Try.prog 63 = some true := by kernel_rfl
@[go_sem] theorem ud63 : ud Try.prog 63 = .st := by kernel_rfl
@[go_sem] theorem zc63 : zcells Try.prog 63 = some [.lit (.int .i64 0), .lit (.int .i64 0), .lit (.int .i64 0), .lit (.int .i64 0), .lit (.int .i64 0), .lit (.int .i64 0), .lit (.int .i64 0), .lit (.int .i64 0), .lit (.int .u32 0), .list .exact [], .lit (.int .i64 0), .lit (.int .u32 0), .list .exact [], .list .exact [], .list .exact [], .list .exact [], .list .exact []] := by kernel_rfl
@[go_sem] theorem sp63 : splaces Try.prog 63 = some [(0, 1), (1, 1), (2, 1), (3, 1), (4, 1), (5, 1), (6, 1), (7, 3), (10, 3), (13, 1), (14, 1), (15, 1), (16, 1)] := by kernel_rfl
@[go_sem] theorem ft63_0 : fdT Try.prog 63 0 = some (3, 0) := by kernel_rfl
@[go_sem] theorem fo63_0 : foff Try.prog 63 0 = some 0 := by kernel_rfl
@[go_sem] theorem ft63_1 : fdT Try.prog 63 1 = some (3, 1) := by kernel_rfl
@[go_sem] theorem fo63_1 : foff Try.prog 63 1 = some 1 := by kernel_rfl
@[go_sem] theorem ft63_2 : fdT Try.prog 63 2 = some (3, 2) := by kernel_rfl
@[go_sem] theorem fo63_2 : foff Try.prog 63 2 = some 2 := by kernel_rfl
@[go_sem] theorem ft63_3 : fdT Try.prog 63 3 = some (3, 3) := by kernel_rfl
@[go_sem] theorem fo63_3 : foff Try.prog 63 3 = some 3 := by kernel_rfl
@[go_sem] theorem ft63_4 : fdT Try.prog 63 4 = some (3, 4) := by kernel_rfl
@[go_sem] theorem fo63_4 : foff Try.prog 63 4 = some 4 := by kernel_rfl
@[go_sem] theorem ft63_5 : fdT Try.prog 63 5 = some (3, 5) := by kernel_rfl
@[go_sem] theorem fo63_5 : foff Try.prog 63 5 = some 5 := by kernel_rfl
@[go_sem] theorem ft63_6 : fdT Try.prog 63 6 = some (3, 6) := by kernel_rfl
@[go_sem] theorem fo63_6 : foff Try.prog 63 6 = some 6 := by kernel_rfl
@[go_sem] theorem ft63_7 : fdT Try.prog 63 7 = some (29, 7) := by kernel_rfl
@[go_sem] theorem fo63_7 : foff Try.prog 63 7 = some 7 := by kernel_rfl
@[go_sem] theorem ft63_8 : fdT Try.prog 63 8 = some (29, 10) := by kernel_rfl
@[go_sem] theorem fo63_8 : foff Try.prog 63 8 = some 10 := by kernel_rfl
@[go_sem] theorem ft63_9 : fdT Try.prog 63 9 = some (62, 13) := by kernel_rfl
@[go_sem] theorem fo63_9 : foff Try.prog 63 9 = some 13 := by kernel_rfl
@[go_sem] theorem ft63_10 : fdT Try.prog 63 10 = some (25, 14) := by kernel_rfl
@[go_sem] theorem fo63_10 : foff Try.prog 63 10 = some 14 := by kernel_rfl
@[go_sem] theorem ft63_11 : fdT Try.prog 63 11 = some (25, 15) := by kernel_rfl
@[go_sem] theorem fo63_11 : foff Try.prog 63 11 = some 15 := by kernel_rfl
@[go_sem] theorem ft63_12 : fdT Try.prog 63 12 = some (25, 16) := by kernel_rfl
@[go_sem] theorem fo63_12 : foff Try.prog 63 12 = some 16 := by kernel_rfl
@[go_sem] theorem sz64 : sizeT Try.prog 64 = some 17 := by kernel_rfl
@[go_sem] theorem by64 : (Try.prog.info? 64).map (·.bytes) = some 232 := by kernel_rfl
@[go_sem] theorem ag64 : aggT Try.prog 64 = some true := by kernel_rfl
@[go_sem] theorem ud64 : ud Try.prog 64 = .st := by kernel_rfl
@[go_sem] theorem zc64 : zcells Try.prog 64 = some [.lit (.int .i64 0), .lit (.int .i64 0), .lit (.int .i64 0), .lit (.int .i64 0), .lit (.int .i64 0), .lit (.int .i64 0), .lit (.int .i64 0), .lit (.int .i64 0), .lit (.int .u32 0), .list .exact [], .lit (.int .i64 0), .lit (.int .u32 0), .list .exact [], .list .exact [], .list .exact [], .list .exact [], .list .exact []] := by kernel_rfl
@[go_sem] theorem sp64 : splaces Try.prog 64 = some [(0, 1), (1, 1), (2, 1), (3, 1), (4, 1), (5, 1), (6, 1), (7, 3), (10, 3), (13, 1), (14, 1), (15, 1), (16, 1)] := by kernel_rfl
@[go_sem] theorem ft64_0 : fdT Try.prog 64 0 = some (3, 0) := by kernel_rfl
@[go_sem] theorem fo64_0 : foff Try.prog 64 0 = some 0 := by kernel_rfl
@[go_sem] theorem ft64_1 : fdT Try.prog 64 1 = some (3, 1) := by kernel_rfl
@[go_sem] theorem fo64_1 : foff Try.prog 64 1 = some 1 := by kernel_rfl
@[go_sem] theorem ft64_2 : fdT Try.prog 64 2 = some (3, 2) := by kernel_rfl
@[go_sem] theorem fo64_2 : foff Try.prog 64 2 = some 2 := by kernel_rfl
@[go_sem] theorem ft64_3 : fdT Try.prog 64 3 = some (3, 3) := by kernel_rfl
@[go_sem] theorem fo64_3 : foff Try.prog 64 3 = some 3 := by kernel_rfl
@[go_sem] theorem ft64_4 : fdT Try.prog 64 4 = some (3, 4) := by kernel_rfl
@[go_sem] theorem fo64_4 : foff Try.prog 64 4 = some 4 := by kernel_rfl
@[go_sem] theorem ft64_5 : fdT Try.prog 64 5 = some (3, 5) := by kernel_rfl
@[go_sem] theorem fo64_5 : foff Try.prog 64 5 = some 5 := by kernel_rfl
@[go_sem] theorem ft64_6 : fdT Try.prog 64 6 = some (3, 6) := by kernel_rfl
@[go_sem] theorem fo64_6 : foff Try.prog 64 6 = some 6 := by kernel_rfl
@[go_sem] theorem ft64_7 : fdT Try.prog 64 7 = some (29, 7) := by kernel_rfl
@[go_sem] theorem fo64_7 : foff Try.prog 64 7 = some 7 := by kernel_rfl
@[go_sem] theorem ft64_8 : fdT Try.prog 64 8 = some (29, 10) := by kernel_rfl
@[go_sem] theorem fo64_8 : foff Try.prog 64 8 = some 10 := by kernel_rfl
@[go_sem] theorem ft64_9 : fdT Try.prog 64 9 = some (62, 13) := by kernel_rfl
@[go_sem] theorem fo64_9 : foff Try.prog 64 9 = some 13 := by kernel_rfl
@[go_sem] theorem ft64_10 : fdT Try.prog 64 10 = some (25, 14) := by kernel_rfl
@[go_sem] theorem fo64_10 : foff Try.prog 64 10 = some 14 := by kernel_rfl
@[go_sem] theorem ft64_11 : fdT Try.prog 64 11 = some (25, 15) := by kernel_rfl
@[go_sem] theorem fo64_11 : foff Try.prog 64 11 = some 15 := by kernel_rfl
@[go_sem] theorem ft64_12 : fdT Try.prog 64 12 = some (25, 16) := by kernel_rfl
@[go_sem] theorem fo64_12 : foff Try.prog 64 12 = some 16 := by kernel_rfl
@[go_sem] theorem sz65 : sizeT Try.prog 65 = some 1 := by kernel_rfl
@[go_sem] theorem by65 : (Try.prog.info? 65).map (·.bytes) = some 8 := by kernel_rfl
@[go_sem] theorem ag65 : aggT Try.prog 65 = some false := by kernel_rfl
@[go_sem] theorem ud65 : ud Try.prog 65 = .oth := by kernel_rfl
@[go_sem] theorem zc65 : zcells Try.prog 65 = some [.lit .nilFunc] := by kernel_rfl
@[go_sem] theorem sz66 : sizeT Try.prog 66 = some 1 := by kernel_rfl
@[go_sem] theorem by66 : (Try.prog.info? 66).map (·.bytes) = some 8 := by kernel_rfl
@[go_sem] theorem ag66 : aggT Try.prog 66 = some false := by kernel_rfl
@[go_sem] theorem ud66 : ud Try.prog 66 = .oth := by kernel_rfl
@[go_sem] theorem zc66 : zcells Try.prog 66 = some [.lit .nilFunc] := by kernel_rfl
@[go_sem] theorem sz67 : sizeT Try.prog 67 = some 1 := by kernel_rfl
@[go_sem] theorem by67 : (Try.prog.info? 67).map (·.bytes) = some 8 := by kernel_rfl
@[go_sem] theorem ag67 : aggT Try.prog 67 = some false := by kernel_rfl
@[go_sem] theorem ud67 : ud Try.prog 67 = .oth := by kernel_rfl
@[go_sem] theorem zc67 : zcells Try.prog 67 = some [.lit .nilFunc] := by kernel_rfl
@[go_sem] theorem sz68 : sizeT Try.prog 68 = some 1 := by kernel_rfl
@[go_sem] theorem by68 : (Try.prog.info? 68).map (·.bytes) = some 8 := by kernel_rfl
@[go_sem] theorem ag68 : aggT Try.prog 68 = some false := by kernel_rfl
@[go_sem] theorem ud68 : ud Try.prog 68 = .oth := by kernel_rfl
@[go_sem] theorem zc68 : zcells Try.prog 68 = some [.lit .nilFunc] := by kernel_rfl
@[go_sem] theorem sz69 : sizeT Try.prog 69 = some 1 := by kernel_rfl
@[go_sem] theorem by69 : (Try.prog.info? 69).map (·.bytes) = some 8 := by kernel_rfl
@[go_sem] theorem ag69 : aggT Try.prog 69 = some false := by kernel_rfl
@[go_sem] theorem ud69 : ud Try.prog 69 = .oth := by kernel_rfl
@[go_sem] theorem zc69 : zcells Try.prog 69 = some [.lit .nilFunc] := by kernel_rfl
@[go_sem] theorem sz70 : sizeT Try.prog 70 = some 1 := by kernel_rfl
@[go_sem] theorem by70 : (Try.prog.info? 70).map (·.bytes) = some 8 := by kernel_rfl
@[go_sem] theorem ag70 : aggT Try.prog 70 = some false := by kernel_rfl
@[go_sem] theorem ud70 : ud Try.prog 70 = .oth := by kernel_rfl
@[go_sem] theorem zc70 : zcells Try.prog 70 = some [.lit .nilFunc] := by kernel_rfl
@[go_sem] theorem sz71 : sizeT Try.prog 71 = some 1 := by kernel_rfl
@[go_sem] theorem by71 : (Try.prog.info? 71).map (·.bytes) = some 8 := by kernel_rfl
@[go_sem] theorem ag71 : aggT Try.prog 71 = some false := by kernel_rfl
@[go_sem] theorem ud71 : ud Try.prog 71 = .oth := by kernel_rfl
@[go_sem] theorem zc71 : zcells Try.prog 71 = some [.lit (.pointer none)] := by kernel_rfl
@[go_sem] theorem sz72 : sizeT Try.prog 72 = some 2 := by kernel_rfl
@[go_sem] theorem by72 : (Try.prog.info? 72).map (·.bytes) = some 32 := by kernel_rfl
@[go_sem] theorem ag72 : aggT Try.prog 72 = some true := by kernel_rfl
@[go_sem] theorem ud72 : ud Try.prog 72 = .st := by kernel_rfl
@[go_sem] theorem zc72 : zcells Try.prog 72 = some [.list .exact [], .lit (.bool false)] := by kernel_rfl
@[go_sem] theorem sp72 : splaces Try.prog 72 = some [(0, 1), (1, 1)] := by kernel_rfl
@[go_sem] theorem ft72_0 : fdT Try.prog 72 0 = some (22, 0) := by kernel_rfl
@[go_sem] theorem fo72_0 : foff Try.prog 72 0 = some 0 := by kernel_rfl
@[go_sem] theorem ft72_1 : fdT Try.prog 72 1 = some (4, 1) := by kernel_rfl
@[go_sem] theorem fo72_1 : foff Try.prog 72 1 = some 1 := by kernel_rfl
@[go_sem] theorem sz73 : sizeT Try.prog 73 = some 1 := by kernel_rfl
@[go_sem] theorem by73 : (Try.prog.info? 73).map (·.bytes) = some 8 := by kernel_rfl
@[go_sem] theorem ag73 : aggT Try.prog 73 = some false := by kernel_rfl
@[go_sem] theorem ud73 : ud Try.prog 73 = .oth := by kernel_rfl
@[go_sem] theorem zc73 : zcells Try.prog 73 = some [.lit .nilFunc] := by kernel_rfl
@[go_sem] theorem sz74 : sizeT Try.prog 74 = some 1 := by kernel_rfl
@[go_sem] theorem by74 : (Try.prog.info? 74).map (·.bytes) = some 8 := by kernel_rfl
@[go_sem] theorem ag74 : aggT Try.prog 74 = some false := by kernel_rfl
@[go_sem] theorem ud74 : ud Try.prog 74 = .oth := by kernel_rfl
@[go_sem] theorem zc74 : zcells Try.prog 74 = some [.lit .nilFunc] := by kernel_rfl
@[go_sem] theorem sz75 : sizeT Try.prog 75 = some 1 := by kernel_rfl
@[go_sem] theorem by75 : (Try.prog.info? 75).map (·.bytes) = some 8 := by kernel_rfl
@[go_sem] theorem ag75 : aggT Try.prog 75 = some false := by kernel_rfl
@[go_sem] theorem ud75 : ud Try.prog 75 = .oth := by kernel_rfl
@[go_sem] theorem zc75 : zcells Try.prog 75 = some [.lit .nilFunc] := by kernel_rfl
@[go_sem] theorem sz76 : sizeT Try.prog 76 = some 1 := by kernel_rfl
@[go_sem] theorem by76 : (Try.prog.info? 76).map (·.bytes) = some 8 := by kernel_rfl
@[go_sem] theorem ag76 : aggT Try.prog 76 = some false := by kernel_rfl
@[go_sem] theorem ud76 : ud Try.prog 76 = .int .u64 := by kernel_rfl
@[go_sem] theorem zc76 : zcells Try.prog 76 = some [.lit (.int .u64 0)] := by kernel_rfl
@[go_sem] theorem sz77 : sizeT Try.prog 77 = some 7 := by kernel_rfl
@[go_sem] theorem by77 : (Try.prog.info? 77).map (·.bytes) = some 56 := by kernel_rfl
@[go_sem] theorem ag77 : aggT Try.prog 77 = some true := by kernel_rfl
@[go_sem] theorem ud77 : ud Try.prog 77 = .ar 7 3 := by kernel_rfl
@[go_sem] theorem zc77 : zcells Try.prog 77 = some [.lit (.int .i64 0), .lit (.int .i64 0), .lit (.int .i64 0), .lit (.int .i64 0), .lit (.int .i64 0), .lit (.int .i64 0), .lit (.int .i64 0)] := by kernel_rfl
@[go_sem] theorem sz78 : sizeT Try.prog 78 = some 1 := by kernel_rfl
@[go_sem] theorem by78 : (Try.prog.info? 78).map (·.bytes) = some 8 := by kernel_rfl
@[go_sem] theorem ag78 : aggT Try.prog 78 = some false := by kernel_rfl
@[go_sem] theorem ud78 : ud Try.prog 78 = .oth := by kernel_rfl
@[go_sem] theorem zc78 : zcells Try.prog 78 = some [.lit .nilFunc] := by kernel_rfl
@[go_sem] theorem sz79 : sizeT Try.prog 79 = some 1 := by kernel_rfl
@[go_sem] theorem by79 : (Try.prog.info? 79).map (·.bytes) = some 8 := by kernel_rfl
@[go_sem] theorem ag79 : aggT Try.prog 79 = some false := by kernel_rfl
@[go_sem] theorem ud79 : ud Try.prog 79 = .oth := by kernel_rfl
@[go_sem] theorem zc79 : zcells Try.prog 79 = some [.lit .nilFunc] := by kernel_rfl
@[go_sem] theorem sz80 : sizeT Try.prog 80 = some 7 := by kernel_rfl
@[go_sem] theorem by80 : (Try.prog.info? 80).map (·.bytes) = some 88 := by kernel_rfl
@[go_sem] theorem ag80 : aggT Try.prog 80 = some true := by kernel_rfl
@[go_sem] theorem ud80 : ud Try.prog 80 = .st := by kernel_rfl
@[go_sem] theorem zc80 : zcells Try.prog 80 = some [.lit (.int .i64 0), .lit (.int .i64 0), .lit (.int .u32 0), .list .exact [], .lit (.int .i64 0), .lit (.int .u32 0), .list .exact []] := by kernel_rfl
@[go_sem] theorem sp80 : splaces Try.prog 80 = some [(0, 1), (1, 3), (4, 3)] := by kernel_rfl
@[go_sem] theorem ft80_0 : fdT Try.prog 80 0 = some (3, 0) := by kernel_rfl
@[go_sem] theorem fo80_0 : foff Try.prog 80 0 = some 0 := by kernel_rfl
@[go_sem] theorem ft80_1 : fdT Try.prog 80 1 = some (29, 1) := by kernel_rfl
@[go_sem] theorem fo80_1 : foff Try.prog 80 1 = some 1 := by kernel_rfl
@[go_sem] theorem ft80_2 : fdT Try.prog 80 2 = some (29, 4) := by kernel_rfl
@[go_sem] theorem fo80_2 : foff Try.prog 80 2 = some 4 := by kernel_rfl
@[go_sem] theorem sz81 : sizeT Try.prog 81 = some 7 := by kernel_rfl
@[go_sem] theorem by81 : (Try.prog.info? 81).map (·.bytes) = some 88 := by kernel_rfl
@[go_sem] theorem ag81 : aggT Try.prog 81 = some true := by kernel_rfl
@[go_sem] theorem ud81 : ud Try.prog 81 = .st := by kernel_rfl
@[go_sem] theorem zc81 : zcells Try.prog 81 = some [.lit (.int .i64 0), .lit (.int .i64 0), .lit (.int .u32 0), .list .exact [], .lit (.int .i64 0), .lit (.int .u32 0), .list .exact []] := by kernel_rfl
@[go_sem] theorem sp81 : splaces Try.prog 81 = some [(0, 1), (1, 3), (4, 3)] := by kernel_rfl
@[go_sem] theorem ft81_0 : fdT Try.prog 81 0 = some (3, 0) := by kernel_rfl
@[go_sem] theorem fo81_0 : foff Try.prog 81 0 = some 0 := by kernel_rfl
@[go_sem] theorem ft81_1 : fdT Try.prog 81 1 = some (29, 1) := by kernel_rfl
@[go_sem] theorem fo81_1 : foff Try.prog 81 1 = some 1 := by kernel_rfl
@[go_sem] theorem ft81_2 : fdT Try.prog 81 2 = some (29, 4) := by kernel_rfl
@[go_sem] theorem fo81_2 : foff Try.prog 81 2 = some 4 := by kernel_rfl
@[go_sem] theorem sz82 : sizeT Try.prog 82 = some 1 := by kernel_rfl
@[go_sem] theorem by82 : (Try.prog.info? 82).map (·.bytes) = some 8 := by kernel_rfl
@[go_sem] theorem ag82 : aggT Try.prog 82 = some false := by kernel_rfl
@[go_sem] theorem ud82 : ud Try.prog 82 = .oth := by kernel_rfl
@[go_sem] theorem zc82 : zcells Try.prog 82 = some [.lit .nilFunc] := by kernel_rfl
@[go_sem] theorem sz83 : sizeT Try.prog 83 = some 5 := by kernel_rfl
@[go_sem] theorem by83 : (Try.prog.info? 83).map (·.bytes) = some 40 := by kernel_rfl
@[go_sem] theorem ag83 : aggT Try.prog 83 = some true := by kernel_rfl
@[go_sem] theorem ud83 : ud Try.prog 83 = .ar 5 3 := by kernel_rfl
@[go_sem] theorem zc83 : zcells Try.prog 83 = some [.lit (.int .i64 0), .lit (.int .i64 0), .lit (.int .i64 0), .lit (.int .i64 0), .lit (.int .i64 0)] := by kernel_rfl
@[go_sem] theorem sz84 : sizeT Try.prog 84 = some 1 := by kernel_rfl
@[go_sem] theorem by84 : (Try.prog.info? 84).map (·.bytes) = some 8 := by kernel_rfl
@[go_sem] theorem ag84 : aggT Try.prog 84 = some false := by kernel_rfl
@[go_sem] theorem ud84 : ud Try.prog 84 = .oth := by kernel_rfl
@[go_sem] theorem zc84 : zcells Try.prog 84 = some [.lit .nilFunc] := by kernel_rfl
@[go_sem] theorem sz85 : sizeT Try.prog 85 = some 1 := by kernel_rfl
@[go_sem] theorem by85 : (Try.prog.info? 85).map (·.bytes) = some 8 := by kernel_rfl
@[go_sem] theorem ag85 : aggT Try.prog 85 = some false := by kernel_rfl
@[go_sem] theorem ud85 : ud Try.prog 85 = .oth := by kernel_rfl
@[go_sem] theorem zc85 : zcells Try.prog 85 = some [.lit (.pointer none)] := by kernel_rfl
@[go_sem] theorem sz86 : sizeT Try.prog 86 = some 6 := by kernel_rfl
@[go_sem] theorem by86 : (Try.prog.info? 86).map (·.bytes) = some 48 := by kernel_rfl
@[go_sem] theorem ag86 : aggT Try.prog 86 = some true := by kernel_rfl
@[go_sem] theorem ud86 : ud Try.prog 86 = .ar 6 85 := by kernel_rfl
@[go_sem] theorem zc86 : zcells Try.prog 86 = some [.lit (.pointer none), .lit (.pointer none), .lit (.pointer none), .lit (.pointer none), .lit (.pointer none), .lit (.pointer none)] := by kernel_rfl
@[go_sem] theorem sz87 : sizeT Try.prog 87 = some 1 := by kernel_rfl
@[go_sem] theorem by87 : (Try.prog.info? 87).map (·.bytes) = some 8 := by kernel_rfl
@[go_sem] theorem ag87 : aggT Try.prog 87 = some false := by kernel_rfl
@[go_sem] theorem ud87 : ud Try.prog 87 = .oth := by kernel_rfl
@[go_sem] theorem zc87 : zcells Try.prog 87 = some [.lit (.pointer none)] := by kernel_rfl
@[go_sem] theorem sz88 : sizeT Try.prog 88 = some 3 := by kernel_rfl
@[go_sem] theorem by88 : (Try.prog.info? 88).map (·.bytes) = some 24 := by kernel_rfl
@[go_sem] theorem ag88 : aggT Try.prog 88 = some true := by kernel_rfl
@[go_sem] theorem ud88 : ud Try.prog 88 = .ar 3 87 := by kernel_rfl
@[go_sem] theorem zc88 : zcells Try.prog 88 = some [.lit (.pointer none), .lit (.pointer none), .lit (.pointer none)] := by kernel_rfl
@[go_sem] theorem sz89 : sizeT Try.prog 89 = some 1 := by kernel_rfl
@[go_sem] theorem by89 : (Try.prog.info? 89).map (·.bytes) = some 8 := by kernel_rfl
@[go_sem] theorem ag89 : aggT Try.prog 89 = some false := by kernel_rfl
@[go_sem] theorem ud89 : ud Try.prog 89 = .oth := by kernel_rfl
@[go_sem] theorem zc89 : zcells Try.prog 89 = some [.lit .nilFunc] := by kernel_rfl
@[go_sem] theorem sz90 : sizeT Try.prog 90 = some 1 := by kernel_rfl
@[go_sem] theorem by90 : (Try.prog.info? 90).map (·.bytes) = some 8 := by kernel_rfl
@[go_sem] theorem ag90 : aggT Try.prog 90 = some false := by kernel_rfl
@[go_sem] theorem ud90 : ud Try.prog 90 = .oth := by kernel_rfl
@[go_sem] theorem zc90 : zcells Try.prog 90 = some [.lit .nilFunc] := by kernel_rfl
@[go_sem] theorem sz91 : sizeT Try.prog 91 = some 1 := by kernel_rfl
@[go_sem] theorem by91 : (Try.prog.info? 91).map (·.bytes) = some 8 := by kernel_rfl
@[go_sem] theorem ag91 : aggT Try.prog 91 = some false := by kernel_rfl
@[go_sem] theorem ud91 : ud Try.prog 91 = .oth := by kernel_rfl
@[go_sem] theorem zc91 : zcells Try.prog 91 = some [.lit .nilFunc] := by kernel_rfl
@[go_sem] theorem sz92 : sizeT Try.prog 92 = some 1 := by kernel_rfl
@[go_sem] theorem by92 : (Try.prog.info? 92).map (·.bytes) = some 8 := by kernel_rfl
@[go_sem] theorem ag92 : aggT Try.prog 92 = some false := by kernel_rfl
@[go_sem] theorem ud92 : ud Try.prog 92 = .oth := by kernel_rfl
@[go_sem] theorem zc92 : zcells Try.prog 92 = some [.lit .nilFunc] := by kernel_rfl
@[go_sem] theorem sz93 : sizeT Try.prog 93 = some 6 := by kernel_rfl
@[go_sem] theorem by93 : (Try.prog.info? 93).map (·.bytes) = some 48 := by kernel_rfl
@[go_sem] theorem ag93 : aggT Try.prog 93 = some true := by kernel_rfl
@[go_sem] theorem ud93 : ud Try.prog 93 = .ar 6 3 := by kernel_rfl
@[go_sem] theorem zc93 : zcells Try.prog 93 = some [.lit (.int .i64 0), .lit (.int .i64 0), .lit (.int .i64 0), .lit (.int .i64 0), .lit (.int .i64 0), .lit (.int .i64 0)] := by kernel_rfl
@[go_sem] theorem sz94 : sizeT Try.prog 94 = some 3 := by kernel_rfl
@[go_sem] theorem by94 : (Try.prog.info? 94).map (·.bytes) = some 72 := by kernel_rfl
@[go_sem] theorem ag94 : aggT Try.prog 94 = some true := by kernel_rfl
@[go_sem] theorem ud94 : ud Try.prog 94 = .ar 3 25 := by kernel_rfl
@[go_sem] theorem zc94 : zcells Try.prog 94 = some [.list .exact [], .list .exact [], .list .exact []] := by kernel_rfl
@[go_sem] theorem sz95 : sizeT Try.prog 95 = some 1 := by kernel_rfl
@[go_sem] theorem by95 : (Try.prog.info? 95).map (·.bytes) = some 8 := by kernel_rfl
@[go_sem] theorem ag95 : aggT Try.prog 95 = some false := by kernel_rfl
@[go_sem] theorem ud95 : ud Try.prog 95 = .oth := by kernel_rfl
@[go_sem] theorem zc95 : zcells Try.prog 95 = some [.lit .nilFunc] := by kernel_rfl
@[go_sem] theorem sz96 : sizeT Try.prog 96 = some 4 := by kernel_rfl
@[go_sem] theorem by96 : (Try.prog.info? 96).map (·.bytes) = some 40 := by kernel_rfl
@[go_sem] theorem ag96 : aggT Try.prog 96 = some true := by kernel_rfl
@[go_sem] theorem ud96 : ud Try.prog 96 = .st := by kernel_rfl
@[go_sem] theorem zc96 : zcells Try.prog 96 = some [.lit (.pointer none), .lit (.pointer none), .lit (.pointer none), .lit (.string ByteArray.empty)] := by kernel_rfl
@[go_sem] theorem sp96 : splaces Try.prog 96 = some [(0, 1), (1, 1), (2, 1), (3, 1)] := by kernel_rfl
@[go_sem] theorem ft96_0 : fdT Try.prog 96 0 = some (17, 0) := by kernel_rfl
@[go_sem] theorem fo96_0 : foff Try.prog 96 0 = some 0 := by kernel_rfl
@[go_sem] theorem ft96_1 : fdT Try.prog 96 1 = some (17, 1) := by kernel_rfl
@[go_sem] theorem fo96_1 : foff Try.prog 96 1 = some 1 := by kernel_rfl
@[go_sem] theorem ft96_2 : fdT Try.prog 96 2 = some (17, 2) := by kernel_rfl
@[go_sem] theorem fo96_2 : foff Try.prog 96 2 = some 2 := by kernel_rfl
@[go_sem] theorem ft96_3 : fdT Try.prog 96 3 = some (9, 3) := by kernel_rfl
@[go_sem] theorem fo96_3 : foff Try.prog 96 3 = some 3 := by kernel_rfl
@[go_sem] theorem sz97 : sizeT Try.prog 97 = some 4 := by kernel_rfl
@[go_sem] theorem by97 : (Try.prog.info? 97).map (·.bytes) = some 40 := by kernel_rfl
@[go_sem] theorem ag97 : aggT Try.prog 97 = some true := by kernel_rfl
@[go_sem] theorem ud97 : ud Try.prog 97 = .st := by kernel_rfl
@[go_sem] theorem zc97 : zcells Try.prog 97 = some [.lit (.pointer none), .lit (.pointer none), .lit (.pointer none), .lit (.string ByteArray.empty)] := by kernel_rfl
@[go_sem] theorem sp97 : splaces Try.prog 97 = some [(0, 1), (1, 1), (2, 1), (3, 1)] := by kernel_rfl
@[go_sem] theorem ft97_0 : fdT Try.prog 97 0 = some (17, 0) := by kernel_rfl
@[go_sem] theorem fo97_0 : foff Try.prog 97 0 = some 0 := by kernel_rfl
@[go_sem] theorem ft97_1 : fdT Try.prog 97 1 = some (17, 1) := by kernel_rfl
@[go_sem] theorem fo97_1 : foff Try.prog 97 1 = some 1 := by kernel_rfl
@[go_sem] theorem ft97_2 : fdT Try.prog 97 2 = some (17, 2) := by kernel_rfl
@[go_sem] theorem fo97_2 : foff Try.prog 97 2 = some 2 := by kernel_rfl
@[go_sem] theorem ft97_3 : fdT Try.prog 97 3 = some (9, 3) := by kernel_rfl
@[go_sem] theorem fo97_3 : foff Try.prog 97 3 = some 3 := by kernel_rfl
@[go_sem] theorem sz98 : sizeT Try.prog 98 = some 0 := by kernel_rfl
@[go_sem] theorem by98 : (Try.prog.info? 98).map (·.bytes) = some 0 := by kernel_rfl
@[go_sem] theorem ag98 : aggT Try.prog 98 = some true := by kernel_rfl
@[go_sem] theorem ud98 : ud Try.prog 98 = .ar 0 16 := by kernel_rfl
@[go_sem] theorem zc98 : zcells Try.prog 98 = some [] := by kernel_rfl
@[go_sem] theorem sz99 : sizeT Try.prog 99 = some 0 := by kernel_rfl
@[go_sem] theorem by99 : (Try.prog.info? 99).map (·.bytes) = some 0 := by kernel_rfl
@[go_sem] theorem ag99 : aggT Try.prog 99 = some true := by kernel_rfl
@[go_sem] theorem ud99 : ud Try.prog 99 = .st := by kernel_rfl
@[go_sem] theorem zc99 : zcells Try.prog 99 = some [] := by kernel_rfl
@[go_sem] theorem sp99 : splaces Try.prog 99 = some [(0, 0)] := by kernel_rfl
@[go_sem] theorem ft99_0 : fdT Try.prog 99 0 = some (98, 0) := by kernel_rfl
@[go_sem] theorem sz100 : sizeT Try.prog 100 = some 0 := by kernel_rfl
@[go_sem] theorem by100 : (Try.prog.info? 100).map (·.bytes) = some 0 := by kernel_rfl
@[go_sem] theorem ag100 : aggT Try.prog 100 = some true := by kernel_rfl
@[go_sem] theorem ud100 : ud Try.prog 100 = .st := by kernel_rfl
@[go_sem] theorem zc100 : zcells Try.prog 100 = some [] := by kernel_rfl
@[go_sem] theorem sp100 : splaces Try.prog 100 = some [(0, 0)] := by kernel_rfl
@[go_sem] theorem ft100_0 : fdT Try.prog 100 0 = some (98, 0) := by kernel_rfl
@[go_sem] theorem sz101 : sizeT Try.prog 101 = some 1 := by kernel_rfl
@[go_sem] theorem by101 : (Try.prog.info? 101).map (·.bytes) = some 1 := by kernel_rfl
@[go_sem] theorem ag101 : aggT Try.prog 101 = some false := by kernel_rfl
@[go_sem] theorem ud101 : ud Try.prog 101 = .int .u8 := by kernel_rfl
@[go_sem] theorem zc101 : zcells Try.prog 101 = some [.lit (.int .u8 0)] := by kernel_rfl
@[go_sem] theorem sz102 : sizeT Try.prog 102 = some 1 := by kernel_rfl
@[go_sem] theorem by102 : (Try.prog.info? 102).map (·.bytes) = some 1 := by kernel_rfl
@[go_sem] theorem ag102 : aggT Try.prog 102 = some false := by kernel_rfl
@[go_sem] theorem ud102 : ud Try.prog 102 = .int .u8 := by kernel_rfl
@[go_sem] theorem zc102 : zcells Try.prog 102 = some [.lit (.int .u8 0)] := by kernel_rfl
@[go_sem] theorem sz103 : sizeT Try.prog 103 = some 1 := by kernel_rfl
@[go_sem] theorem by103 : (Try.prog.info? 103).map (·.bytes) = some 8 := by kernel_rfl
@[go_sem] theorem ag103 : aggT Try.prog 103 = some false := by kernel_rfl
@[go_sem] theorem ud103 : ud Try.prog 103 = .oth := by kernel_rfl
@[go_sem] theorem zc103 : zcells Try.prog 103 = some [.lit .nilFunc] := by kernel_rfl
@[go_sem] theorem sz104 : sizeT Try.prog 104 = some 1 := by kernel_rfl
@[go_sem] theorem by104 : (Try.prog.info? 104).map (·.bytes) = some 8 := by kernel_rfl
@[go_sem] theorem ag104 : aggT Try.prog 104 = some false := by kernel_rfl
@[go_sem] theorem ud104 : ud Try.prog 104 = .oth := by kernel_rfl
@[go_sem] theorem zc104 : zcells Try.prog 104 = some [.lit (.pointer none)] := by kernel_rfl
@[go_sem] theorem sz105 : sizeT Try.prog 105 = some 1 := by kernel_rfl
@[go_sem] theorem by105 : (Try.prog.info? 105).map (·.bytes) = some 4 := by kernel_rfl
@[go_sem] theorem ag105 : aggT Try.prog 105 = some false := by kernel_rfl
@[go_sem] theorem ud105 : ud Try.prog 105 = .int .i32 := by kernel_rfl
@[go_sem] theorem zc105 : zcells Try.prog 105 = some [.lit (.int .i32 0)] := by kernel_rfl
@[go_sem] theorem sz106 : sizeT Try.prog 106 = some 1 := by kernel_rfl
@[go_sem] theorem by106 : (Try.prog.info? 106).map (·.bytes) = some 4 := by kernel_rfl
@[go_sem] theorem ag106 : aggT Try.prog 106 = some false := by kernel_rfl
@[go_sem] theorem ud106 : ud Try.prog 106 = .int .i32 := by kernel_rfl
@[go_sem] theorem zc106 : zcells Try.prog 106 = some [.lit (.int .i32 0)] := by kernel_rfl
@[go_sem] theorem sz107 : sizeT Try.prog 107 = some 11 := by kernel_rfl
@[go_sem] theorem by107 : (Try.prog.info? 107).map (·.bytes) = some 48 := by kernel_rfl
@[go_sem] theorem ag107 : aggT Try.prog 107 = some true := by kernel_rfl
@[go_sem] theorem ud107 : ud Try.prog 107 = .st := by kernel_rfl
@[go_sem] theorem zc107 : zcells Try.prog 107 = some [.lit (.int .u64 0), .lit (.int .u64 0), .lit (.int .u32 0), .lit (.int .u8 0), .lit (.int .u8 0), .lit (.int .u8 0), .lit (.int .u8 0), .lit .nilFunc, .lit (.pointer none), .lit (.int .i32 0), .lit (.int .i32 0)] := by kernel_rfl
@[go_sem] theorem sp107 : splaces Try.prog 107 = some [(0, 1), (1, 1), (2, 1), (3, 1), (4, 1), (5, 1), (6, 1), (7, 1), (8, 1), (9, 1), (10, 1)] := by kernel_rfl
@[go_sem] theorem ft107_0 : fdT Try.prog 107 0 = some (12, 0) := by kernel_rfl
@[go_sem] theorem fo107_0 : foff Try.prog 107 0 = some 0 := by kernel_rfl
@[go_sem] theorem ft107_1 : fdT Try.prog 107 1 = some (12, 1) := by kernel_rfl
@[go_sem] theorem fo107_1 : foff Try.prog 107 1 = some 1 := by kernel_rfl
@[go_sem] theorem ft107_2 : fdT Try.prog 107 2 = some (26, 2) := by kernel_rfl
@[go_sem] theorem fo107_2 : foff Try.prog 107 2 = some 2 := by kernel_rfl
@[go_sem] theorem ft107_3 : fdT Try.prog 107 3 = some (101, 3) := by kernel_rfl
@[go_sem] theorem fo107_3 : foff Try.prog 107 3 = some 3 := by kernel_rfl
@[go_sem] theorem ft107_4 : fdT Try.prog 107 4 = some (5, 4) := by kernel_rfl
@[go_sem] theorem fo107_4 : foff Try.prog 107 4 = some 4 := by kernel_rfl
@[go_sem] theorem ft107_5 : fdT Try.prog 107 5 = some (5, 5) := by kernel_rfl
@[go_sem] theorem fo107_5 : foff Try.prog 107 5 = some 5 := by kernel_rfl
@[go_sem] theorem ft107_6 : fdT Try.prog 107 6 = some (102, 6) := by kernel_rfl
@[go_sem] theorem fo107_6 : foff Try.prog 107 6 = some 6 := by kernel_rfl
@[go_sem] theorem ft107_7 : fdT Try.prog 107 7 = some (103, 7) := by kernel_rfl
@[go_sem] theorem fo107_7 : foff Try.prog 107 7 = some 7 := by kernel_rfl
@[go_sem] theorem ft107_8 : fdT Try.prog 107 8 = some (104, 8) := by kernel_rfl
@[go_sem] theorem fo107_8 : foff Try.prog 107 8 = some 8 := by kernel_rfl
@[go_sem] theorem ft107_9 : fdT Try.prog 107 9 = some (105, 9) := by kernel_rfl
@[go_sem] theorem fo107_9 : foff Try.prog 107 9 = some 9 := by kernel_rfl
@[go_sem] theorem ft107_10 : fdT Try.prog 107 10 = some (106, 10) := by kernel_rfl
@[go_sem] theorem fo107_10 : foff Try.prog 107 10 = some 10 := by kernel_rfl
@[go_sem] theorem sz108 : sizeT Try.prog 108 = some 11 := by kernel_rfl
@[go_sem] theorem by108 : (Try.prog.info? 108).map (·.bytes) = some 48 := by kernel_rfl
@[go_sem] theorem ag108 : aggT Try.prog 108 = some true := by kernel_rfl
@[go_sem] theorem ud108 : ud Try.prog 108 = .st := by kernel_rfl
@[go_sem] theorem zc108 : zcells Try.prog 108 = some [.lit (.int .u64 0), .lit (.int .u64 0), .lit (.int .u32 0), .lit (.int .u8 0), .lit (.int .u8 0), .lit (.int .u8 0), .lit (.int .u8 0), .lit .nilFunc, .lit (.pointer none), .lit (.int .i32 0), .lit (.int .i32 0)] := by kernel_rfl
@[go_sem] theorem sp108 : splaces Try.prog 108 = some [(0, 1), (1, 1), (2, 1), (3, 1), (4, 1), (5, 1), (6, 1), (7, 1), (8, 1), (9, 1), (10, 1)] := by kernel_rfl
@[go_sem] theorem ft108_0 : fdT Try.prog 108 0 = some (12, 0) := by kernel_rfl
@[go_sem] theorem fo108_0 : foff Try.prog 108 0 = some 0 := by kernel_rfl
@[go_sem] theorem ft108_1 : fdT Try.prog 108 1 = some (12, 1) := by kernel_rfl
@[go_sem] theorem fo108_1 : foff Try.prog 108 1 = some 1 := by kernel_rfl
@[go_sem] theorem ft108_2 : fdT Try.prog 108 2 = some (26, 2) := by kernel_rfl
@[go_sem] theorem fo108_2 : foff Try.prog 108 2 = some 2 := by kernel_rfl
@[go_sem] theorem ft108_3 : fdT Try.prog 108 3 = some (101, 3) := by kernel_rfl
@[go_sem] theorem fo108_3 : foff Try.prog 108 3 = some 3 := by kernel_rfl
@[go_sem] theorem ft108_4 : fdT Try.prog 108 4 = some (5, 4) := by kernel_rfl
@[go_sem] theorem fo108_4 : foff Try.prog 108 4 = some 4 := by kernel_rfl
@[go_sem] theorem ft108_5 : fdT Try.prog 108 5 = some (5, 5) := by kernel_rfl
@[go_sem] theorem fo108_5 : foff Try.prog 108 5 = some 5 := by kernel_rfl
@[go_sem] theorem ft108_6 : fdT Try.prog 108 6 = some (102, 6) := by kernel_rfl
@[go_sem] theorem fo108_6 : foff Try.prog 108 6 = some 6 := by kernel_rfl
@[go_sem] theorem ft108_7 : fdT Try.prog 108 7 = some (103, 7) := by kernel_rfl
@[go_sem] theorem fo108_7 : foff Try.prog 108 7 = some 7 := by kernel_rfl
@[go_sem] theorem ft108_8 : fdT Try.prog 108 8 = some (104, 8) := by kernel_rfl
@[go_sem] theorem fo108_8 : foff Try.prog 108 8 = some 8 := by kernel_rfl
@[go_sem] theorem ft108_9 : fdT Try.prog 108 9 = some (105, 9) := by kernel_rfl
@[go_sem] theorem fo108_9 : foff Try.prog 108 9 = some 9 := by kernel_rfl
@[go_sem] theorem ft108_10 : fdT Try.prog 108 10 = some (106, 10) := by kernel_rfl
@[go_sem] theorem fo108_10 : foff Try.prog 108 10 = some 10 := by kernel_rfl
@[go_sem] theorem sz109 : sizeT Try.prog 109 = some 1 := by kernel_rfl
@[go_sem] theorem by109 : (Try.prog.info? 109).map (·.bytes) = some 8 := by kernel_rfl
@[go_sem] theorem ag109 : aggT Try.prog 109 = some false := by kernel_rfl
@[go_sem] theorem ud109 : ud Try.prog 109 = .oth := by kernel_rfl
@[go_sem] theorem zc109 : zcells Try.prog 109 = some [.lit (.pointer none)] := by kernel_rfl
end Go.Proofs.Ytolhahlnccekcaa.Abs
