/-
 Facts on the types of the translation, each by the kernel. Written by a program of mine (facts.py).
-/
import Derived.Test.YtldnmmnnohnpkaaDoorProg
import Derived.Test.YtldnmmnnohnpkaaDoorNuA20
import Derived.KernelRfl
namespace Go.Proofs.YtldnmmnnohnpkaaDoor.Abs
@[go_sem] theorem sz1 : za9 Tryd.prog 1 = some 1 := by kernel_rfl
@[go_sem] theorem sz2 : za9 Tryd.prog 2 = some 1 := by kernel_rfl
@[go_sem] theorem sz3 : za9 Tryd.prog 3 = some 1 := by kernel_rfl
@[go_sem] theorem by3 : (Tryd.prog.info? 3).map (·.bytes) = some 8 := by kernel_rfl
@[go_sem] theorem ag3 : aggT Tryd.prog 3 = some false := by kernel_rfl
@[go_sem] theorem ud3 : ud Tryd.prog 3 = .int .i64 := by kernel_rfl
@[go_sem] theorem zc3 : zbo Tryd.prog 3 = some [.lit (.int .i64 0)] := by kernel_rfl
@[go_sem] theorem sz4 : za9 Tryd.prog 4 = some 1 := by kernel_rfl
@[go_sem] theorem ag4 : aggT Tryd.prog 4 = some false := by kernel_rfl
@[go_sem] theorem sz5 : za9 Tryd.prog 5 = some 1 := by kernel_rfl
@[go_sem] theorem ud5 : ud Tryd.prog 5 = .int .u8 := by kernel_rfl
@[go_sem] theorem zc5 : zbo Tryd.prog 5 = some [.lit (.int .u8 0)] := by kernel_rfl
@[go_sem] theorem sz9 : za9 Tryd.prog 9 = some 1 := by kernel_rfl
@[go_sem] theorem ag9 : aggT Tryd.prog 9 = some false := by kernel_rfl
@[go_sem] theorem ud9 : ud Tryd.prog 9 = .str := by kernel_rfl
@[go_sem] theorem ud21 : ud Tryd.prog 21 = .int .i32 := by kernel_rfl
@[go_sem] theorem sz22 : za9 Tryd.prog 22 = some 1 := by kernel_rfl
@[go_sem] theorem ag22 : aggT Tryd.prog 22 = some false := by kernel_rfl
@[go_sem] theorem ud22 : ud Tryd.prog 22 = .int .u32 := by kernel_rfl
@[go_sem] theorem sz24 : za9 Tryd.prog 24 = some 1 := by kernel_rfl
@[go_sem] theorem ag24 : aggT Tryd.prog 24 = some false := by kernel_rfl
@[go_sem] theorem ud24 : ud Tryd.prog 24 = .sl 38 := by kernel_rfl
@[go_sem] theorem sz26 : za9 Tryd.prog 26 = some 1 := by kernel_rfl
@[go_sem] theorem ag26 : aggT Tryd.prog 26 = some true := by kernel_rfl
@[go_sem] theorem ud26 : ud Tryd.prog 26 = .st := by kernel_rfl
@[go_sem] theorem zc26 : zbo Tryd.prog 26 = some [.list .exact []] := by kernel_rfl
@[go_sem] theorem sp26 : zeD Tryd.prog 26 = some [(0, 1)] := by kernel_rfl
@[go_sem] theorem fo26_0 : foff Tryd.prog 26 0 = some 0 := by kernel_rfl
@[go_sem] theorem sz27 : za9 Tryd.prog 27 = some 1 := by kernel_rfl
@[go_sem] theorem ag27 : aggT Tryd.prog 27 = some false := by kernel_rfl
@[go_sem] theorem ud30 : ud Tryd.prog 30 = .sl 5 := by kernel_rfl
@[go_sem] theorem sz35 : za9 Tryd.prog 35 = some 1 := by kernel_rfl
@[go_sem] theorem ag35 : aggT Tryd.prog 35 = some false := by kernel_rfl
@[go_sem] theorem ud35 : ud Tryd.prog 35 = .sl 67 := by kernel_rfl
@[go_sem] theorem sz36 : za9 Tryd.prog 36 = some 1 := by kernel_rfl
@[go_sem] theorem ag36 : aggT Tryd.prog 36 = some false := by kernel_rfl
@[go_sem] theorem ud36 : ud Tryd.prog 36 = .sl 46 := by kernel_rfl
@[go_sem] theorem sz38 : za9 Tryd.prog 38 = some 6 := by kernel_rfl
@[go_sem] theorem by38 : (Tryd.prog.info? 38).map (·.bytes) = some 88 := by kernel_rfl
@[go_sem] theorem ag38 : aggT Tryd.prog 38 = some true := by kernel_rfl
@[go_sem] theorem ud38 : ud Tryd.prog 38 = .st := by kernel_rfl
@[go_sem] theorem zc38 : zbo Tryd.prog 38 = some [.lit (.string ByteArray.empty), .lit (.bool false), .lit (.int .i64 0), .lit (.int .i64 0), .nilv, .nilv] := by kernel_rfl
@[go_sem] theorem sp38 : zeD Tryd.prog 38 = some [(0, 1), (1, 1), (2, 1), (3, 1), (4, 1), (5, 1)] := by kernel_rfl
@[go_sem] theorem fo38_0 : foff Tryd.prog 38 0 = some 0 := by kernel_rfl
@[go_sem] theorem fo38_1 : foff Tryd.prog 38 1 = some 1 := by kernel_rfl
@[go_sem] theorem fo38_2 : foff Tryd.prog 38 2 = some 2 := by kernel_rfl
@[go_sem] theorem fo38_3 : foff Tryd.prog 38 3 = some 3 := by kernel_rfl
@[go_sem] theorem fo38_4 : foff Tryd.prog 38 4 = some 4 := by kernel_rfl
@[go_sem] theorem fo38_5 : foff Tryd.prog 38 5 = some 5 := by kernel_rfl
@[go_sem] theorem sz44 : za9 Tryd.prog 44 = some 1 := by kernel_rfl
@[go_sem] theorem ag44 : aggT Tryd.prog 44 = some false := by kernel_rfl
@[go_sem] theorem ud44 : ud Tryd.prog 44 = .sl 107 := by kernel_rfl
@[go_sem] theorem sz46 : za9 Tryd.prog 46 = some 7 := by kernel_rfl
@[go_sem] theorem by46 : (Tryd.prog.info? 46).map (·.bytes) = some 112 := by kernel_rfl
@[go_sem] theorem ag46 : aggT Tryd.prog 46 = some true := by kernel_rfl
@[go_sem] theorem ud46 : ud Tryd.prog 46 = .st := by kernel_rfl
@[go_sem] theorem zc46 : zbo Tryd.prog 46 = some [.lit (.string ByteArray.empty), .lit (.int .i64 0), .lit (.int .i64 0), .list .exact [], .list .exact [], .list .exact [], .lit (.int .i64 0)] := by kernel_rfl
@[go_sem] theorem sp46 : zeD Tryd.prog 46 = some [(0, 1), (1, 1), (2, 1), (3, 1), (4, 1), (5, 1), (6, 1)] := by kernel_rfl
@[go_sem] theorem fo46_0 : foff Tryd.prog 46 0 = some 0 := by kernel_rfl
@[go_sem] theorem fo46_1 : foff Tryd.prog 46 1 = some 1 := by kernel_rfl
@[go_sem] theorem fo46_2 : foff Tryd.prog 46 2 = some 2 := by kernel_rfl
@[go_sem] theorem fo46_3 : foff Tryd.prog 46 3 = some 3 := by kernel_rfl
@[go_sem] theorem fo46_4 : foff Tryd.prog 46 4 = some 4 := by kernel_rfl
@[go_sem] theorem fo46_5 : foff Tryd.prog 46 5 = some 5 := by kernel_rfl
@[go_sem] theorem fo46_6 : foff Tryd.prog 46 6 = some 6 := by kernel_rfl
@[go_sem] theorem sz47 : za9 Tryd.prog 47 = some 1 := by kernel_rfl
@[go_sem] theorem ag47 : aggT Tryd.prog 47 = some false := by kernel_rfl
@[go_sem] theorem ud47 : ud Tryd.prog 47 = .sl 49 := by kernel_rfl
@[go_sem] theorem sz49 : za9 Tryd.prog 49 = some 5 := by kernel_rfl
@[go_sem] theorem by49 : (Tryd.prog.info? 49).map (·.bytes) = some 64 := by kernel_rfl
@[go_sem] theorem ag49 : aggT Tryd.prog 49 = some true := by kernel_rfl
@[go_sem] theorem ud49 : ud Tryd.prog 49 = .st := by kernel_rfl
@[go_sem] theorem zc49 : zbo Tryd.prog 49 = some [.lit (.int .i64 0), .lit (.int .i64 0), .lit (.string ByteArray.empty), .lit (.int .u32 0), .list .exact []] := by kernel_rfl
@[go_sem] theorem sp49 : zeD Tryd.prog 49 = some [(0, 1), (1, 1), (2, 1), (3, 1), (4, 1)] := by kernel_rfl
@[go_sem] theorem fo49_0 : foff Tryd.prog 49 0 = some 0 := by kernel_rfl
@[go_sem] theorem fo49_1 : foff Tryd.prog 49 1 = some 1 := by kernel_rfl
@[go_sem] theorem fo49_2 : foff Tryd.prog 49 2 = some 2 := by kernel_rfl
@[go_sem] theorem fo49_3 : foff Tryd.prog 49 3 = some 3 := by kernel_rfl
@[go_sem] theorem fo49_4 : foff Tryd.prog 49 4 = some 4 := by kernel_rfl
@[go_sem] theorem sz53 : za9 Tryd.prog 53 = some 1 := by kernel_rfl
@[go_sem] theorem ag53 : aggT Tryd.prog 53 = some false := by kernel_rfl
@[go_sem] theorem sz54 : za9 Tryd.prog 54 = some 1 := by kernel_rfl
@[go_sem] theorem by54 : (Tryd.prog.info? 54).map (·.bytes) = some 24 := by kernel_rfl
@[go_sem] theorem ag54 : aggT Tryd.prog 54 = some false := by kernel_rfl
@[go_sem] theorem ud54 : ud Tryd.prog 54 = .sl 3 := by kernel_rfl
@[go_sem] theorem zc54 : zbo Tryd.prog 54 = some [.list .exact []] := by kernel_rfl
@[go_sem] theorem sz55 : za9 Tryd.prog 55 = some 1 := by kernel_rfl
@[go_sem] theorem ag55 : aggT Tryd.prog 55 = some false := by kernel_rfl
@[go_sem] theorem ud55 : ud Tryd.prog 55 = .sl 54 := by kernel_rfl
@[go_sem] theorem ud57 : ud Tryd.prog 57 = .st := by kernel_rfl
@[go_sem] theorem zc57 : zbo Tryd.prog 57 = some [.list .exact [], .lit (.pointer none), .list .exact [], .list .exact [], .lit (.int .i64 0), .lit (.int .i64 0), .lit (.int .i64 0)] := by kernel_rfl
@[go_sem] theorem sp57 : zeD Tryd.prog 57 = some [(0, 1), (1, 1), (2, 1), (3, 1), (4, 1), (5, 1), (6, 1)] := by kernel_rfl
@[go_sem] theorem fo57_0 : foff Tryd.prog 57 0 = some 0 := by kernel_rfl
@[go_sem] theorem fo57_1 : foff Tryd.prog 57 1 = some 1 := by kernel_rfl
@[go_sem] theorem fo57_2 : foff Tryd.prog 57 2 = some 2 := by kernel_rfl
@[go_sem] theorem fo57_3 : foff Tryd.prog 57 3 = some 3 := by kernel_rfl
@[go_sem] theorem fo57_4 : foff Tryd.prog 57 4 = some 4 := by kernel_rfl
@[go_sem] theorem fo57_5 : foff Tryd.prog 57 5 = some 5 := by kernel_rfl
@[go_sem] theorem fo57_6 : foff Tryd.prog 57 6 = some 6 := by kernel_rfl
@[go_sem] theorem sz59 : za9 Tryd.prog 59 = some 1 := by kernel_rfl
@[go_sem] theorem ag59 : aggT Tryd.prog 59 = some false := by kernel_rfl
@[go_sem] theorem zc59 : zbo Tryd.prog 59 = some [.lit .nilFunc] := by kernel_rfl
@[go_sem] theorem ud60 : ud Tryd.prog 60 = .sl 59 := by kernel_rfl
@[go_sem] theorem sz67 : za9 Tryd.prog 67 = some 3 := by kernel_rfl
@[go_sem] theorem by67 : (Tryd.prog.info? 67).map (·.bytes) = some 32 := by kernel_rfl
@[go_sem] theorem ag67 : aggT Tryd.prog 67 = some true := by kernel_rfl
@[go_sem] theorem ud67 : ud Tryd.prog 67 = .st := by kernel_rfl
@[go_sem] theorem zc67 : zbo Tryd.prog 67 = some [.lit (.string ByteArray.empty), .lit (.int .i64 0), .lit (.int .i64 0)] := by kernel_rfl
@[go_sem] theorem sp67 : zeD Tryd.prog 67 = some [(0, 1), (1, 1), (2, 1)] := by kernel_rfl
@[go_sem] theorem fo67_0 : foff Tryd.prog 67 0 = some 0 := by kernel_rfl
@[go_sem] theorem fo67_1 : foff Tryd.prog 67 1 = some 1 := by kernel_rfl
@[go_sem] theorem fo67_2 : foff Tryd.prog 67 2 = some 2 := by kernel_rfl
@[go_sem] theorem sz68 : za9 Tryd.prog 68 = some 1 := by kernel_rfl
@[go_sem] theorem ag68 : aggT Tryd.prog 68 = some false := by kernel_rfl
@[go_sem] theorem ud68 : ud Tryd.prog 68 = .sl 76 := by kernel_rfl
@[go_sem] theorem sz71 : za9 Tryd.prog 71 = some 1 := by kernel_rfl
@[go_sem] theorem ag71 : aggT Tryd.prog 71 = some false := by kernel_rfl
@[go_sem] theorem ud73 : ud Tryd.prog 73 = .st := by kernel_rfl
@[go_sem] theorem zc73 : zbo Tryd.prog 73 = some [.list .exact [], .lit (.int .i64 0), .lit (.int .i64 0), .lit (.int .i64 0), .lit (.int .i64 0)] := by kernel_rfl
@[go_sem] theorem sp73 : zeD Tryd.prog 73 = some [(0, 1), (1, 1), (2, 1), (3, 1), (4, 1)] := by kernel_rfl
@[go_sem] theorem fo73_0 : foff Tryd.prog 73 0 = some 0 := by kernel_rfl
@[go_sem] theorem fo73_1 : foff Tryd.prog 73 1 = some 1 := by kernel_rfl
@[go_sem] theorem fo73_2 : foff Tryd.prog 73 2 = some 2 := by kernel_rfl
@[go_sem] theorem fo73_3 : foff Tryd.prog 73 3 = some 3 := by kernel_rfl
@[go_sem] theorem fo73_4 : foff Tryd.prog 73 4 = some 4 := by kernel_rfl
@[go_sem] theorem sz76 : za9 Tryd.prog 76 = some 4 := by kernel_rfl
@[go_sem] theorem by76 : (Tryd.prog.info? 76).map (·.bytes) = some 40 := by kernel_rfl
@[go_sem] theorem ag76 : aggT Tryd.prog 76 = some true := by kernel_rfl
@[go_sem] theorem ud76 : ud Tryd.prog 76 = .st := by kernel_rfl
@[go_sem] theorem zc76 : zbo Tryd.prog 76 = some [.lit (.int .i64 0), .lit (.int .i64 0), .lit (.string ByteArray.empty), .lit (.int .u32 0)] := by kernel_rfl
@[go_sem] theorem sp76 : zeD Tryd.prog 76 = some [(0, 1), (1, 1), (2, 1), (3, 1)] := by kernel_rfl
@[go_sem] theorem ft76_0 : fdT Tryd.prog 76 0 = some (3, 0) := by kernel_rfl
@[go_sem] theorem fo76_0 : foff Tryd.prog 76 0 = some 0 := by kernel_rfl
@[go_sem] theorem ft76_1 : fdT Tryd.prog 76 1 = some (3, 1) := by kernel_rfl
@[go_sem] theorem fo76_2 : foff Tryd.prog 76 2 = some 2 := by kernel_rfl
@[go_sem] theorem fo76_3 : foff Tryd.prog 76 3 = some 3 := by kernel_rfl
@[go_sem] theorem sz94 : za9 Tryd.prog 94 = some 2 := by kernel_rfl
@[go_sem] theorem ag94 : aggT Tryd.prog 94 = some true := by kernel_rfl
@[go_sem] theorem zc94 : zbo Tryd.prog 94 = some [.lit (.string ByteArray.empty), .lit (.int .i64 0)] := by kernel_rfl
@[go_sem] theorem fo94_0 : foff Tryd.prog 94 0 = some 0 := by kernel_rfl
@[go_sem] theorem fo94_1 : foff Tryd.prog 94 1 = some 1 := by kernel_rfl
@[go_sem] theorem sz95 : za9 Tryd.prog 95 = some 10 := by kernel_rfl
@[go_sem] theorem ag95 : aggT Tryd.prog 95 = some true := by kernel_rfl
@[go_sem] theorem ud95 : ud Tryd.prog 95 = .ar 5 94 := by kernel_rfl
@[go_sem] theorem sz104 : za9 Tryd.prog 104 = some 3 := by kernel_rfl
@[go_sem] theorem ag104 : aggT Tryd.prog 104 = some true := by kernel_rfl
@[go_sem] theorem ud104 : ud Tryd.prog 104 = .ar 3 9 := by kernel_rfl
@[go_sem] theorem zc104 : zbo Tryd.prog 104 = some [.lit (.string ByteArray.empty), .lit (.string ByteArray.empty), .lit (.string ByteArray.empty)] := by kernel_rfl
@[go_sem] theorem sz107 : za9 Tryd.prog 107 = some 6 := by kernel_rfl
@[go_sem] theorem by107 : (Tryd.prog.info? 107).map (·.bytes) = some 72 := by kernel_rfl
@[go_sem] theorem ag107 : aggT Tryd.prog 107 = some true := by kernel_rfl
@[go_sem] theorem ud107 : ud Tryd.prog 107 = .st := by kernel_rfl
@[go_sem] theorem zc107 : zbo Tryd.prog 107 = some [.lit (.string ByteArray.empty), .lit (.int .i64 0), .lit (.int .u32 0), .lit (.int .i64 0), .list .exact [], .lit (.int .i64 0)] := by kernel_rfl
@[go_sem] theorem sp107 : zeD Tryd.prog 107 = some [(0, 1), (1, 1), (2, 1), (3, 1), (4, 1), (5, 1)] := by kernel_rfl
@[go_sem] theorem fo107_0 : foff Tryd.prog 107 0 = some 0 := by kernel_rfl
@[go_sem] theorem fo107_1 : foff Tryd.prog 107 1 = some 1 := by kernel_rfl
@[go_sem] theorem fo107_2 : foff Tryd.prog 107 2 = some 2 := by kernel_rfl
@[go_sem] theorem fo107_3 : foff Tryd.prog 107 3 = some 3 := by kernel_rfl
@[go_sem] theorem fo107_4 : foff Tryd.prog 107 4 = some 4 := by kernel_rfl
@[go_sem] theorem fo107_5 : foff Tryd.prog 107 5 = some 5 := by kernel_rfl
@[go_sem] theorem sz114 : za9 Tryd.prog 114 = some 26 := by kernel_rfl
@[go_sem] theorem ag114 : aggT Tryd.prog 114 = some true := by kernel_rfl
@[go_sem] theorem ud114 : ud Tryd.prog 114 = .ar 26 9 := by kernel_rfl
@[go_sem] theorem ud116 : ud Tryd.prog 116 = .sl 9 := by kernel_rfl
@[go_sem] theorem ud117 : ud Tryd.prog 117 = .ar 13 9 := by kernel_rfl
@[go_sem] theorem ud134 : ud Tryd.prog 134 = .ar 2 9 := by kernel_rfl
@[go_sem] theorem zc134 : zbo Tryd.prog 134 = some [.lit (.string ByteArray.empty), .lit (.string ByteArray.empty)] := by kernel_rfl
@[go_sem] theorem ud135 : ud Tryd.prog 135 = .ar 7 104 := by kernel_rfl
end Go.Proofs.YtldnmmnnohnpkaaDoor.Abs
