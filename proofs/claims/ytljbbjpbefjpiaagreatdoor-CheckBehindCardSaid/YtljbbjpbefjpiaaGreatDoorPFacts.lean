import Derived.Test.YtljbbjpbefjpiaaGreatDoorProg
import Derived.Test.YtljbbjpbefjpiaaGreatDoorPA20
import Derived.KernelRfl
set_option linter.all false
namespace Go.Proofs.YtljbbjpbefjpiaaGreatDoor.Abs
open Tryz
theorem sz1:cP prog 1=some 1:=by kernel_rfl
theorem sz2:cP prog 2=some 1:=by kernel_rfl
theorem EI:cP prog 3=some 1:=by kernel_rfl
theorem by3:(prog.info? 3).map (·.bytes)=some 8:=by kernel_rfl
theorem ag3:qG prog 3=some false:=by kernel_rfl
theorem ud3:ud prog 3=.int .i64:=by kernel_rfl
theorem zc3:eZ prog 3=some [.lit (.int .i64 0)]:=by kernel_rfl
theorem sz4:cP prog 4=some 1:=by kernel_rfl
theorem ag4:qG prog 4=some false:=by kernel_rfl
theorem sz5:cP prog 5=some 1:=by kernel_rfl
theorem by5:(prog.info? 5).map (·.bytes)=some 1:=by kernel_rfl
theorem ud5:ud prog 5=.int .u8:=by kernel_rfl
theorem zc5:eZ prog 5=some [.lit (.int .u8 0)]:=by kernel_rfl
theorem sz9:cP prog 9=some 1:=by kernel_rfl
theorem ag9:qG prog 9=some false:=by kernel_rfl
theorem ud9:ud prog 9=.str:=by kernel_rfl
theorem ud21:ud prog 21=.int .i32:=by kernel_rfl
theorem ud22:ud prog 22=.sl 5:=by kernel_rfl
theorem sz23:cP prog 23=some 1:=by kernel_rfl
theorem ag23:qG prog 23=some false:=by kernel_rfl
theorem ud23:ud prog 23=.int .u32:=by kernel_rfl
theorem sz25:cP prog 25=some 1:=by kernel_rfl
theorem ag25:qG prog 25=some false:=by kernel_rfl
theorem ud25:ud prog 25=.sl 42:=by kernel_rfl
theorem sz27:cP prog 27=some 1:=by kernel_rfl
theorem ag27:qG prog 27=some true:=by kernel_rfl
theorem ud27:ud prog 27=.st:=by kernel_rfl
theorem zc27:eZ prog 27=some [.list .exact []]:=by kernel_rfl
theorem sp27:rE prog 27=some [(0,1)]:=by kernel_rfl
theorem fo27_0:pL prog 27 0=some 0:=by kernel_rfl
theorem sz28:cP prog 28=some 1:=by kernel_rfl
theorem ag28:qG prog 28=some false:=by kernel_rfl
theorem ud34:ud prog 34=.sl 37:=by kernel_rfl
theorem sz37:cP prog 37=some 8:=by kernel_rfl
theorem by37:(prog.info? 37).map (·.bytes)=some 80:=by kernel_rfl
theorem ag37:qG prog 37=some true:=by kernel_rfl
theorem ud37:ud prog 37=.st:=by kernel_rfl
theorem zc37:eZ prog 37=some [.lit (.string ByteArray.empty),.lit (.string ByteArray.empty),.lit (.int .i64 0),.lit (.int .i64 0),.lit (.int .i64 0),.lit (.int .i64 0),.lit (.int .i64 0),.lit (.int .i64 0)]:=by kernel_rfl
theorem sp37:rE prog 37=some [(0,1),(1,1),(2,1),(3,1),(4,1),(5,1),(6,1),(7,1)]:=by kernel_rfl
theorem fo37_2:pL prog 37 2=some 2:=by kernel_rfl
theorem sz39:cP prog 39=some 1:=by kernel_rfl
theorem ag39:qG prog 39=some false:=by kernel_rfl
theorem ud39:ud prog 39=.sl 65:=by kernel_rfl
theorem sz40:cP prog 40=some 1:=by kernel_rfl
theorem ag40:qG prog 40=some false:=by kernel_rfl
theorem ud40:ud prog 40=.sl 45:=by kernel_rfl
theorem pR:cP prog 42=some 6:=by kernel_rfl
theorem by42:(prog.info? 42).map (·.bytes)=some 88:=by kernel_rfl
theorem ag42:qG prog 42=some true:=by kernel_rfl
theorem ud42:ud prog 42=.st:=by kernel_rfl
theorem zc42:eZ prog 42=some [.lit (.string ByteArray.empty),.lit (.bool false),.lit (.int .i64 0),.lit (.int .i64 0),.nilv,.nilv]:=by kernel_rfl
theorem sp42:rE prog 42=some [(0,1),(1,1),(2,1),(3,1),(4,1),(5,1)]:=by kernel_rfl
theorem fo42_0:pL prog 42 0=some 0:=by kernel_rfl
theorem fo42_1:pL prog 42 1=some 1:=by kernel_rfl
theorem fo42_2:pL prog 42 2=some 2:=by kernel_rfl
theorem fo42_3:pL prog 42 3=some 3:=by kernel_rfl
theorem fo42_4:pL prog 42 4=some 4:=by kernel_rfl
theorem fo42_5:pL prog 42 5=some 5:=by kernel_rfl
theorem sz43:cP prog 43=some 1:=by kernel_rfl
theorem ag43:qG prog 43=some false:=by kernel_rfl
theorem ud43:ud prog 43=.sl 101:=by kernel_rfl
theorem sz45:cP prog 45=some 7:=by kernel_rfl
theorem by45:(prog.info? 45).map (·.bytes)=some 112:=by kernel_rfl
theorem ag45:qG prog 45=some true:=by kernel_rfl
theorem ud45:ud prog 45=.st:=by kernel_rfl
theorem zc45:eZ prog 45=some [.lit (.string ByteArray.empty),.lit (.int .i64 0),.lit (.int .i64 0),.list .exact [],.list .exact [],.list .exact [],.lit (.int .i64 0)]:=by kernel_rfl
theorem sp45:rE prog 45=some [(0,1),(1,1),(2,1),(3,1),(4,1),(5,1),(6,1)]:=by kernel_rfl
theorem fo45_0:pL prog 45 0=some 0:=by kernel_rfl
theorem fo45_1:pL prog 45 1=some 1:=by kernel_rfl
theorem fo45_2:pL prog 45 2=some 2:=by kernel_rfl
theorem fo45_3:pL prog 45 3=some 3:=by kernel_rfl
theorem fo45_4:pL prog 45 4=some 4:=by kernel_rfl
theorem fo45_5:pL prog 45 5=some 5:=by kernel_rfl
theorem fo45_6:pL prog 45 6=some 6:=by kernel_rfl
theorem sz46:cP prog 46=some 1:=by kernel_rfl
theorem ag46:qG prog 46=some false:=by kernel_rfl
theorem ud46:ud prog 46=.sl 48:=by kernel_rfl
theorem sz48:cP prog 48=some 5:=by kernel_rfl
theorem by48:(prog.info? 48).map (·.bytes)=some 64:=by kernel_rfl
theorem ag48:qG prog 48=some true:=by kernel_rfl
theorem ud48:ud prog 48=.st:=by kernel_rfl
theorem zc48:eZ prog 48=some [.lit (.int .i64 0),.lit (.int .i64 0),.lit (.string ByteArray.empty),.lit (.int .u32 0),.list .exact []]:=by kernel_rfl
theorem sp48:rE prog 48=some [(0,1),(1,1),(2,1),(3,1),(4,1)]:=by kernel_rfl
theorem fo48_0:pL prog 48 0=some 0:=by kernel_rfl
theorem fo48_1:pL prog 48 1=some 1:=by kernel_rfl
theorem fo48_2:pL prog 48 2=some 2:=by kernel_rfl
theorem fo48_3:pL prog 48 3=some 3:=by kernel_rfl
theorem fo48_4:pL prog 48 4=some 4:=by kernel_rfl
theorem sz52:cP prog 52=some 1:=by kernel_rfl
theorem ag52:qG prog 52=some false:=by kernel_rfl
theorem uI:cP prog 53=some 1:=by kernel_rfl
theorem by53:(prog.info? 53).map (·.bytes)=some 24:=by kernel_rfl
theorem ag53:qG prog 53=some false:=by kernel_rfl
theorem ud53:ud prog 53=.sl 3:=by kernel_rfl
theorem zc53:eZ prog 53=some [.list .exact []]:=by kernel_rfl
theorem sz54:cP prog 54=some 1:=by kernel_rfl
theorem ag54:qG prog 54=some false:=by kernel_rfl
theorem ud54:ud prog 54=.sl 53:=by kernel_rfl
theorem ud56:ud prog 56=.st:=by kernel_rfl
theorem zc56:eZ prog 56=some [.list .exact [],.lit (.pointer none),.list .exact [],.list .exact [],.lit (.int .i64 0),.lit (.int .i64 0),.lit (.int .i64 0)]:=by kernel_rfl
theorem sp56:rE prog 56=some [(0,1),(1,1),(2,1),(3,1),(4,1),(5,1),(6,1)]:=by kernel_rfl
theorem fo56_0:pL prog 56 0=some 0:=by kernel_rfl
theorem fo56_1:pL prog 56 1=some 1:=by kernel_rfl
theorem fo56_2:pL prog 56 2=some 2:=by kernel_rfl
theorem fo56_3:pL prog 56 3=some 3:=by kernel_rfl
theorem fo56_4:pL prog 56 4=some 4:=by kernel_rfl
theorem fo56_5:pL prog 56 5=some 5:=by kernel_rfl
theorem fo56_6:pL prog 56 6=some 6:=by kernel_rfl
theorem sz58:cP prog 58=some 1:=by kernel_rfl
theorem ag58:qG prog 58=some false:=by kernel_rfl
theorem zc58:eZ prog 58=some [.lit .nilFunc]:=by kernel_rfl
theorem ud59:ud prog 59=.sl 58:=by kernel_rfl
theorem sU:cP prog 65=some 3:=by kernel_rfl
theorem by65:(prog.info? 65).map (·.bytes)=some 32:=by kernel_rfl
theorem ag65:qG prog 65=some true:=by kernel_rfl
theorem ud65:ud prog 65=.st:=by kernel_rfl
theorem zc65:eZ prog 65=some [.lit (.string ByteArray.empty),.lit (.int .i64 0),.lit (.int .i64 0)]:=by kernel_rfl
theorem sp65:rE prog 65=some [(0,1),(1,1),(2,1)]:=by kernel_rfl
theorem fo65_0:pL prog 65 0=some 0:=by kernel_rfl
theorem fo65_1:pL prog 65 1=some 1:=by kernel_rfl
theorem fo65_2:pL prog 65 2=some 2:=by kernel_rfl
theorem sz67:cP prog 67=some 1:=by kernel_rfl
theorem ag67:qG prog 67=some false:=by kernel_rfl
theorem ud67:ud prog 67=.sl 75:=by kernel_rfl
theorem sz70:cP prog 70=some 1:=by kernel_rfl
theorem ag70:qG prog 70=some false:=by kernel_rfl
theorem ud72:ud prog 72=.st:=by kernel_rfl
theorem zc72:eZ prog 72=some [.list .exact [],.lit (.int .i64 0),.lit (.int .i64 0),.lit (.int .i64 0),.lit (.int .i64 0)]:=by kernel_rfl
theorem sp72:rE prog 72=some [(0,1),(1,1),(2,1),(3,1),(4,1)]:=by kernel_rfl
theorem fo72_0:pL prog 72 0=some 0:=by kernel_rfl
theorem fo72_1:pL prog 72 1=some 1:=by kernel_rfl
theorem fo72_2:pL prog 72 2=some 2:=by kernel_rfl
theorem fo72_3:pL prog 72 3=some 3:=by kernel_rfl
theorem fo72_4:pL prog 72 4=some 4:=by kernel_rfl
theorem sz75:cP prog 75=some 4:=by kernel_rfl
theorem by75:(prog.info? 75).map (·.bytes)=some 40:=by kernel_rfl
theorem ag75:qG prog 75=some true:=by kernel_rfl
theorem ud75:ud prog 75=.st:=by kernel_rfl
theorem zc75:eZ prog 75=some [.lit (.int .i64 0),.lit (.int .i64 0),.lit (.string ByteArray.empty),.lit (.int .u32 0)]:=by kernel_rfl
theorem sp75:rE prog 75=some [(0,1),(1,1),(2,1),(3,1)]:=by kernel_rfl
theorem ft75_0:fdT prog 75 0=some (3,0):=by kernel_rfl
theorem fo75_0:pL prog 75 0=some 0:=by kernel_rfl
theorem ft75_1:fdT prog 75 1=some (3,1):=by kernel_rfl
theorem fo75_2:pL prog 75 2=some 2:=by kernel_rfl
theorem fo75_3:pL prog 75 3=some 3:=by kernel_rfl
theorem sz95:cP prog 95=some 2:=by kernel_rfl
theorem ag95:qG prog 95=some true:=by kernel_rfl
theorem zc95:eZ prog 95=some [.lit (.string ByteArray.empty),.lit (.int .i64 0)]:=by kernel_rfl
theorem fo95_0:pL prog 95 0=some 0:=by kernel_rfl
theorem fo95_1:pL prog 95 1=some 1:=by kernel_rfl
theorem sz96:cP prog 96=some 10:=by kernel_rfl
theorem ag96:qG prog 96=some true:=by kernel_rfl
theorem ud96:ud prog 96=.ar 5 95:=by kernel_rfl
theorem sz101:cP prog 101=some 6:=by kernel_rfl
theorem by101:(prog.info? 101).map (·.bytes)=some 72:=by kernel_rfl
theorem ag101:qG prog 101=some true:=by kernel_rfl
theorem ud101:ud prog 101=.st:=by kernel_rfl
theorem zc101:eZ prog 101=some [.lit (.string ByteArray.empty),.lit (.int .i64 0),.lit (.int .u32 0),.lit (.int .i64 0),.list .exact [],.lit (.int .i64 0)]:=by kernel_rfl
theorem sp101:rE prog 101=some [(0,1),(1,1),(2,1),(3,1),(4,1),(5,1)]:=by kernel_rfl
theorem fo101_0:pL prog 101 0=some 0:=by kernel_rfl
theorem fo101_1:pL prog 101 1=some 1:=by kernel_rfl
theorem fo101_2:pL prog 101 2=some 2:=by kernel_rfl
theorem fo101_3:pL prog 101 3=some 3:=by kernel_rfl
theorem fo101_4:pL prog 101 4=some 4:=by kernel_rfl
theorem fo101_5:pL prog 101 5=some 5:=by kernel_rfl
theorem sz108:cP prog 108=some 3:=by kernel_rfl
theorem ag108:qG prog 108=some true:=by kernel_rfl
theorem ud108:ud prog 108=.ar 3 9:=by kernel_rfl
theorem zc108:eZ prog 108=some [.lit (.string ByteArray.empty),.lit (.string ByteArray.empty),.lit (.string ByteArray.empty)]:=by kernel_rfl
theorem sz116:cP prog 116=some 26:=by kernel_rfl
theorem ag116:qG prog 116=some true:=by kernel_rfl
theorem ud116:ud prog 116=.ar 26 9:=by kernel_rfl
theorem ud118:ud prog 118=.sl 9:=by kernel_rfl
theorem ud119:ud prog 119=.ar 13 9:=by kernel_rfl
theorem ud136:ud prog 136=.ar 2 9:=by kernel_rfl
theorem zc136:eZ prog 136=some [.lit (.string ByteArray.empty),.lit (.string ByteArray.empty)]:=by kernel_rfl
theorem ud137:ud prog 137=.ar 7 108:=by kernel_rfl
attribute [go_sem] sz1 sz2 EI by3 ag3 ud3 zc3 sz4 ag4 sz5 by5 ud5 zc5 sz9 ag9 ud9 ud21 ud22 sz23 ag23 ud23 sz25 ag25 ud25 sz27 ag27 ud27 zc27 sp27 fo27_0 sz28 ag28 ud34 sz37 by37 ag37 ud37 zc37 sp37 fo37_2 sz39 ag39 ud39 sz40 ag40 ud40 pR by42 ag42 ud42 zc42 sp42 fo42_0 fo42_1 fo42_2 fo42_3 fo42_4 fo42_5 sz43 ag43 ud43 sz45 by45 ag45 ud45 zc45 sp45 fo45_0 fo45_1 fo45_2 fo45_3 fo45_4 fo45_5 fo45_6 sz46 ag46 ud46 sz48 by48 ag48 ud48 zc48 sp48 fo48_0 fo48_1 fo48_2 fo48_3 fo48_4 sz52 ag52 uI by53 ag53 ud53 zc53 sz54 ag54 ud54 ud56 zc56 sp56 fo56_0 fo56_1 fo56_2 fo56_3 fo56_4 fo56_5 fo56_6 sz58 ag58 zc58 ud59 sU by65 ag65 ud65 zc65 sp65 fo65_0 fo65_1 fo65_2 sz67 ag67 ud67 sz70 ag70 ud72 zc72 sp72 fo72_0 fo72_1 fo72_2 fo72_3 fo72_4 sz75 by75 ag75 ud75 zc75 sp75 ft75_0 fo75_0 ft75_1 fo75_2 fo75_3 sz95 ag95 zc95 fo95_0 fo95_1 sz96 ag96 ud96 sz101 by101 ag101 ud101 zc101 sp101 fo101_0 fo101_1 fo101_2 fo101_3 fo101_4 fo101_5 sz108 ag108 ud108 zc108 sz116 ag116 ud116 ud118 ud119 ud136 zc136 ud137
