/-
 Facts on the types of the translation, each by the kernel. Written by a program of mine (facts.py).
-/
import Derived.Test.YtncembphlfbgoaaDoorProg
import Derived.Test.YtncembphlfbgoaaDoorCFA20
import Derived.KernelRfl
namespace Go.Proofs.YtncembphlfbgoaaDoor.Abs
@[go_sem] theorem sz1:cB Tryd.prog 1=some 1:=by kernel_rfl
@[go_sem] theorem sz2:cB Tryd.prog 2=some 1:=by kernel_rfl
@[go_sem] theorem sz3:cB Tryd.prog 3=some 1:=by kernel_rfl
@[go_sem] theorem by3:(Tryd.prog.info? 3).map (·.bytes)=some 8:=by kernel_rfl
@[go_sem] theorem ag3:mL Tryd.prog 3=some false:=by kernel_rfl
@[go_sem] theorem ud3:ud Tryd.prog 3=.int .i64:=by kernel_rfl
@[go_sem] theorem zc3:dC Tryd.prog 3=some [.lit (.int .i64 0)]:=by kernel_rfl
@[go_sem] theorem sz4:cB Tryd.prog 4=some 1:=by kernel_rfl
@[go_sem] theorem ag4:mL Tryd.prog 4=some false:=by kernel_rfl
@[go_sem] theorem ub4:Tryd.prog.underlying 4=some TypeDesc.bool:=by kernel_rfl
@[go_sem] theorem zc4:dC Tryd.prog 4=some [.lit (.bool false)]:=by kernel_rfl
@[go_sem] theorem sz5:cB Tryd.prog 5=some 1:=by kernel_rfl
@[go_sem] theorem ud5:ud Tryd.prog 5=.int .u8:=by kernel_rfl
@[go_sem] theorem zc5:dC Tryd.prog 5=some [.lit (.int .u8 0)]:=by kernel_rfl
@[go_sem] theorem sz9:cB Tryd.prog 9=some 1:=by kernel_rfl
@[go_sem] theorem ag9:mL Tryd.prog 9=some false:=by kernel_rfl
@[go_sem] theorem ud9:ud Tryd.prog 9=.str:=by kernel_rfl
@[go_sem] theorem ud22:ud Tryd.prog 22=.sl 5:=by kernel_rfl
@[go_sem] theorem sz24:cB Tryd.prog 24=some 1:=by kernel_rfl
@[go_sem] theorem ag24:mL Tryd.prog 24=some false:=by kernel_rfl
@[go_sem] theorem ud24:ud Tryd.prog 24=.sl 35:=by kernel_rfl
@[go_sem] theorem sz26:cB Tryd.prog 26=some 1:=by kernel_rfl
@[go_sem] theorem ag26:mL Tryd.prog 26=some true:=by kernel_rfl
@[go_sem] theorem ud26:ud Tryd.prog 26=.st:=by kernel_rfl
@[go_sem] theorem zc26:dC Tryd.prog 26=some [.list .exact []]:=by kernel_rfl
@[go_sem] theorem sp26:nB Tryd.prog 26=some [(0,1)]:=by kernel_rfl
@[go_sem] theorem fo26_0:lM Tryd.prog 26 0=some 0:=by kernel_rfl
@[go_sem] theorem sz27:cB Tryd.prog 27=some 1:=by kernel_rfl
@[go_sem] theorem ag27:mL Tryd.prog 27=some false:=by kernel_rfl
@[go_sem] theorem sz32:cB Tryd.prog 32=some 1:=by kernel_rfl
@[go_sem] theorem ag32:mL Tryd.prog 32=some false:=by kernel_rfl
@[go_sem] theorem ud32:ud Tryd.prog 32=.sl 65:=by kernel_rfl
@[go_sem] theorem sz33:cB Tryd.prog 33=some 1:=by kernel_rfl
@[go_sem] theorem ag33:mL Tryd.prog 33=some false:=by kernel_rfl
@[go_sem] theorem ud33:ud Tryd.prog 33=.sl 43:=by kernel_rfl
@[go_sem] theorem EZ:cB Tryd.prog 35=some 6:=by kernel_rfl
@[go_sem] theorem by35:(Tryd.prog.info? 35).map (·.bytes)=some 88:=by kernel_rfl
@[go_sem] theorem ag35:mL Tryd.prog 35=some true:=by kernel_rfl
@[go_sem] theorem ud35:ud Tryd.prog 35=.st:=by kernel_rfl
@[go_sem] theorem zc35:dC Tryd.prog 35=some [.lit (.string ByteArray.empty),.lit (.bool false),.lit (.int .i64 0),.lit (.int .i64 0),.nilv,.nilv]:=by kernel_rfl
@[go_sem] theorem sp35:nB Tryd.prog 35=some [(0,1),(1,1),(2,1),(3,1),(4,1),(5,1)]:=by kernel_rfl
@[go_sem] theorem fo35_0:lM Tryd.prog 35 0=some 0:=by kernel_rfl
@[go_sem] theorem fo35_1:lM Tryd.prog 35 1=some 1:=by kernel_rfl
@[go_sem] theorem fo35_2:lM Tryd.prog 35 2=some 2:=by kernel_rfl
@[go_sem] theorem fo35_3:lM Tryd.prog 35 3=some 3:=by kernel_rfl
@[go_sem] theorem fo35_4:lM Tryd.prog 35 4=some 4:=by kernel_rfl
@[go_sem] theorem fo35_5:lM Tryd.prog 35 5=some 5:=by kernel_rfl
@[go_sem] theorem sz41:cB Tryd.prog 41=some 1:=by kernel_rfl
@[go_sem] theorem ag41:mL Tryd.prog 41=some false:=by kernel_rfl
@[go_sem] theorem ud41:ud Tryd.prog 41=.sl 105:=by kernel_rfl
@[go_sem] theorem sz43:cB Tryd.prog 43=some 7:=by kernel_rfl
@[go_sem] theorem by43:(Tryd.prog.info? 43).map (·.bytes)=some 112:=by kernel_rfl
@[go_sem] theorem ag43:mL Tryd.prog 43=some true:=by kernel_rfl
@[go_sem] theorem ud43:ud Tryd.prog 43=.st:=by kernel_rfl
@[go_sem] theorem zc43:dC Tryd.prog 43=some [.lit (.string ByteArray.empty),.lit (.int .i64 0),.lit (.int .i64 0),.list .exact [],.list .exact [],.list .exact [],.lit (.int .i64 0)]:=by kernel_rfl
@[go_sem] theorem sp43:nB Tryd.prog 43=some [(0,1),(1,1),(2,1),(3,1),(4,1),(5,1),(6,1)]:=by kernel_rfl
@[go_sem] theorem fo43_0:lM Tryd.prog 43 0=some 0:=by kernel_rfl
@[go_sem] theorem fo43_1:lM Tryd.prog 43 1=some 1:=by kernel_rfl
@[go_sem] theorem fo43_2:lM Tryd.prog 43 2=some 2:=by kernel_rfl
@[go_sem] theorem fo43_3:lM Tryd.prog 43 3=some 3:=by kernel_rfl
@[go_sem] theorem fo43_4:lM Tryd.prog 43 4=some 4:=by kernel_rfl
@[go_sem] theorem fo43_5:lM Tryd.prog 43 5=some 5:=by kernel_rfl
@[go_sem] theorem fo43_6:lM Tryd.prog 43 6=some 6:=by kernel_rfl
@[go_sem] theorem sz44:cB Tryd.prog 44=some 1:=by kernel_rfl
@[go_sem] theorem ag44:mL Tryd.prog 44=some false:=by kernel_rfl
@[go_sem] theorem ud44:ud Tryd.prog 44=.int .u32:=by kernel_rfl
@[go_sem] theorem sz45:cB Tryd.prog 45=some 1:=by kernel_rfl
@[go_sem] theorem ag45:mL Tryd.prog 45=some false:=by kernel_rfl
@[go_sem] theorem ud45:ud Tryd.prog 45=.sl 47:=by kernel_rfl
@[go_sem] theorem sz47:cB Tryd.prog 47=some 5:=by kernel_rfl
@[go_sem] theorem by47:(Tryd.prog.info? 47).map (·.bytes)=some 64:=by kernel_rfl
@[go_sem] theorem ag47:mL Tryd.prog 47=some true:=by kernel_rfl
@[go_sem] theorem ud47:ud Tryd.prog 47=.st:=by kernel_rfl
@[go_sem] theorem zc47:dC Tryd.prog 47=some [.lit (.int .i64 0),.lit (.int .i64 0),.lit (.string ByteArray.empty),.lit (.int .u32 0),.list .exact []]:=by kernel_rfl
@[go_sem] theorem sp47:nB Tryd.prog 47=some [(0,1),(1,1),(2,1),(3,1),(4,1)]:=by kernel_rfl
@[go_sem] theorem fo47_0:lM Tryd.prog 47 0=some 0:=by kernel_rfl
@[go_sem] theorem fo47_1:lM Tryd.prog 47 1=some 1:=by kernel_rfl
@[go_sem] theorem fo47_2:lM Tryd.prog 47 2=some 2:=by kernel_rfl
@[go_sem] theorem fo47_3:lM Tryd.prog 47 3=some 3:=by kernel_rfl
@[go_sem] theorem fo47_4:lM Tryd.prog 47 4=some 4:=by kernel_rfl
@[go_sem] theorem sz51:cB Tryd.prog 51=some 1:=by kernel_rfl
@[go_sem] theorem ag51:mL Tryd.prog 51=some false:=by kernel_rfl
@[go_sem] theorem sz52:cB Tryd.prog 52=some 1:=by kernel_rfl
@[go_sem] theorem by52:(Tryd.prog.info? 52).map (·.bytes)=some 24:=by kernel_rfl
@[go_sem] theorem ag52:mL Tryd.prog 52=some false:=by kernel_rfl
@[go_sem] theorem ud52:ud Tryd.prog 52=.sl 3:=by kernel_rfl
@[go_sem] theorem zc52:dC Tryd.prog 52=some [.list .exact []]:=by kernel_rfl
@[go_sem] theorem sz53:cB Tryd.prog 53=some 1:=by kernel_rfl
@[go_sem] theorem ag53:mL Tryd.prog 53=some false:=by kernel_rfl
@[go_sem] theorem ud53:ud Tryd.prog 53=.sl 52:=by kernel_rfl
@[go_sem] theorem ud55:ud Tryd.prog 55=.st:=by kernel_rfl
@[go_sem] theorem zc55:dC Tryd.prog 55=some [.list .exact [],.lit (.pointer none),.list .exact [],.list .exact [],.lit (.int .i64 0),.lit (.int .i64 0),.lit (.int .i64 0)]:=by kernel_rfl
@[go_sem] theorem sp55:nB Tryd.prog 55=some [(0,1),(1,1),(2,1),(3,1),(4,1),(5,1),(6,1)]:=by kernel_rfl
@[go_sem] theorem fo55_0:lM Tryd.prog 55 0=some 0:=by kernel_rfl
@[go_sem] theorem fo55_1:lM Tryd.prog 55 1=some 1:=by kernel_rfl
@[go_sem] theorem fo55_2:lM Tryd.prog 55 2=some 2:=by kernel_rfl
@[go_sem] theorem fo55_3:lM Tryd.prog 55 3=some 3:=by kernel_rfl
@[go_sem] theorem fo55_4:lM Tryd.prog 55 4=some 4:=by kernel_rfl
@[go_sem] theorem fo55_5:lM Tryd.prog 55 5=some 5:=by kernel_rfl
@[go_sem] theorem fo55_6:lM Tryd.prog 55 6=some 6:=by kernel_rfl
@[go_sem] theorem sz57:cB Tryd.prog 57=some 1:=by kernel_rfl
@[go_sem] theorem ag57:mL Tryd.prog 57=some false:=by kernel_rfl
@[go_sem] theorem zc57:dC Tryd.prog 57=some [.lit .nilFunc]:=by kernel_rfl
@[go_sem] theorem ud58:ud Tryd.prog 58=.sl 57:=by kernel_rfl
@[go_sem] theorem Cj:cB Tryd.prog 65=some 3:=by kernel_rfl
@[go_sem] theorem by65:(Tryd.prog.info? 65).map (·.bytes)=some 32:=by kernel_rfl
@[go_sem] theorem ag65:mL Tryd.prog 65=some true:=by kernel_rfl
@[go_sem] theorem ud65:ud Tryd.prog 65=.st:=by kernel_rfl
@[go_sem] theorem zc65:dC Tryd.prog 65=some [.lit (.string ByteArray.empty),.lit (.int .i64 0),.lit (.int .i64 0)]:=by kernel_rfl
@[go_sem] theorem sp65:nB Tryd.prog 65=some [(0,1),(1,1),(2,1)]:=by kernel_rfl
@[go_sem] theorem fo65_0:lM Tryd.prog 65 0=some 0:=by kernel_rfl
@[go_sem] theorem fo65_1:lM Tryd.prog 65 1=some 1:=by kernel_rfl
@[go_sem] theorem fo65_2:lM Tryd.prog 65 2=some 2:=by kernel_rfl
@[go_sem] theorem sz66:cB Tryd.prog 66=some 1:=by kernel_rfl
@[go_sem] theorem ag66:mL Tryd.prog 66=some false:=by kernel_rfl
@[go_sem] theorem ud66:ud Tryd.prog 66=.sl 74:=by kernel_rfl
@[go_sem] theorem sz69:cB Tryd.prog 69=some 1:=by kernel_rfl
@[go_sem] theorem ag69:mL Tryd.prog 69=some false:=by kernel_rfl
@[go_sem] theorem ud71:ud Tryd.prog 71=.st:=by kernel_rfl
@[go_sem] theorem zc71:dC Tryd.prog 71=some [.list .exact [],.lit (.int .i64 0),.lit (.int .i64 0),.lit (.int .i64 0),.lit (.int .i64 0)]:=by kernel_rfl
@[go_sem] theorem sp71:nB Tryd.prog 71=some [(0,1),(1,1),(2,1),(3,1),(4,1)]:=by kernel_rfl
@[go_sem] theorem fo71_0:lM Tryd.prog 71 0=some 0:=by kernel_rfl
@[go_sem] theorem fo71_1:lM Tryd.prog 71 1=some 1:=by kernel_rfl
@[go_sem] theorem fo71_2:lM Tryd.prog 71 2=some 2:=by kernel_rfl
@[go_sem] theorem fo71_3:lM Tryd.prog 71 3=some 3:=by kernel_rfl
@[go_sem] theorem fo71_4:lM Tryd.prog 71 4=some 4:=by kernel_rfl
@[go_sem] theorem sz74:cB Tryd.prog 74=some 4:=by kernel_rfl
@[go_sem] theorem by74:(Tryd.prog.info? 74).map (·.bytes)=some 40:=by kernel_rfl
@[go_sem] theorem ag74:mL Tryd.prog 74=some true:=by kernel_rfl
@[go_sem] theorem ud74:ud Tryd.prog 74=.st:=by kernel_rfl
@[go_sem] theorem zc74:dC Tryd.prog 74=some [.lit (.int .i64 0),.lit (.int .i64 0),.lit (.string ByteArray.empty),.lit (.int .u32 0)]:=by kernel_rfl
@[go_sem] theorem sp74:nB Tryd.prog 74=some [(0,1),(1,1),(2,1),(3,1)]:=by kernel_rfl
@[go_sem] theorem ft74_0:fdT Tryd.prog 74 0=some (3,0):=by kernel_rfl
@[go_sem] theorem fo74_0:lM Tryd.prog 74 0=some 0:=by kernel_rfl
@[go_sem] theorem ft74_1:fdT Tryd.prog 74 1=some (3,1):=by kernel_rfl
@[go_sem] theorem fo74_2:lM Tryd.prog 74 2=some 2:=by kernel_rfl
@[go_sem] theorem fo74_3:lM Tryd.prog 74 3=some 3:=by kernel_rfl
@[go_sem] theorem sz92:cB Tryd.prog 92=some 2:=by kernel_rfl
@[go_sem] theorem ag92:mL Tryd.prog 92=some true:=by kernel_rfl
@[go_sem] theorem zc92:dC Tryd.prog 92=some [.lit (.string ByteArray.empty),.lit (.int .i64 0)]:=by kernel_rfl
@[go_sem] theorem fo92_0:lM Tryd.prog 92 0=some 0:=by kernel_rfl
@[go_sem] theorem fo92_1:lM Tryd.prog 92 1=some 1:=by kernel_rfl
@[go_sem] theorem sz93:cB Tryd.prog 93=some 10:=by kernel_rfl
@[go_sem] theorem ag93:mL Tryd.prog 93=some true:=by kernel_rfl
@[go_sem] theorem ud93:ud Tryd.prog 93=.ar 5 92:=by kernel_rfl
@[go_sem] theorem sz102:cB Tryd.prog 102=some 3:=by kernel_rfl
@[go_sem] theorem ag102:mL Tryd.prog 102=some true:=by kernel_rfl
@[go_sem] theorem ud102:ud Tryd.prog 102=.ar 3 9:=by kernel_rfl
@[go_sem] theorem zc102:dC Tryd.prog 102=some [.lit (.string ByteArray.empty),.lit (.string ByteArray.empty),.lit (.string ByteArray.empty)]:=by kernel_rfl
@[go_sem] theorem sz105:cB Tryd.prog 105=some 6:=by kernel_rfl
@[go_sem] theorem by105:(Tryd.prog.info? 105).map (·.bytes)=some 72:=by kernel_rfl
@[go_sem] theorem ag105:mL Tryd.prog 105=some true:=by kernel_rfl
@[go_sem] theorem ud105:ud Tryd.prog 105=.st:=by kernel_rfl
@[go_sem] theorem zc105:dC Tryd.prog 105=some [.lit (.string ByteArray.empty),.lit (.int .i64 0),.lit (.int .u32 0),.lit (.int .i64 0),.list .exact [],.lit (.int .i64 0)]:=by kernel_rfl
@[go_sem] theorem sp105:nB Tryd.prog 105=some [(0,1),(1,1),(2,1),(3,1),(4,1),(5,1)]:=by kernel_rfl
@[go_sem] theorem fo105_0:lM Tryd.prog 105 0=some 0:=by kernel_rfl
@[go_sem] theorem fo105_1:lM Tryd.prog 105 1=some 1:=by kernel_rfl
@[go_sem] theorem fo105_2:lM Tryd.prog 105 2=some 2:=by kernel_rfl
@[go_sem] theorem fo105_3:lM Tryd.prog 105 3=some 3:=by kernel_rfl
@[go_sem] theorem fo105_4:lM Tryd.prog 105 4=some 4:=by kernel_rfl
@[go_sem] theorem fo105_5:lM Tryd.prog 105 5=some 5:=by kernel_rfl
@[go_sem] theorem sz112:cB Tryd.prog 112=some 26:=by kernel_rfl
@[go_sem] theorem ag112:mL Tryd.prog 112=some true:=by kernel_rfl
@[go_sem] theorem ud112:ud Tryd.prog 112=.ar 26 9:=by kernel_rfl
@[go_sem] theorem ud114:ud Tryd.prog 114=.sl 9:=by kernel_rfl
@[go_sem] theorem ud115:ud Tryd.prog 115=.ar 13 9:=by kernel_rfl
@[go_sem] theorem ud132:ud Tryd.prog 132=.ar 2 9:=by kernel_rfl
@[go_sem] theorem zc132:dC Tryd.prog 132=some [.lit (.string ByteArray.empty),.lit (.string ByteArray.empty)]:=by kernel_rfl
@[go_sem] theorem ud133:ud Tryd.prog 133=.ar 7 102:=by kernel_rfl
end Go.Proofs.YtncembphlfbgoaaDoor.Abs
