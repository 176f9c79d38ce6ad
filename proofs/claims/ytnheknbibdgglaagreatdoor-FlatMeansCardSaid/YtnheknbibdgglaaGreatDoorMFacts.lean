import Derived.Test.YtnheknbibdgglaaGreatDoorProg
import Derived.Test.YtnheknbibdgglaaGreatDoorMA20
import Derived.KernelRfl
set_option linter.all false
namespace Go.Proofs.YtnheknbibdgglaaGreatDoor.Abs
open Tryz
theorem sz1:cO prog 1=some 1:=zd
theorem sz2:cO prog 2=some 1:=zd
theorem Ty:cO prog 3=some 1:=zd
theorem by3:(prog.info? 3).map (·.bytes)=some 8:=zd
theorem ag3:oD prog 3=some false:=zd
theorem ud3:ud prog 3=.int .i64:=zd
theorem zc3:dK prog 3=some [.lit (.int .i64 0)]:=zd
theorem sz4:cO prog 4=some 1:=zd
theorem ag4:oD prog 4=some false:=zd
theorem ub4:prog.underlying 4=some TypeDesc.bool:=zd
theorem sz5:cO prog 5=some 1:=zd
theorem ud5:ud prog 5=.int .u8:=zd
theorem zc5:dK prog 5=some [.lit (.int .u8 0)]:=zd
theorem sz9:cO prog 9=some 1:=zd
theorem ag9:oD prog 9=some false:=zd
theorem ud9:ud prog 9=.str:=zd
theorem ud22:ud prog 22=.sl 5:=zd
theorem sz24:cO prog 24=some 1:=zd
theorem ag24:oD prog 24=some false:=zd
theorem ud24:ud prog 24=.sl 47:=zd
theorem sz25:cO prog 25=some 1:=zd
theorem ag25:oD prog 25=some false:=zd
theorem ud25:ud prog 25=.sl 88:=zd
theorem MY:cO prog 27=some 6:=zd
theorem by27:(prog.info? 27).map (·.bytes)=some 88:=zd
theorem ag27:oD prog 27=some true:=zd
theorem ud27:ud prog 27=.st:=zd
theorem zc27:dK prog 27=some [.lit (.string ByteArray.empty),.lit (.bool false),.lit (.int .i64 0),.lit (.int .i64 0),.nilv,.nilv]:=zd
theorem sp27:oZ prog 27=some [(0,1),(1,1),(2,1),(3,1),(4,1),(5,1)]:=zd
theorem fo27_0:kL prog 27 0=some 0:=zd
theorem fo27_1:kL prog 27 1=some 1:=zd
theorem fo27_2:kL prog 27 2=some 2:=zd
theorem fo27_3:kL prog 27 3=some 3:=zd
theorem fo27_4:kL prog 27 4=some 4:=zd
theorem fo27_5:kL prog 27 5=some 5:=zd
theorem sz28:cO prog 28=some 1:=zd
theorem ag28:oD prog 28=some false:=zd
theorem ud28:ud prog 28=.sl 27:=zd
theorem sz30:cO prog 30=some 1:=zd
theorem ag30:oD prog 30=some true:=zd
theorem ud30:ud prog 30=.st:=zd
theorem zc30:dK prog 30=some [.list .exact []]:=zd
theorem sp30:oZ prog 30=some [(0,1)]:=zd
theorem fo30_0:kL prog 30 0=some 0:=zd
theorem sz33:cO prog 33=some 1:=zd
theorem ag33:oD prog 33=some false:=zd
theorem ud33:ud prog 33=.sl 53:=zd
theorem sz34:cO prog 34=some 1:=zd
theorem by34:(prog.info? 34).map (·.bytes)=some 24:=zd
theorem ag34:oD prog 34=some false:=zd
theorem ud34:ud prog 34=.sl 3:=zd
theorem zc34:dK prog 34=some [.list .exact []]:=zd
theorem sz35:cO prog 35=some 1:=zd
theorem by35:(prog.info? 35).map (·.bytes)=some 24:=zd
theorem ag35:oD prog 35=some false:=zd
theorem ud35:ud prog 35=.sl 43:=zd
theorem zc35:dK prog 35=some [.list .exact []]:=zd
theorem sz38:cO prog 38=some 1:=zd
theorem ag38:oD prog 38=some false:=zd
theorem sz43:cO prog 43=some 1:=zd
theorem by43:(prog.info? 43).map (·.bytes)=some 4:=zd
theorem ag43:oD prog 43=some false:=zd
theorem ud43:ud prog 43=.int .u32:=zd
theorem zc43:dK prog 43=some [.lit (.int .u32 0)]:=zd
theorem Jl:cO prog 47=some 3:=zd
theorem by47:(prog.info? 47).map (·.bytes)=some 32:=zd
theorem ag47:oD prog 47=some true:=zd
theorem ud47:ud prog 47=.st:=zd
theorem zc47:dK prog 47=some [.lit (.string ByteArray.empty),.lit (.int .i64 0),.lit (.int .i64 0)]:=zd
theorem sp47:oZ prog 47=some [(0,1),(1,1),(2,1)]:=zd
theorem fo47_0:kL prog 47 0=some 0:=zd
theorem fo47_1:kL prog 47 1=some 1:=zd
theorem fo47_2:kL prog 47 2=some 2:=zd
theorem sz53:cO prog 53=some 3:=zd
theorem by53:(prog.info? 53).map (·.bytes)=some 40:=zd
theorem ag53:oD prog 53=some true:=zd
theorem ud53:ud prog 53=.st:=zd
theorem zc53:dK prog 53=some [.lit (.int .i64 0),.lit (.int .u32 0),.list .exact []]:=zd
theorem sp53:oZ prog 53=some [(0,1),(1,1),(2,1)]:=zd
theorem fo53_0:kL prog 53 0=some 0:=zd
theorem fo53_1:kL prog 53 1=some 1:=zd
theorem fo53_2:kL prog 53 2=some 2:=zd
theorem sz56:cO prog 56=some 1:=zd
theorem ag56:oD prog 56=some false:=zd
theorem ud56:ud prog 56=.sl 64:=zd
theorem sz57:cO prog 57=some 1:=zd
theorem ag57:oD prog 57=some false:=zd
theorem ud57:ud prog 57=.sl 35:=zd
theorem sz59:cO prog 59=some 2:=zd
theorem ag59:oD prog 59=some true:=zd
theorem fo59_0:kL prog 59 0=some 0:=zd
theorem fo59_1:kL prog 59 1=some 1:=zd
theorem sz64:cO prog 64=some 1:=zd
theorem by64:(prog.info? 64).map (·.bytes)=some 8:=zd
theorem ag64:oD prog 64=some false:=zd
theorem ud64:ud prog 64=.int .u64:=zd
theorem zc64:dK prog 64=some [.lit (.int .u64 0)]:=zd
theorem sz65:cO prog 65=some 1:=zd
theorem ag65:oD prog 65=some false:=zd
theorem ud65:ud prog 65=.sl 71:=zd
theorem sz67:cO prog 67=some 4:=zd
theorem ag67:oD prog 67=some true:=zd
theorem ud67:ud prog 67=.st:=zd
theorem zc67:dK prog 67=some [.lit (.int .i64 0),.lit (.int .u64 0),.list .exact [],.list .exact []]:=zd
theorem sp67:oZ prog 67=some [(0,1),(1,1),(2,1),(3,1)]:=zd
theorem fo67_0:kL prog 67 0=some 0:=zd
theorem fo67_1:kL prog 67 1=some 1:=zd
theorem fo67_2:kL prog 67 2=some 2:=zd
theorem fo67_3:kL prog 67 3=some 3:=zd
theorem sz71:cO prog 71=some 3:=zd
theorem by71:(prog.info? 71).map (·.bytes)=some 16:=zd
theorem ag71:oD prog 71=some true:=zd
theorem ud71:ud prog 71=.st:=zd
theorem zc71:dK prog 71=some [.lit (.int .i64 0),.lit (.int .u32 0),.lit (.int .u32 0)]:=zd
theorem sp71:oZ prog 71=some [(0,1),(1,1),(2,1)]:=zd
theorem sz86:cO prog 86=some 1:=zd
theorem ag86:oD prog 86=some false:=zd
theorem ud86:ud prog 86=.sl 91:=zd
theorem sz88:cO prog 88=some 7:=zd
theorem by88:(prog.info? 88).map (·.bytes)=some 112:=zd
theorem ag88:oD prog 88=some true:=zd
theorem ud88:ud prog 88=.st:=zd
theorem zc88:dK prog 88=some [.lit (.string ByteArray.empty),.lit (.int .i64 0),.lit (.int .i64 0),.list .exact [],.list .exact [],.list .exact [],.lit (.int .i64 0)]:=zd
theorem sp88:oZ prog 88=some [(0,1),(1,1),(2,1),(3,1),(4,1),(5,1),(6,1)]:=zd
theorem fo88_0:kL prog 88 0=some 0:=zd
theorem fo88_1:kL prog 88 1=some 1:=zd
theorem fo88_2:kL prog 88 2=some 2:=zd
theorem fo88_3:kL prog 88 3=some 3:=zd
theorem fo88_4:kL prog 88 4=some 4:=zd
theorem fo88_5:kL prog 88 5=some 5:=zd
theorem fo88_6:kL prog 88 6=some 6:=zd
theorem sz91:cO prog 91=some 6:=zd
theorem by91:(prog.info? 91).map (·.bytes)=some 72:=zd
theorem ag91:oD prog 91=some true:=zd
theorem ud91:ud prog 91=.st:=zd
theorem zc91:dK prog 91=some [.lit (.string ByteArray.empty),.lit (.int .i64 0),.lit (.int .u32 0),.lit (.int .i64 0),.list .exact [],.lit (.int .i64 0)]:=zd
theorem sp91:oZ prog 91=some [(0,1),(1,1),(2,1),(3,1),(4,1),(5,1)]:=zd
theorem fo91_0:kL prog 91 0=some 0:=zd
theorem fo91_1:kL prog 91 1=some 1:=zd
theorem fo91_2:kL prog 91 2=some 2:=zd
theorem fo91_3:kL prog 91 3=some 3:=zd
theorem fo91_4:kL prog 91 4=some 4:=zd
theorem fo91_5:kL prog 91 5=some 5:=zd
theorem sz93:cO prog 93=some 1:=zd
theorem ag93:oD prog 93=some false:=zd
theorem ud93:ud prog 93=.sl 95:=zd
theorem sz95:cO prog 95=some 5:=zd
theorem by95:(prog.info? 95).map (·.bytes)=some 64:=zd
theorem ag95:oD prog 95=some true:=zd
theorem ud95:ud prog 95=.st:=zd
theorem zc95:dK prog 95=some [.lit (.int .i64 0),.lit (.int .i64 0),.lit (.string ByteArray.empty),.lit (.int .u32 0),.list .exact []]:=zd
theorem sp95:oZ prog 95=some [(0,1),(1,1),(2,1),(3,1),(4,1)]:=zd
theorem fo95_0:kL prog 95 0=some 0:=zd
theorem fo95_1:kL prog 95 1=some 1:=zd
theorem fo95_2:kL prog 95 2=some 2:=zd
theorem fo95_3:kL prog 95 3=some 3:=zd
theorem fo95_4:kL prog 95 4=some 4:=zd
theorem sz99:cO prog 99=some 1:=zd
theorem ag99:oD prog 99=some false:=zd
theorem sz100:cO prog 100=some 1:=zd
theorem ag100:oD prog 100=some false:=zd
theorem ud100:ud prog 100=.sl 34:=zd
theorem ud102:ud prog 102=.st:=zd
theorem zc102:dK prog 102=some [.list .exact [],.lit (.pointer none),.list .exact [],.list .exact [],.lit (.int .i64 0),.lit (.int .i64 0),.lit (.int .i64 0)]:=zd
theorem sp102:oZ prog 102=some [(0,1),(1,1),(2,1),(3,1),(4,1),(5,1),(6,1)]:=zd
theorem fo102_0:kL prog 102 0=some 0:=zd
theorem fo102_1:kL prog 102 1=some 1:=zd
theorem fo102_2:kL prog 102 2=some 2:=zd
theorem fo102_3:kL prog 102 3=some 3:=zd
theorem fo102_4:kL prog 102 4=some 4:=zd
theorem fo102_5:kL prog 102 5=some 5:=zd
theorem fo102_6:kL prog 102 6=some 6:=zd
theorem sz104:cO prog 104=some 1:=zd
theorem ag104:oD prog 104=some false:=zd
theorem zc104:dK prog 104=some [.lit .nilFunc]:=zd
theorem ud105:ud prog 105=.sl 104:=zd
theorem ud110:ud prog 110=.st:=zd
theorem zc110:dK prog 110=some [.list .exact [],.lit (.string ByteArray.empty),.lit (.bool false),.lit (.int .i64 0),.lit (.int .i64 0),.list .exact [],.list .exact [],.lit (.int .i64 0),.lit (.int .i64 0)]:=zd
theorem sp110:oZ prog 110=some [(0,1),(1,6),(7,1),(8,1)]:=zd
theorem fo110_0:kL prog 110 0=some 0:=zd
theorem fo110_1:kL prog 110 1=some 1:=zd
theorem fo110_2:kL prog 110 2=some 7:=zd
theorem fo110_3:kL prog 110 3=some 8:=zd
theorem ud115:ud prog 115=.st:=zd
theorem zc115:dK prog 115=some [.lit (.string ByteArray.empty),.lit (.bool false),.lit (.int .i64 0),.lit (.int .i64 0),.list .exact [],.list .exact [],.list .exact [],.list .exact [],.lit (.int .u64 0)]:=zd
theorem sp115:oZ prog 115=some [(0,6),(6,1),(7,1),(8,1)]:=zd
theorem fo115_0:kL prog 115 0=some 0:=zd
theorem fo115_1:kL prog 115 1=some 6:=zd
theorem fo115_2:kL prog 115 2=some 7:=zd
theorem fo115_3:kL prog 115 3=some 8:=zd
theorem ud119:ud prog 119=.st:=zd
theorem zc119:dK prog 119=some [.list .exact [],.lit (.int .i64 0),.lit (.int .i64 0),.lit (.int .i64 0),.list .exact []]:=zd
theorem sp119:oZ prog 119=some [(0,1),(1,1),(2,1),(3,1),(4,1)]:=zd
theorem fo119_0:kL prog 119 0=some 0:=zd
theorem fo119_1:kL prog 119 1=some 1:=zd
theorem fo119_2:kL prog 119 2=some 2:=zd
theorem fo119_3:kL prog 119 3=some 3:=zd
theorem fo119_4:kL prog 119 4=some 4:=zd
theorem ud129:ud prog 129=.int .u64:=zd
theorem sz140:cO prog 140=some 1:=zd
theorem ag140:oD prog 140=some false:=zd
theorem ud140:ud prog 140=.sl 148:=zd
theorem sz143:cO prog 143=some 1:=zd
theorem ag143:oD prog 143=some false:=zd
theorem ud145:ud prog 145=.st:=zd
theorem zc145:dK prog 145=some [.list .exact [],.lit (.int .i64 0),.lit (.int .i64 0),.lit (.int .i64 0),.lit (.int .i64 0)]:=zd
theorem sp145:oZ prog 145=some [(0,1),(1,1),(2,1),(3,1),(4,1)]:=zd
theorem fo145_0:kL prog 145 0=some 0:=zd
theorem fo145_1:kL prog 145 1=some 1:=zd
theorem fo145_2:kL prog 145 2=some 2:=zd
theorem fo145_3:kL prog 145 3=some 3:=zd
theorem fo145_4:kL prog 145 4=some 4:=zd
theorem sz148:cO prog 148=some 4:=zd
theorem by148:(prog.info? 148).map (·.bytes)=some 40:=zd
theorem ag148:oD prog 148=some true:=zd
theorem ud148:ud prog 148=.st:=zd
theorem zc148:dK prog 148=some [.lit (.int .i64 0),.lit (.int .i64 0),.lit (.string ByteArray.empty),.lit (.int .u32 0)]:=zd
theorem sp148:oZ prog 148=some [(0,1),(1,1),(2,1),(3,1)]:=zd
theorem ft148_0:fdT prog 148 0=some (3,0):=zd
theorem fo148_0:kL prog 148 0=some 0:=zd
theorem ft148_1:fdT prog 148 1=some (3,1):=zd
theorem fo148_2:kL prog 148 2=some 2:=zd
theorem fo148_3:kL prog 148 3=some 3:=zd
theorem sz183:cO prog 183=some 2:=zd
theorem ag183:oD prog 183=some true:=zd
theorem zc183:dK prog 183=some [.lit (.string ByteArray.empty),.lit (.int .i64 0)]:=zd
theorem fo183_0:kL prog 183 0=some 0:=zd
theorem fo183_1:kL prog 183 1=some 1:=zd
theorem sz184:cO prog 184=some 10:=zd
theorem ag184:oD prog 184=some true:=zd
theorem ud184:ud prog 184=.ar 5 183:=zd
theorem sz208:cO prog 208=some 3:=zd
theorem ag208:oD prog 208=some true:=zd
theorem ud208:ud prog 208=.ar 3 9:=zd
theorem zc208:dK prog 208=some [.lit (.string ByteArray.empty),.lit (.string ByteArray.empty),.lit (.string ByteArray.empty)]:=zd
theorem sz231:cO prog 231=some 26:=zd
theorem ag231:oD prog 231=some true:=zd
theorem ud231:ud prog 231=.ar 26 9:=zd
theorem ud233:ud prog 233=.sl 9:=zd
theorem ud234:ud prog 234=.ar 13 9:=zd
theorem sz242:cO prog 242=some 2:=zd
theorem ag242:oD prog 242=some true:=zd
theorem zc242:dK prog 242=some [.lit (.string ByteArray.empty),.lit (.int .i64 0)]:=zd
theorem fo242_0:kL prog 242 0=some 0:=zd
theorem fo242_1:kL prog 242 1=some 1:=zd
theorem sz243:cO prog 243=some 30:=zd
theorem ag243:oD prog 243=some true:=zd
theorem ud243:ud prog 243=.ar 15 242:=zd
theorem ud258:ud prog 258=.ar 2 9:=zd
theorem zc258:dK prog 258=some [.lit (.string ByteArray.empty),.lit (.string ByteArray.empty)]:=zd
theorem ud259:ud prog 259=.ar 7 208:=zd
attribute [go_sem] sz1 sz2 Ty by3 ag3 ud3 zc3 sz4 ag4 ub4 sz5 ud5 zc5 sz9 ag9 ud9 ud22 sz24 ag24 ud24 sz25 ag25 ud25 MY by27 ag27 ud27 zc27 sp27 fo27_0 fo27_1 fo27_2 fo27_3 fo27_4 fo27_5 sz28 ag28 ud28 sz30 ag30 ud30 zc30 sp30 fo30_0 sz33 ag33 ud33 sz34 by34 ag34 ud34 zc34 sz35 by35 ag35 ud35 zc35 sz38 ag38 sz43 by43 ag43 ud43 zc43 Jl by47 ag47 ud47 zc47 sp47 fo47_0 fo47_1 fo47_2 sz53 by53 ag53 ud53 zc53 sp53 fo53_0 fo53_1 fo53_2 sz56 ag56 ud56 sz57 ag57 ud57 sz59 ag59 fo59_0 fo59_1 sz64 by64 ag64 ud64 zc64 sz65 ag65 ud65 sz67 ag67 ud67 zc67 sp67 fo67_0 fo67_1 fo67_2 fo67_3 sz71 by71 ag71 ud71 zc71 sp71 sz86 ag86 ud86 sz88 by88 ag88 ud88 zc88 sp88 fo88_0 fo88_1 fo88_2 fo88_3 fo88_4 fo88_5 fo88_6 sz91 by91 ag91 ud91 zc91 sp91 fo91_0 fo91_1 fo91_2 fo91_3 fo91_4 fo91_5 sz93 ag93 ud93 sz95 by95 ag95 ud95 zc95 sp95 fo95_0 fo95_1 fo95_2 fo95_3 fo95_4 sz99 ag99 sz100 ag100 ud100 ud102 zc102 sp102 fo102_0 fo102_1 fo102_2 fo102_3 fo102_4 fo102_5 fo102_6 sz104 ag104 zc104 ud105 ud110 zc110 sp110 fo110_0 fo110_1 fo110_2 fo110_3 ud115 zc115 sp115 fo115_0 fo115_1 fo115_2 fo115_3 ud119 zc119 sp119 fo119_0 fo119_1 fo119_2 fo119_3 fo119_4 ud129 sz140 ag140 ud140 sz143 ag143 ud145 zc145 sp145 fo145_0 fo145_1 fo145_2 fo145_3 fo145_4 sz148 by148 ag148 ud148 zc148 sp148 ft148_0 fo148_0 ft148_1 fo148_2 fo148_3 sz183 ag183 zc183 fo183_0 fo183_1 sz184 ag184 ud184 sz208 ag208 ud208 zc208 sz231 ag231 ud231 ud233 ud234 sz242 ag242 zc242 fo242_0 fo242_1 sz243 ag243 ud243 ud258 zc258 ud259
