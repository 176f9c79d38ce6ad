import Derived.Test.YtnheknbibdgglaaGreatDoorProg
import Derived.Test.YtnheknbibdgglaaGreatDoorTA20
import Derived.KernelRfl
set_option linter.all false
namespace Go.Proofs.YtnheknbibdgglaaGreatDoor.Abs
open Tryz
theorem sz1:bZ prog 1=some 1:=by kernel_rfl
theorem sz2:bZ prog 2=some 1:=by kernel_rfl
theorem UG:bZ prog 3=some 1:=by kernel_rfl
theorem by3:(prog.info? 3).map (·.bytes)=some 8:=by kernel_rfl
theorem ag3:pI prog 3=some false:=by kernel_rfl
theorem ud3:ud prog 3=.int .i64:=by kernel_rfl
theorem zc3:cT prog 3=some [.lit (.int .i64 0)]:=by kernel_rfl
theorem sz4:bZ prog 4=some 1:=by kernel_rfl
theorem ag4:pI prog 4=some false:=by kernel_rfl
theorem sz5:bZ prog 5=some 1:=by kernel_rfl
theorem ud5:ud prog 5=.int .u8:=by kernel_rfl
theorem zc5:cT prog 5=some [.lit (.int .u8 0)]:=by kernel_rfl
theorem sz9:bZ prog 9=some 1:=by kernel_rfl
theorem ag9:pI prog 9=some false:=by kernel_rfl
theorem ud9:ud prog 9=.str:=by kernel_rfl
theorem ud22:ud prog 22=.sl 5:=by kernel_rfl
theorem sz24:bZ prog 24=some 1:=by kernel_rfl
theorem ag24:pI prog 24=some false:=by kernel_rfl
theorem ud24:ud prog 24=.sl 47:=by kernel_rfl
theorem sz25:bZ prog 25=some 1:=by kernel_rfl
theorem ag25:pI prog 25=some false:=by kernel_rfl
theorem ud25:ud prog 25=.sl 88:=by kernel_rfl
theorem Oa:bZ prog 27=some 6:=by kernel_rfl
theorem by27:(prog.info? 27).map (·.bytes)=some 88:=by kernel_rfl
theorem ag27:pI prog 27=some true:=by kernel_rfl
theorem ud27:ud prog 27=.st:=by kernel_rfl
theorem zc27:cT prog 27=some [.lit (.string ByteArray.empty),.lit (.bool false),.lit (.int .i64 0),.lit (.int .i64 0),.nilv,.nilv]:=by kernel_rfl
theorem sp27:oQ prog 27=some [(0,1),(1,1),(2,1),(3,1),(4,1),(5,1)]:=by kernel_rfl
theorem fo27_0:kU prog 27 0=some 0:=by kernel_rfl
theorem fo27_1:kU prog 27 1=some 1:=by kernel_rfl
theorem fo27_2:kU prog 27 2=some 2:=by kernel_rfl
theorem fo27_3:kU prog 27 3=some 3:=by kernel_rfl
theorem fo27_4:kU prog 27 4=some 4:=by kernel_rfl
theorem fo27_5:kU prog 27 5=some 5:=by kernel_rfl
theorem sz28:bZ prog 28=some 1:=by kernel_rfl
theorem ag28:pI prog 28=some false:=by kernel_rfl
theorem ud28:ud prog 28=.sl 27:=by kernel_rfl
theorem sz30:bZ prog 30=some 1:=by kernel_rfl
theorem ag30:pI prog 30=some true:=by kernel_rfl
theorem ud30:ud prog 30=.st:=by kernel_rfl
theorem zc30:cT prog 30=some [.list .exact []]:=by kernel_rfl
theorem sp30:oQ prog 30=some [(0,1)]:=by kernel_rfl
theorem fo30_0:kU prog 30 0=some 0:=by kernel_rfl
theorem sz33:bZ prog 33=some 1:=by kernel_rfl
theorem ag33:pI prog 33=some false:=by kernel_rfl
theorem ud33:ud prog 33=.sl 53:=by kernel_rfl
theorem sz34:bZ prog 34=some 1:=by kernel_rfl
theorem by34:(prog.info? 34).map (·.bytes)=some 24:=by kernel_rfl
theorem ag34:pI prog 34=some false:=by kernel_rfl
theorem ud34:ud prog 34=.sl 3:=by kernel_rfl
theorem zc34:cT prog 34=some [.list .exact []]:=by kernel_rfl
theorem sz35:bZ prog 35=some 1:=by kernel_rfl
theorem ag35:pI prog 35=some false:=by kernel_rfl
theorem ud35:ud prog 35=.sl 43:=by kernel_rfl
theorem sz37:bZ prog 37=some 4:=by kernel_rfl
theorem ag37:pI prog 37=some true:=by kernel_rfl
theorem ud37:ud prog 37=.st:=by kernel_rfl
theorem zc37:cT prog 37=some [.list .exact [],.list .exact [],.list .exact [],.list .exact []]:=by kernel_rfl
theorem sp37:oQ prog 37=some [(0,1),(1,1),(2,1),(3,1)]:=by kernel_rfl
theorem fo37_0:kU prog 37 0=some 0:=by kernel_rfl
theorem fo37_1:kU prog 37 1=some 1:=by kernel_rfl
theorem fo37_2:kU prog 37 2=some 2:=by kernel_rfl
theorem fo37_3:kU prog 37 3=some 3:=by kernel_rfl
theorem sz38:bZ prog 38=some 1:=by kernel_rfl
theorem ag38:pI prog 38=some false:=by kernel_rfl
theorem sz42:bZ prog 42=some 1:=by kernel_rfl
theorem ag42:pI prog 42=some false:=by kernel_rfl
theorem ud42:ud prog 42=.sl 50:=by kernel_rfl
theorem sz43:bZ prog 43=some 1:=by kernel_rfl
theorem by43:(prog.info? 43).map (·.bytes)=some 4:=by kernel_rfl
theorem ag43:pI prog 43=some false:=by kernel_rfl
theorem ud43:ud prog 43=.int .u32:=by kernel_rfl
theorem zc43:cT prog 43=some [.lit (.int .u32 0)]:=by kernel_rfl
theorem ud45:ud prog 45=.st:=by kernel_rfl
theorem zc45:cT prog 45=some [.list .exact [],.list .exact [],.list .exact []]:=by kernel_rfl
theorem sp45:oQ prog 45=some [(0,1),(1,1),(2,1)]:=by kernel_rfl
theorem fo45_0:kU prog 45 0=some 0:=by kernel_rfl
theorem fo45_1:kU prog 45 1=some 1:=by kernel_rfl
theorem fo45_2:kU prog 45 2=some 2:=by kernel_rfl
theorem Kv:bZ prog 47=some 3:=by kernel_rfl
theorem by47:(prog.info? 47).map (·.bytes)=some 32:=by kernel_rfl
theorem ag47:pI prog 47=some true:=by kernel_rfl
theorem ud47:ud prog 47=.st:=by kernel_rfl
theorem zc47:cT prog 47=some [.lit (.string ByteArray.empty),.lit (.int .i64 0),.lit (.int .i64 0)]:=by kernel_rfl
theorem sp47:oQ prog 47=some [(0,1),(1,1),(2,1)]:=by kernel_rfl
theorem fo47_0:kU prog 47 0=some 0:=by kernel_rfl
theorem fo47_1:kU prog 47 1=some 1:=by kernel_rfl
theorem fo47_2:kU prog 47 2=some 2:=by kernel_rfl
theorem sz49:bZ prog 49=some 3:=by kernel_rfl
theorem by49:(prog.info? 49).map (·.bytes)=some 24:=by kernel_rfl
theorem ag49:pI prog 49=some true:=by kernel_rfl
theorem ud49:ud prog 49=.st:=by kernel_rfl
theorem zc49:cT prog 49=some [.lit (.int .i64 0),.lit (.int .u32 0),.lit (.int .i64 0)]:=by kernel_rfl
theorem sp49:oQ prog 49=some [(0,1),(1,1),(2,1)]:=by kernel_rfl
theorem fo49_0:kU prog 49 0=some 0:=by kernel_rfl
theorem fo49_1:kU prog 49 1=some 1:=by kernel_rfl
theorem fo49_2:kU prog 49 2=some 2:=by kernel_rfl
theorem sz50:bZ prog 50=some 1:=by kernel_rfl
theorem by50:(prog.info? 50).map (·.bytes)=some 24:=by kernel_rfl
theorem ag50:pI prog 50=some false:=by kernel_rfl
theorem ud50:ud prog 50=.sl 49:=by kernel_rfl
theorem zc50:cT prog 50=some [.list .exact []]:=by kernel_rfl
theorem sz53:bZ prog 53=some 3:=by kernel_rfl
theorem by53:(prog.info? 53).map (·.bytes)=some 40:=by kernel_rfl
theorem ag53:pI prog 53=some true:=by kernel_rfl
theorem ud53:ud prog 53=.st:=by kernel_rfl
theorem zc53:cT prog 53=some [.lit (.int .i64 0),.lit (.int .u32 0),.list .exact []]:=by kernel_rfl
theorem sp53:oQ prog 53=some [(0,1),(1,1),(2,1)]:=by kernel_rfl
theorem fo53_0:kU prog 53 0=some 0:=by kernel_rfl
theorem fo53_1:kU prog 53 1=some 1:=by kernel_rfl
theorem fo53_2:kU prog 53 2=some 2:=by kernel_rfl
theorem ud64:ud prog 64=.int .u64:=by kernel_rfl
theorem ud83:ud prog 83=.st:=by kernel_rfl
theorem zc83:cT prog 83=some [.list .exact [],.list .exact [],.list .exact [],.list .exact [],.lit (.int .i64 0)]:=by kernel_rfl
theorem sp83:oQ prog 83=some [(0,4),(4,1)]:=by kernel_rfl
theorem fo83_0:kU prog 83 0=some 0:=by kernel_rfl
theorem fo83_1:kU prog 83 1=some 4:=by kernel_rfl
theorem sz86:bZ prog 86=some 1:=by kernel_rfl
theorem ag86:pI prog 86=some false:=by kernel_rfl
theorem ud86:ud prog 86=.sl 91:=by kernel_rfl
theorem sz88:bZ prog 88=some 7:=by kernel_rfl
theorem by88:(prog.info? 88).map (·.bytes)=some 112:=by kernel_rfl
theorem ag88:pI prog 88=some true:=by kernel_rfl
theorem ud88:ud prog 88=.st:=by kernel_rfl
theorem zc88:cT prog 88=some [.lit (.string ByteArray.empty),.lit (.int .i64 0),.lit (.int .i64 0),.list .exact [],.list .exact [],.list .exact [],.lit (.int .i64 0)]:=by kernel_rfl
theorem sp88:oQ prog 88=some [(0,1),(1,1),(2,1),(3,1),(4,1),(5,1),(6,1)]:=by kernel_rfl
theorem fo88_0:kU prog 88 0=some 0:=by kernel_rfl
theorem fo88_1:kU prog 88 1=some 1:=by kernel_rfl
theorem fo88_2:kU prog 88 2=some 2:=by kernel_rfl
theorem fo88_3:kU prog 88 3=some 3:=by kernel_rfl
theorem fo88_4:kU prog 88 4=some 4:=by kernel_rfl
theorem fo88_5:kU prog 88 5=some 5:=by kernel_rfl
theorem fo88_6:kU prog 88 6=some 6:=by kernel_rfl
theorem sz91:bZ prog 91=some 6:=by kernel_rfl
theorem by91:(prog.info? 91).map (·.bytes)=some 72:=by kernel_rfl
theorem ag91:pI prog 91=some true:=by kernel_rfl
theorem ud91:ud prog 91=.st:=by kernel_rfl
theorem zc91:cT prog 91=some [.lit (.string ByteArray.empty),.lit (.int .i64 0),.lit (.int .u32 0),.lit (.int .i64 0),.list .exact [],.lit (.int .i64 0)]:=by kernel_rfl
theorem sp91:oQ prog 91=some [(0,1),(1,1),(2,1),(3,1),(4,1),(5,1)]:=by kernel_rfl
theorem fo91_0:kU prog 91 0=some 0:=by kernel_rfl
theorem fo91_1:kU prog 91 1=some 1:=by kernel_rfl
theorem fo91_2:kU prog 91 2=some 2:=by kernel_rfl
theorem fo91_3:kU prog 91 3=some 3:=by kernel_rfl
theorem fo91_4:kU prog 91 4=some 4:=by kernel_rfl
theorem fo91_5:kU prog 91 5=some 5:=by kernel_rfl
theorem sz93:bZ prog 93=some 1:=by kernel_rfl
theorem ag93:pI prog 93=some false:=by kernel_rfl
theorem ud93:ud prog 93=.sl 95:=by kernel_rfl
theorem sz95:bZ prog 95=some 5:=by kernel_rfl
theorem by95:(prog.info? 95).map (·.bytes)=some 64:=by kernel_rfl
theorem ag95:pI prog 95=some true:=by kernel_rfl
theorem ud95:ud prog 95=.st:=by kernel_rfl
theorem zc95:cT prog 95=some [.lit (.int .i64 0),.lit (.int .i64 0),.lit (.string ByteArray.empty),.lit (.int .u32 0),.list .exact []]:=by kernel_rfl
theorem sp95:oQ prog 95=some [(0,1),(1,1),(2,1),(3,1),(4,1)]:=by kernel_rfl
theorem fo95_0:kU prog 95 0=some 0:=by kernel_rfl
theorem fo95_1:kU prog 95 1=some 1:=by kernel_rfl
theorem fo95_2:kU prog 95 2=some 2:=by kernel_rfl
theorem fo95_3:kU prog 95 3=some 3:=by kernel_rfl
theorem fo95_4:kU prog 95 4=some 4:=by kernel_rfl
theorem sz99:bZ prog 99=some 1:=by kernel_rfl
theorem ag99:pI prog 99=some false:=by kernel_rfl
theorem sz100:bZ prog 100=some 1:=by kernel_rfl
theorem ag100:pI prog 100=some false:=by kernel_rfl
theorem ud100:ud prog 100=.sl 34:=by kernel_rfl
theorem ud102:ud prog 102=.st:=by kernel_rfl
theorem zc102:cT prog 102=some [.list .exact [],.lit (.pointer none),.list .exact [],.list .exact [],.lit (.int .i64 0),.lit (.int .i64 0),.lit (.int .i64 0)]:=by kernel_rfl
theorem sp102:oQ prog 102=some [(0,1),(1,1),(2,1),(3,1),(4,1),(5,1),(6,1)]:=by kernel_rfl
theorem fo102_0:kU prog 102 0=some 0:=by kernel_rfl
theorem fo102_1:kU prog 102 1=some 1:=by kernel_rfl
theorem fo102_2:kU prog 102 2=some 2:=by kernel_rfl
theorem fo102_3:kU prog 102 3=some 3:=by kernel_rfl
theorem fo102_4:kU prog 102 4=some 4:=by kernel_rfl
theorem fo102_5:kU prog 102 5=some 5:=by kernel_rfl
theorem fo102_6:kU prog 102 6=some 6:=by kernel_rfl
theorem sz104:bZ prog 104=some 1:=by kernel_rfl
theorem ag104:pI prog 104=some false:=by kernel_rfl
theorem zc104:cT prog 104=some [.lit .nilFunc]:=by kernel_rfl
theorem ud105:ud prog 105=.sl 104:=by kernel_rfl
theorem ud110:ud prog 110=.st:=by kernel_rfl
theorem zc110:cT prog 110=some [.list .exact [],.lit (.string ByteArray.empty),.lit (.bool false),.lit (.int .i64 0),.lit (.int .i64 0),.list .exact [],.list .exact [],.lit (.int .i64 0),.lit (.int .i64 0)]:=by kernel_rfl
theorem sp110:oQ prog 110=some [(0,1),(1,6),(7,1),(8,1)]:=by kernel_rfl
theorem fo110_0:kU prog 110 0=some 0:=by kernel_rfl
theorem fo110_1:kU prog 110 1=some 1:=by kernel_rfl
theorem fo110_2:kU prog 110 2=some 7:=by kernel_rfl
theorem fo110_3:kU prog 110 3=some 8:=by kernel_rfl
theorem ud129:ud prog 129=.int .u64:=by kernel_rfl
theorem sz140:bZ prog 140=some 1:=by kernel_rfl
theorem ag140:pI prog 140=some false:=by kernel_rfl
theorem ud140:ud prog 140=.sl 148:=by kernel_rfl
theorem sz143:bZ prog 143=some 1:=by kernel_rfl
theorem ag143:pI prog 143=some false:=by kernel_rfl
theorem ud145:ud prog 145=.st:=by kernel_rfl
theorem zc145:cT prog 145=some [.list .exact [],.lit (.int .i64 0),.lit (.int .i64 0),.lit (.int .i64 0),.lit (.int .i64 0)]:=by kernel_rfl
theorem sp145:oQ prog 145=some [(0,1),(1,1),(2,1),(3,1),(4,1)]:=by kernel_rfl
theorem fo145_0:kU prog 145 0=some 0:=by kernel_rfl
theorem fo145_1:kU prog 145 1=some 1:=by kernel_rfl
theorem fo145_2:kU prog 145 2=some 2:=by kernel_rfl
theorem fo145_3:kU prog 145 3=some 3:=by kernel_rfl
theorem fo145_4:kU prog 145 4=some 4:=by kernel_rfl
theorem sz148:bZ prog 148=some 4:=by kernel_rfl
theorem by148:(prog.info? 148).map (·.bytes)=some 40:=by kernel_rfl
theorem ag148:pI prog 148=some true:=by kernel_rfl
theorem ud148:ud prog 148=.st:=by kernel_rfl
theorem zc148:cT prog 148=some [.lit (.int .i64 0),.lit (.int .i64 0),.lit (.string ByteArray.empty),.lit (.int .u32 0)]:=by kernel_rfl
theorem sp148:oQ prog 148=some [(0,1),(1,1),(2,1),(3,1)]:=by kernel_rfl
theorem ft148_0:fdT prog 148 0=some (3,0):=by kernel_rfl
theorem fo148_0:kU prog 148 0=some 0:=by kernel_rfl
theorem ft148_1:fdT prog 148 1=some (3,1):=by kernel_rfl
theorem fo148_2:kU prog 148 2=some 2:=by kernel_rfl
theorem fo148_3:kU prog 148 3=some 3:=by kernel_rfl
theorem sz171:bZ prog 171=some 15:=by kernel_rfl
theorem ag171:pI prog 171=some true:=by kernel_rfl
theorem ud171:ud prog 171=.ar 15 9:=by kernel_rfl
theorem zc171:cT prog 171=some [.lit (.string ByteArray.empty),.lit (.string ByteArray.empty),.lit (.string ByteArray.empty),.lit (.string ByteArray.empty),.lit (.string ByteArray.empty),.lit (.string ByteArray.empty),.lit (.string ByteArray.empty),.lit (.string ByteArray.empty),.lit (.string ByteArray.empty),.lit (.string ByteArray.empty),.lit (.string ByteArray.empty),.lit (.string ByteArray.empty),.lit (.string ByteArray.empty),.lit (.string ByteArray.empty),.lit (.string ByteArray.empty)]:=by kernel_rfl
theorem sz183:bZ prog 183=some 2:=by kernel_rfl
theorem ag183:pI prog 183=some true:=by kernel_rfl
theorem zc183:cT prog 183=some [.lit (.string ByteArray.empty),.lit (.int .i64 0)]:=by kernel_rfl
theorem fo183_0:kU prog 183 0=some 0:=by kernel_rfl
theorem fo183_1:kU prog 183 1=some 1:=by kernel_rfl
theorem sz184:bZ prog 184=some 10:=by kernel_rfl
theorem ag184:pI prog 184=some true:=by kernel_rfl
theorem ud184:ud prog 184=.ar 5 183:=by kernel_rfl
theorem sz201:bZ prog 201=some 16:=by kernel_rfl
theorem ud201:ud prog 201=.ar 16 43:=by kernel_rfl
theorem zc201:cT prog 201=some [.lit (.int .u32 0),.lit (.int .u32 0),.lit (.int .u32 0),.lit (.int .u32 0),.lit (.int .u32 0),.lit (.int .u32 0),.lit (.int .u32 0),.lit (.int .u32 0),.lit (.int .u32 0),.lit (.int .u32 0),.lit (.int .u32 0),.lit (.int .u32 0),.lit (.int .u32 0),.lit (.int .u32 0),.lit (.int .u32 0),.lit (.int .u32 0)]:=by kernel_rfl
theorem sz208:bZ prog 208=some 3:=by kernel_rfl
theorem ag208:pI prog 208=some true:=by kernel_rfl
theorem ud208:ud prog 208=.ar 3 9:=by kernel_rfl
theorem zc208:cT prog 208=some [.lit (.string ByteArray.empty),.lit (.string ByteArray.empty),.lit (.string ByteArray.empty)]:=by kernel_rfl
theorem sz227:bZ prog 227=some 2:=by kernel_rfl
theorem ag227:pI prog 227=some true:=by kernel_rfl
theorem ud227:ud prog 227=.st:=by kernel_rfl
theorem zc227:cT prog 227=some [.lit (.int .u32 0),.lit (.int .u32 0)]:=by kernel_rfl
theorem sp227:oQ prog 227=some [(0,1),(1,1)]:=by kernel_rfl
theorem fo227_0:kU prog 227 0=some 0:=by kernel_rfl
theorem fo227_1:kU prog 227 1=some 1:=by kernel_rfl
theorem sz231:bZ prog 231=some 26:=by kernel_rfl
theorem ag231:pI prog 231=some true:=by kernel_rfl
theorem ud231:ud prog 231=.ar 26 9:=by kernel_rfl
theorem ud233:ud prog 233=.sl 9:=by kernel_rfl
theorem ud234:ud prog 234=.ar 13 9:=by kernel_rfl
theorem sz242:bZ prog 242=some 2:=by kernel_rfl
theorem ag242:pI prog 242=some true:=by kernel_rfl
theorem zc242:cT prog 242=some [.lit (.string ByteArray.empty),.lit (.int .i64 0)]:=by kernel_rfl
theorem fo242_0:kU prog 242 0=some 0:=by kernel_rfl
theorem fo242_1:kU prog 242 1=some 1:=by kernel_rfl
theorem sz243:bZ prog 243=some 30:=by kernel_rfl
theorem ag243:pI prog 243=some true:=by kernel_rfl
theorem ud243:ud prog 243=.ar 15 242:=by kernel_rfl
theorem ud258:ud prog 258=.ar 2 9:=by kernel_rfl
theorem zc258:cT prog 258=some [.lit (.string ByteArray.empty),.lit (.string ByteArray.empty)]:=by kernel_rfl
theorem ud259:ud prog 259=.ar 7 208:=by kernel_rfl
attribute [go_sem] sz1 sz2 UG by3 ag3 ud3 zc3 sz4 ag4 sz5 ud5 zc5 sz9 ag9 ud9 ud22 sz24 ag24 ud24 sz25 ag25 ud25 Oa by27 ag27 ud27 zc27 sp27 fo27_0 fo27_1 fo27_2 fo27_3 fo27_4 fo27_5 sz28 ag28 ud28 sz30 ag30 ud30 zc30 sp30 fo30_0 sz33 ag33 ud33 sz34 by34 ag34 ud34 zc34 sz35 ag35 ud35 sz37 ag37 ud37 zc37 sp37 fo37_0 fo37_1 fo37_2 fo37_3 sz38 ag38 sz42 ag42 ud42 sz43 by43 ag43 ud43 zc43 ud45 zc45 sp45 fo45_0 fo45_1 fo45_2 Kv by47 ag47 ud47 zc47 sp47 fo47_0 fo47_1 fo47_2 sz49 by49 ag49 ud49 zc49 sp49 fo49_0 fo49_1 fo49_2 sz50 by50 ag50 ud50 zc50 sz53 by53 ag53 ud53 zc53 sp53 fo53_0 fo53_1 fo53_2 ud64 ud83 zc83 sp83 fo83_0 fo83_1 sz86 ag86 ud86 sz88 by88 ag88 ud88 zc88 sp88 fo88_0 fo88_1 fo88_2 fo88_3 fo88_4 fo88_5 fo88_6 sz91 by91 ag91 ud91 zc91 sp91 fo91_0 fo91_1 fo91_2 fo91_3 fo91_4 fo91_5 sz93 ag93 ud93 sz95 by95 ag95 ud95 zc95 sp95 fo95_0 fo95_1 fo95_2 fo95_3 fo95_4 sz99 ag99 sz100 ag100 ud100 ud102 zc102 sp102 fo102_0 fo102_1 fo102_2 fo102_3 fo102_4 fo102_5 fo102_6 sz104 ag104 zc104 ud105 ud110 zc110 sp110 fo110_0 fo110_1 fo110_2 fo110_3 ud129 sz140 ag140 ud140 sz143 ag143 ud145 zc145 sp145 fo145_0 fo145_1 fo145_2 fo145_3 fo145_4 sz148 by148 ag148 ud148 zc148 sp148 ft148_0 fo148_0 ft148_1 fo148_2 fo148_3 sz171 ag171 ud171 zc171 sz183 ag183 zc183 fo183_0 fo183_1 sz184 ag184 ud184 sz201 ud201 zc201 sz208 ag208 ud208 zc208 sz227 ag227 ud227 zc227 sp227 fo227_0 fo227_1 sz231 ag231 ud231 ud233 ud234 sz242 ag242 zc242 fo242_0 fo242_1 sz243 ag243 ud243 ud258 zc258 ud259
