import Derived.Test.YtnnomaboaiokeaaGreatDoorProg
import Derived.Test.YtnnomaboaiokeaaGreatDoorIA20
import Derived.KernelRfl
set_option linter.all false
namespace Go.Proofs.YtnnomaboaiokeaaGreatDoor.Abs
open Tryz
theorem sz1:cE prog 1=some 1:=by kernel_rfl
theorem sz2:cE prog 2=some 1:=by kernel_rfl
theorem ud2:ud prog 2=.int .i64:=by kernel_rfl
theorem Hj:cE prog 3=some 1:=by kernel_rfl
theorem by3:(prog.info? 3).map (·.bytes)=some 8:=by kernel_rfl
theorem ag3:pS prog 3=some false:=by kernel_rfl
theorem ud3:ud prog 3=.int .i64:=by kernel_rfl
theorem zc3:cY prog 3=some [.lit (.int .i64 0)]:=by kernel_rfl
theorem sz4:cE prog 4=some 1:=by kernel_rfl
theorem ag4:pS prog 4=some false:=by kernel_rfl
theorem sz5:cE prog 5=some 1:=by kernel_rfl
theorem ud5:ud prog 5=.int .u8:=by kernel_rfl
theorem zc5:cY prog 5=some [.lit (.int .u8 0)]:=by kernel_rfl
theorem sz9:cE prog 9=some 1:=by kernel_rfl
theorem ag9:pS prog 9=some false:=by kernel_rfl
theorem ud9:ud prog 9=.str:=by kernel_rfl
theorem ud22:ud prog 22=.sl 5:=by kernel_rfl
theorem sz24:cE prog 24=some 1:=by kernel_rfl
theorem ag24:pS prog 24=some false:=by kernel_rfl
theorem ud24:ud prog 24=.sl 47:=by kernel_rfl
theorem sz25:cE prog 25=some 1:=by kernel_rfl
theorem ag25:pS prog 25=some false:=by kernel_rfl
theorem ud25:ud prog 25=.sl 109:=by kernel_rfl
theorem qQ:cE prog 27=some 6:=by kernel_rfl
theorem by27:(prog.info? 27).map (·.bytes)=some 88:=by kernel_rfl
theorem ag27:pS prog 27=some true:=by kernel_rfl
theorem ud27:ud prog 27=.st:=by kernel_rfl
theorem zc27:cY prog 27=some [.lit (.string ByteArray.empty),.lit (.bool false),.lit (.int .i64 0),.lit (.int .i64 0),.nilv,.nilv]:=by kernel_rfl
theorem sp27:pU prog 27=some [(0,1),(1,1),(2,1),(3,1),(4,1),(5,1)]:=by kernel_rfl
theorem fo27_0:mG prog 27 0=some 0:=by kernel_rfl
theorem fo27_1:mG prog 27 1=some 1:=by kernel_rfl
theorem fo27_2:mG prog 27 2=some 2:=by kernel_rfl
theorem fo27_3:mG prog 27 3=some 3:=by kernel_rfl
theorem fo27_4:mG prog 27 4=some 4:=by kernel_rfl
theorem fo27_5:mG prog 27 5=some 5:=by kernel_rfl
theorem sz28:cE prog 28=some 1:=by kernel_rfl
theorem ag28:pS prog 28=some false:=by kernel_rfl
theorem ud28:ud prog 28=.sl 27:=by kernel_rfl
theorem sz30:cE prog 30=some 1:=by kernel_rfl
theorem ag30:pS prog 30=some true:=by kernel_rfl
theorem ud30:ud prog 30=.st:=by kernel_rfl
theorem zc30:cY prog 30=some [.list .exact []]:=by kernel_rfl
theorem sp30:pU prog 30=some [(0,1)]:=by kernel_rfl
theorem fo30_0:mG prog 30 0=some 0:=by kernel_rfl
theorem sz33:cE prog 33=some 1:=by kernel_rfl
theorem ag33:pS prog 33=some false:=by kernel_rfl
theorem ud33:ud prog 33=.sl 53:=by kernel_rfl
theorem vY:cE prog 34=some 1:=by kernel_rfl
theorem by34:(prog.info? 34).map (·.bytes)=some 24:=by kernel_rfl
theorem ag34:pS prog 34=some false:=by kernel_rfl
theorem ud34:ud prog 34=.sl 3:=by kernel_rfl
theorem zc34:cY prog 34=some [.list .exact []]:=by kernel_rfl
theorem sz35:cE prog 35=some 1:=by kernel_rfl
theorem ag35:pS prog 35=some false:=by kernel_rfl
theorem ud35:ud prog 35=.sl 43:=by kernel_rfl
theorem sz37:cE prog 37=some 4:=by kernel_rfl
theorem ag37:pS prog 37=some true:=by kernel_rfl
theorem ud37:ud prog 37=.st:=by kernel_rfl
theorem zc37:cY prog 37=some [.list .exact [],.list .exact [],.list .exact [],.list .exact []]:=by kernel_rfl
theorem sp37:pU prog 37=some [(0,1),(1,1),(2,1),(3,1)]:=by kernel_rfl
theorem fo37_0:mG prog 37 0=some 0:=by kernel_rfl
theorem fo37_1:mG prog 37 1=some 1:=by kernel_rfl
theorem fo37_2:mG prog 37 2=some 2:=by kernel_rfl
theorem fo37_3:mG prog 37 3=some 3:=by kernel_rfl
theorem sz38:cE prog 38=some 1:=by kernel_rfl
theorem ag38:pS prog 38=some false:=by kernel_rfl
theorem sz43:cE prog 43=some 1:=by kernel_rfl
theorem by43:(prog.info? 43).map (·.bytes)=some 4:=by kernel_rfl
theorem ag43:pS prog 43=some false:=by kernel_rfl
theorem ud43:ud prog 43=.int .u32:=by kernel_rfl
theorem zc43:cY prog 43=some [.lit (.int .u32 0)]:=by kernel_rfl
theorem uJ:cE prog 47=some 3:=by kernel_rfl
theorem by47:(prog.info? 47).map (·.bytes)=some 32:=by kernel_rfl
theorem ag47:pS prog 47=some true:=by kernel_rfl
theorem ud47:ud prog 47=.st:=by kernel_rfl
theorem zc47:cY prog 47=some [.lit (.string ByteArray.empty),.lit (.int .i64 0),.lit (.int .i64 0)]:=by kernel_rfl
theorem sp47:pU prog 47=some [(0,1),(1,1),(2,1)]:=by kernel_rfl
theorem fo47_0:mG prog 47 0=some 0:=by kernel_rfl
theorem fo47_1:mG prog 47 1=some 1:=by kernel_rfl
theorem fo47_2:mG prog 47 2=some 2:=by kernel_rfl
theorem sz53:cE prog 53=some 3:=by kernel_rfl
theorem by53:(prog.info? 53).map (·.bytes)=some 40:=by kernel_rfl
theorem ag53:pS prog 53=some true:=by kernel_rfl
theorem ud53:ud prog 53=.st:=by kernel_rfl
theorem zc53:cY prog 53=some [.lit (.int .i64 0),.lit (.int .u32 0),.list .exact []]:=by kernel_rfl
theorem sp53:pU prog 53=some [(0,1),(1,1),(2,1)]:=by kernel_rfl
theorem fo53_0:mG prog 53 0=some 0:=by kernel_rfl
theorem fo53_1:mG prog 53 1=some 1:=by kernel_rfl
theorem fo53_2:mG prog 53 2=some 2:=by kernel_rfl
theorem sz56:cE prog 56=some 1:=by kernel_rfl
theorem ag56:pS prog 56=some false:=by kernel_rfl
theorem ud56:ud prog 56=.sl 59:=by kernel_rfl
theorem sz59:cE prog 59=some 6:=by kernel_rfl
theorem by59:(prog.info? 59).map (·.bytes)=some 72:=by kernel_rfl
theorem ag59:pS prog 59=some true:=by kernel_rfl
theorem ud59:ud prog 59=.st:=by kernel_rfl
theorem zc59:cY prog 59=some [.lit (.string ByteArray.empty),.lit (.int .i64 0),.lit (.int .u32 0),.lit (.int .i64 0),.list .exact [],.lit (.int .i64 0)]:=by kernel_rfl
theorem sp59:pU prog 59=some [(0,1),(1,1),(2,1),(3,1),(4,1),(5,1)]:=by kernel_rfl
theorem fo59_0:mG prog 59 0=some 0:=by kernel_rfl
theorem fo59_1:mG prog 59 1=some 1:=by kernel_rfl
theorem fo59_2:mG prog 59 2=some 2:=by kernel_rfl
theorem fo59_3:mG prog 59 3=some 3:=by kernel_rfl
theorem fo59_4:mG prog 59 4=some 4:=by kernel_rfl
theorem fo59_5:mG prog 59 5=some 5:=by kernel_rfl
theorem ud86:ud prog 86=.int .u64:=by kernel_rfl
theorem ud105:ud prog 105=.st:=by kernel_rfl
theorem zc105:cY prog 105=some [.list .exact [],.list .exact [],.list .exact [],.list .exact [],.lit (.int .i64 0)]:=by kernel_rfl
theorem sp105:pU prog 105=some [(0,4),(4,1)]:=by kernel_rfl
theorem fo105_0:mG prog 105 0=some 0:=by kernel_rfl
theorem fo105_1:mG prog 105 1=some 4:=by kernel_rfl
theorem sz109:cE prog 109=some 7:=by kernel_rfl
theorem by109:(prog.info? 109).map (·.bytes)=some 112:=by kernel_rfl
theorem ag109:pS prog 109=some true:=by kernel_rfl
theorem ud109:ud prog 109=.st:=by kernel_rfl
theorem zc109:cY prog 109=some [.lit (.string ByteArray.empty),.lit (.int .i64 0),.lit (.int .i64 0),.list .exact [],.list .exact [],.list .exact [],.lit (.int .i64 0)]:=by kernel_rfl
theorem sp109:pU prog 109=some [(0,1),(1,1),(2,1),(3,1),(4,1),(5,1),(6,1)]:=by kernel_rfl
theorem fo109_0:mG prog 109 0=some 0:=by kernel_rfl
theorem fo109_1:mG prog 109 1=some 1:=by kernel_rfl
theorem fo109_2:mG prog 109 2=some 2:=by kernel_rfl
theorem fo109_3:mG prog 109 3=some 3:=by kernel_rfl
theorem fo109_4:mG prog 109 4=some 4:=by kernel_rfl
theorem fo109_5:mG prog 109 5=some 5:=by kernel_rfl
theorem fo109_6:mG prog 109 6=some 6:=by kernel_rfl
theorem sz139:cE prog 139=some 1:=by kernel_rfl
theorem ag139:pS prog 139=some false:=by kernel_rfl
theorem ud139:ud prog 139=.sl 141:=by kernel_rfl
theorem sz141:cE prog 141=some 5:=by kernel_rfl
theorem by141:(prog.info? 141).map (·.bytes)=some 64:=by kernel_rfl
theorem ag141:pS prog 141=some true:=by kernel_rfl
theorem ud141:ud prog 141=.st:=by kernel_rfl
theorem zc141:cY prog 141=some [.lit (.int .i64 0),.lit (.int .i64 0),.lit (.string ByteArray.empty),.lit (.int .u32 0),.list .exact []]:=by kernel_rfl
theorem sp141:pU prog 141=some [(0,1),(1,1),(2,1),(3,1),(4,1)]:=by kernel_rfl
theorem fo141_0:mG prog 141 0=some 0:=by kernel_rfl
theorem fo141_1:mG prog 141 1=some 1:=by kernel_rfl
theorem fo141_2:mG prog 141 2=some 2:=by kernel_rfl
theorem fo141_3:mG prog 141 3=some 3:=by kernel_rfl
theorem fo141_4:mG prog 141 4=some 4:=by kernel_rfl
theorem sz145:cE prog 145=some 1:=by kernel_rfl
theorem ag145:pS prog 145=some false:=by kernel_rfl
theorem sz146:cE prog 146=some 1:=by kernel_rfl
theorem ag146:pS prog 146=some false:=by kernel_rfl
theorem ud146:ud prog 146=.sl 34:=by kernel_rfl
theorem ud148:ud prog 148=.st:=by kernel_rfl
theorem zc148:cY prog 148=some [.list .exact [],.lit (.pointer none),.list .exact [],.list .exact [],.lit (.int .i64 0),.lit (.int .i64 0),.lit (.int .i64 0)]:=by kernel_rfl
theorem sp148:pU prog 148=some [(0,1),(1,1),(2,1),(3,1),(4,1),(5,1),(6,1)]:=by kernel_rfl
theorem fo148_0:mG prog 148 0=some 0:=by kernel_rfl
theorem fo148_1:mG prog 148 1=some 1:=by kernel_rfl
theorem fo148_2:mG prog 148 2=some 2:=by kernel_rfl
theorem fo148_3:mG prog 148 3=some 3:=by kernel_rfl
theorem fo148_4:mG prog 148 4=some 4:=by kernel_rfl
theorem fo148_5:mG prog 148 5=some 5:=by kernel_rfl
theorem fo148_6:mG prog 148 6=some 6:=by kernel_rfl
theorem sz150:cE prog 150=some 1:=by kernel_rfl
theorem ag150:pS prog 150=some false:=by kernel_rfl
theorem zc150:cY prog 150=some [.lit .nilFunc]:=by kernel_rfl
theorem ud151:ud prog 151=.sl 150:=by kernel_rfl
theorem ud156:ud prog 156=.st:=by kernel_rfl
theorem zc156:cY prog 156=some [.list .exact [],.lit (.string ByteArray.empty),.lit (.bool false),.lit (.int .i64 0),.lit (.int .i64 0),.list .exact [],.list .exact [],.lit (.int .i64 0),.lit (.int .i64 0)]:=by kernel_rfl
theorem sp156:pU prog 156=some [(0,1),(1,6),(7,1),(8,1)]:=by kernel_rfl
theorem fo156_0:mG prog 156 0=some 0:=by kernel_rfl
theorem fo156_1:mG prog 156 1=some 1:=by kernel_rfl
theorem fo156_2:mG prog 156 2=some 7:=by kernel_rfl
theorem fo156_3:mG prog 156 3=some 8:=by kernel_rfl
theorem ud158:ud prog 158=.int .u64:=by kernel_rfl
theorem sz174:cE prog 174=some 1:=by kernel_rfl
theorem ag174:pS prog 174=some false:=by kernel_rfl
theorem ud174:ud prog 174=.sl 182:=by kernel_rfl
theorem sz177:cE prog 177=some 1:=by kernel_rfl
theorem ag177:pS prog 177=some false:=by kernel_rfl
theorem ud179:ud prog 179=.st:=by kernel_rfl
theorem zc179:cY prog 179=some [.list .exact [],.lit (.int .i64 0),.lit (.int .i64 0),.lit (.int .i64 0),.lit (.int .i64 0)]:=by kernel_rfl
theorem sp179:pU prog 179=some [(0,1),(1,1),(2,1),(3,1),(4,1)]:=by kernel_rfl
theorem fo179_0:mG prog 179 0=some 0:=by kernel_rfl
theorem fo179_1:mG prog 179 1=some 1:=by kernel_rfl
theorem fo179_2:mG prog 179 2=some 2:=by kernel_rfl
theorem fo179_3:mG prog 179 3=some 3:=by kernel_rfl
theorem fo179_4:mG prog 179 4=some 4:=by kernel_rfl
theorem sz182:cE prog 182=some 4:=by kernel_rfl
theorem by182:(prog.info? 182).map (·.bytes)=some 40:=by kernel_rfl
theorem ag182:pS prog 182=some true:=by kernel_rfl
theorem ud182:ud prog 182=.st:=by kernel_rfl
theorem zc182:cY prog 182=some [.lit (.int .i64 0),.lit (.int .i64 0),.lit (.string ByteArray.empty),.lit (.int .u32 0)]:=by kernel_rfl
theorem sp182:pU prog 182=some [(0,1),(1,1),(2,1),(3,1)]:=by kernel_rfl
theorem ft182_0:fdT prog 182 0=some (3,0):=by kernel_rfl
theorem fo182_0:mG prog 182 0=some 0:=by kernel_rfl
theorem ft182_1:fdT prog 182 1=some (3,1):=by kernel_rfl
theorem fo182_2:mG prog 182 2=some 2:=by kernel_rfl
theorem fo182_3:mG prog 182 3=some 3:=by kernel_rfl
theorem sz199:cE prog 199=some 2:=by kernel_rfl
theorem ag199:pS prog 199=some true:=by kernel_rfl
theorem zc199:cY prog 199=some [.lit (.string ByteArray.empty),.lit (.int .i64 0)]:=by kernel_rfl
theorem fo199_0:mG prog 199 0=some 0:=by kernel_rfl
theorem fo199_1:mG prog 199 1=some 1:=by kernel_rfl
theorem sz200:cE prog 200=some 30:=by kernel_rfl
theorem ag200:pS prog 200=some true:=by kernel_rfl
theorem ud200:ud prog 200=.ar 15 199:=by kernel_rfl
theorem sz203:cE prog 203=some 2:=by kernel_rfl
theorem ag203:pS prog 203=some true:=by kernel_rfl
theorem ud203:ud prog 203=.st:=by kernel_rfl
theorem zc203:cY prog 203=some [.lit (.int .u32 0),.lit (.int .u32 0)]:=by kernel_rfl
theorem sp203:pU prog 203=some [(0,1),(1,1)]:=by kernel_rfl
theorem fo203_0:mG prog 203 0=some 0:=by kernel_rfl
theorem fo203_1:mG prog 203 1=some 1:=by kernel_rfl
theorem sz219:cE prog 219=some 2:=by kernel_rfl
theorem ag219:pS prog 219=some true:=by kernel_rfl
theorem zc219:cY prog 219=some [.lit (.string ByteArray.empty),.lit (.int .i64 0)]:=by kernel_rfl
theorem fo219_0:mG prog 219 0=some 0:=by kernel_rfl
theorem fo219_1:mG prog 219 1=some 1:=by kernel_rfl
theorem sz220:cE prog 220=some 10:=by kernel_rfl
theorem ag220:pS prog 220=some true:=by kernel_rfl
theorem ud220:ud prog 220=.ar 5 219:=by kernel_rfl
theorem sz245:cE prog 245=some 3:=by kernel_rfl
theorem ag245:pS prog 245=some true:=by kernel_rfl
theorem ud245:ud prog 245=.ar 3 9:=by kernel_rfl
theorem zc245:cY prog 245=some [.lit (.string ByteArray.empty),.lit (.string ByteArray.empty),.lit (.string ByteArray.empty)]:=by kernel_rfl
theorem sz259:cE prog 259=some 26:=by kernel_rfl
theorem ag259:pS prog 259=some true:=by kernel_rfl
theorem ud259:ud prog 259=.ar 26 9:=by kernel_rfl
theorem ud261:ud prog 261=.sl 9:=by kernel_rfl
theorem ud262:ud prog 262=.ar 13 9:=by kernel_rfl
theorem ud280:ud prog 280=.ar 2 9:=by kernel_rfl
theorem zc280:cY prog 280=some [.lit (.string ByteArray.empty),.lit (.string ByteArray.empty)]:=by kernel_rfl
theorem ud281:ud prog 281=.ar 7 245:=by kernel_rfl
attribute [go_sem] sz1 sz2 ud2 Hj by3 ag3 ud3 zc3 sz4 ag4 sz5 ud5 zc5 sz9 ag9 ud9 ud22 sz24 ag24 ud24 sz25 ag25 ud25 qQ by27 ag27 ud27 zc27 sp27 fo27_0 fo27_1 fo27_2 fo27_3 fo27_4 fo27_5 sz28 ag28 ud28 sz30 ag30 ud30 zc30 sp30 fo30_0 sz33 ag33 ud33 vY by34 ag34 ud34 zc34 sz35 ag35 ud35 sz37 ag37 ud37 zc37 sp37 fo37_0 fo37_1 fo37_2 fo37_3 sz38 ag38 sz43 by43 ag43 ud43 zc43 uJ by47 ag47 ud47 zc47 sp47 fo47_0 fo47_1 fo47_2 sz53 by53 ag53 ud53 zc53 sp53 fo53_0 fo53_1 fo53_2 sz56 ag56 ud56 sz59 by59 ag59 ud59 zc59 sp59 fo59_0 fo59_1 fo59_2 fo59_3 fo59_4 fo59_5 ud86 ud105 zc105 sp105 fo105_0 fo105_1 sz109 by109 ag109 ud109 zc109 sp109 fo109_0 fo109_1 fo109_2 fo109_3 fo109_4 fo109_5 fo109_6 sz139 ag139 ud139 sz141 by141 ag141 ud141 zc141 sp141 fo141_0 fo141_1 fo141_2 fo141_3 fo141_4 sz145 ag145 sz146 ag146 ud146 ud148 zc148 sp148 fo148_0 fo148_1 fo148_2 fo148_3 fo148_4 fo148_5 fo148_6 sz150 ag150 zc150 ud151 ud156 zc156 sp156 fo156_0 fo156_1 fo156_2 fo156_3 ud158 sz174 ag174 ud174 sz177 ag177 ud179 zc179 sp179 fo179_0 fo179_1 fo179_2 fo179_3 fo179_4 sz182 by182 ag182 ud182 zc182 sp182 ft182_0 fo182_0 ft182_1 fo182_2 fo182_3 sz199 ag199 zc199 fo199_0 fo199_1 sz200 ag200 ud200 sz203 ag203 ud203 zc203 sp203 fo203_0 fo203_1 sz219 ag219 zc219 fo219_0 fo219_1 sz220 ag220 ud220 sz245 ag245 ud245 zc245 sz259 ag259 ud259 ud261 ud262 ud280 zc280 ud281
