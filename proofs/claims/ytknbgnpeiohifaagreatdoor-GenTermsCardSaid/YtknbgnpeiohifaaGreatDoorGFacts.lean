import Derived.Test.YtknbgnpeiohifaaGreatDoorProg
import Derived.Test.YtknbgnpeiohifaaGreatDoorGA20
import Derived.KernelRfl
set_option linter.all false
namespace Go.Proofs.YtknbgnpeiohifaaGreatDoor.Abs
open Tryz
theorem sz1:cC prog 1=some 1:=ze
theorem sz2:cC prog 2=some 1:=ze
theorem ud2:ud prog 2=.int .i64:=ze
theorem Xc:cC prog 3=some 1:=ze
theorem by3:(prog.info? 3).map (·.bytes)=some 8:=ze
theorem ag3:oC prog 3=some false:=ze
theorem ud3:ud prog 3=.int .i64:=ze
theorem zc3:cZ prog 3=some [.lit (.int .i64 0)]:=ze
theorem sz4:cC prog 4=some 1:=ze
theorem ag4:oC prog 4=some false:=ze
theorem sz5:cC prog 5=some 1:=ze
theorem ud5:ud prog 5=.int .u8:=ze
theorem zc5:cZ prog 5=some [.lit (.int .u8 0)]:=ze
theorem sz9:cC prog 9=some 1:=ze
theorem ag9:oC prog 9=some false:=ze
theorem ud9:ud prog 9=.str:=ze
theorem ud22:ud prog 22=.sl 5:=ze
theorem sz24:cC prog 24=some 1:=ze
theorem ag24:oC prog 24=some false:=ze
theorem ud24:ud prog 24=.sl 36:=ze
theorem sz26:cC prog 26=some 1:=ze
theorem ag26:oC prog 26=some true:=ze
theorem ud26:ud prog 26=.st:=ze
theorem zc26:cZ prog 26=some [.list .exact []]:=ze
theorem sp26:lG prog 26=some [(0,1)]:=ze
theorem fo26_0:iD prog 26 0=some 0:=ze
theorem sz27:cC prog 27=some 1:=ze
theorem ag27:oC prog 27=some false:=ze
theorem sz33:cC prog 33=some 1:=ze
theorem ag33:oC prog 33=some false:=ze
theorem ud33:ud prog 33=.sl 55:=ze
theorem sz34:cC prog 34=some 1:=ze
theorem ag34:oC prog 34=some false:=ze
theorem ud34:ud prog 34=.sl 112:=ze
theorem SS:cC prog 36=some 6:=ze
theorem by36:(prog.info? 36).map (·.bytes)=some 88:=ze
theorem ag36:oC prog 36=some true:=ze
theorem ud36:ud prog 36=.st:=ze
theorem zc36:cZ prog 36=some [.lit (.string ByteArray.empty),.lit (.bool false),.lit (.int .i64 0),.lit (.int .i64 0),.nilv,.nilv]:=ze
theorem sp36:lG prog 36=some [(0,1),(1,1),(2,1),(3,1),(4,1),(5,1)]:=ze
theorem fo36_0:iD prog 36 0=some 0:=ze
theorem fo36_1:iD prog 36 1=some 1:=ze
theorem fo36_2:iD prog 36 2=some 2:=ze
theorem fo36_3:iD prog 36 3=some 3:=ze
theorem fo36_4:iD prog 36 4=some 4:=ze
theorem fo36_5:iD prog 36 5=some 5:=ze
theorem sz52:cC prog 52=some 1:=ze
theorem ag52:oC prog 52=some false:=ze
theorem ud52:ud prog 52=.sl 53:=ze
theorem sz53:cC prog 53=some 1:=ze
theorem by53:(prog.info? 53).map (·.bytes)=some 4:=ze
theorem ag53:oC prog 53=some false:=ze
theorem ud53:ud prog 53=.int .u32:=ze
theorem zc53:cZ prog 53=some [.lit (.int .u32 0)]:=ze
theorem Or:cC prog 55=some 3:=ze
theorem by55:(prog.info? 55).map (·.bytes)=some 32:=ze
theorem ag55:oC prog 55=some true:=ze
theorem ud55:ud prog 55=.st:=ze
theorem zc55:cZ prog 55=some [.lit (.string ByteArray.empty),.lit (.int .i64 0),.lit (.int .i64 0)]:=ze
theorem sp55:lG prog 55=some [(0,1),(1,1),(2,1)]:=ze
theorem fo55_0:iD prog 55 0=some 0:=ze
theorem fo55_1:iD prog 55 1=some 1:=ze
theorem fo55_2:iD prog 55 2=some 2:=ze
theorem ud56:ud prog 56=.int .u64:=ze
theorem sz64:cC prog 64=some 1:=ze
theorem ag64:oC prog 64=some false:=ze
theorem ud64:ud prog 64=.sl 93:=ze
theorem sz65:cC prog 65=some 1:=ze
theorem by65:(prog.info? 65).map (·.bytes)=some 24:=ze
theorem ag65:oC prog 65=some false:=ze
theorem ud65:ud prog 65=.sl 3:=ze
theorem zc65:cZ prog 65=some [.list .exact []]:=ze
theorem sz67:cC prog 67=some 4:=ze
theorem ag67:oC prog 67=some true:=ze
theorem ud67:ud prog 67=.st:=ze
theorem zc67:cZ prog 67=some [.list .exact [],.list .exact [],.list .exact [],.list .exact []]:=ze
theorem sp67:lG prog 67=some [(0,1),(1,1),(2,1),(3,1)]:=ze
theorem fo67_0:iD prog 67 0=some 0:=ze
theorem fo67_1:iD prog 67 1=some 1:=ze
theorem fo67_2:iD prog 67 2=some 2:=ze
theorem fo67_3:iD prog 67 3=some 3:=ze
theorem sz74:cC prog 74=some 4:=ze
theorem ag74:oC prog 74=some true:=ze
theorem ud74:ud prog 74=.st:=ze
theorem zc74:cZ prog 74=some [.list .exact [],.list .exact [],.lit (.int .i64 0),.lit (.int .i64 0)]:=ze
theorem sp74:lG prog 74=some [(0,1),(1,1),(2,1),(3,1)]:=ze
theorem fo74_0:iD prog 74 0=some 0:=ze
theorem fo74_1:iD prog 74 1=some 1:=ze
theorem fo74_2:iD prog 74 2=some 2:=ze
theorem fo74_3:iD prog 74 3=some 3:=ze
theorem sz75:cC prog 75=some 1:=ze
theorem ag75:oC prog 75=some false:=ze
theorem ud75:ud prog 75=.sl 183:=ze
theorem sz77:cC prog 77=some 15:=ze
theorem ag77:oC prog 77=some true:=ze
theorem ud77:ud prog 77=.st:=ze
theorem zc77:cZ prog 77=some [.lit (.string ByteArray.empty),.lit (.bool false),.lit (.int .i64 0),.lit (.int .i64 0),.list .exact [],.list .exact [],.list .exact [],.list .exact [],.list .exact [],.list .exact [],.list .exact [],.list .exact [],.lit (.int .i64 0),.lit (.int .i64 0),.list .exact []]:=ze
theorem sp77:lG prog 77=some [(0,6),(6,4),(10,4),(14,1)]:=ze
theorem fo77_3:iD prog 77 3=some 14:=ze
theorem sz83:cC prog 83=some 1:=ze
theorem ag83:oC prog 83=some false:=ze
theorem ud83:ud prog 83=.sl 91:=ze
theorem sz84:cC prog 84=some 1:=ze
theorem ag84:oC prog 84=some false:=ze
theorem ud84:ud prog 84=.sl 95:=ze
theorem sz86:cC prog 86=some 2:=ze
theorem ag86:oC prog 86=some true:=ze
theorem ud86:ud prog 86=.st:=ze
theorem zc86:cZ prog 86=some [.list .exact [],.list .exact []]:=ze
theorem sp86:lG prog 86=some [(0,1),(1,1)]:=ze
theorem fo86_0:iD prog 86 0=some 0:=ze
theorem fo86_1:iD prog 86 1=some 1:=ze
theorem ud88:ud prog 88=.ar 2 3:=ze
theorem ud89:ud prog 89=.ar 4 3:=ze
theorem zc89:cZ prog 89=some [.lit (.int .i64 0),.lit (.int .i64 0),.lit (.int .i64 0),.lit (.int .i64 0)]:=ze
theorem sz91:cC prog 91=some 8:=ze
theorem by91:(prog.info? 91).map (·.bytes)=some 64:=ze
theorem ag91:oC prog 91=some true:=ze
theorem ud91:ud prog 91=.st:=ze
theorem zc91:cZ prog 91=some [.lit (.int .i64 0),.lit (.int .i64 0),.lit (.int .i64 0),.lit (.int .i64 0),.lit (.int .i64 0),.lit (.int .i64 0),.lit (.int .i64 0),.lit (.int .u32 0)]:=ze
theorem sp91:lG prog 91=some [(0,1),(1,2),(3,4),(7,1)]:=ze
theorem fo91_0:iD prog 91 0=some 0:=ze
theorem fo91_1:iD prog 91 1=some 1:=ze
theorem fo91_2:iD prog 91 2=some 3:=ze
theorem sz93:cC prog 93=some 3:=ze
theorem by93:(prog.info? 93).map (·.bytes)=some 40:=ze
theorem ag93:oC prog 93=some true:=ze
theorem ud93:ud prog 93=.st:=ze
theorem zc93:cZ prog 93=some [.lit (.int .i64 0),.lit (.int .u32 0),.list .exact []]:=ze
theorem sp93:lG prog 93=some [(0,1),(1,1),(2,1)]:=ze
theorem fo93_0:iD prog 93 0=some 0:=ze
theorem fo93_1:iD prog 93 1=some 1:=ze
theorem fo93_2:iD prog 93 2=some 2:=ze
theorem sz95:cC prog 95=some 8:=ze
theorem by95:(prog.info? 95).map (·.bytes)=some 96:=ze
theorem ag95:oC prog 95=some true:=ze
theorem ud95:ud prog 95=.st:=ze
theorem zc95:cZ prog 95=some [.lit (.int .i64 0),.lit (.int .i64 0),.lit (.int .u32 0),.list .exact [],.lit (.int .i64 0),.lit (.int .u32 0),.list .exact [],.lit (.int .i64 0)]:=ze
theorem sp95:lG prog 95=some [(0,1),(1,3),(4,3),(7,1)]:=ze
theorem fo95_0:iD prog 95 0=some 0:=ze
theorem fo95_1:iD prog 95 1=some 1:=ze
theorem fo95_2:iD prog 95 2=some 4:=ze
theorem ud109:ud prog 109=.int .u64:=ze
theorem sz110:cC prog 110=some 1:=ze
theorem ag110:oC prog 110=some false:=ze
theorem ud110:ud prog 110=.sl 252:=ze
theorem sz112:cC prog 112=some 7:=ze
theorem by112:(prog.info? 112).map (·.bytes)=some 112:=ze
theorem ag112:oC prog 112=some true:=ze
theorem ud112:ud prog 112=.st:=ze
theorem zc112:cZ prog 112=some [.lit (.string ByteArray.empty),.lit (.int .i64 0),.lit (.int .i64 0),.list .exact [],.list .exact [],.list .exact [],.lit (.int .i64 0)]:=ze
theorem sp112:lG prog 112=some [(0,1),(1,1),(2,1),(3,1),(4,1),(5,1),(6,1)]:=ze
theorem fo112_0:iD prog 112 0=some 0:=ze
theorem fo112_1:iD prog 112 1=some 1:=ze
theorem fo112_2:iD prog 112 2=some 2:=ze
theorem fo112_3:iD prog 112 3=some 3:=ze
theorem fo112_4:iD prog 112 4=some 4:=ze
theorem fo112_5:iD prog 112 5=some 5:=ze
theorem fo112_6:iD prog 112 6=some 6:=ze
theorem sz113:cC prog 113=some 1:=ze
theorem ag113:oC prog 113=some false:=ze
theorem ud113:ud prog 113=.sl 115:=ze
theorem sz115:cC prog 115=some 5:=ze
theorem by115:(prog.info? 115).map (·.bytes)=some 64:=ze
theorem ag115:oC prog 115=some true:=ze
theorem ud115:ud prog 115=.st:=ze
theorem zc115:cZ prog 115=some [.lit (.int .i64 0),.lit (.int .i64 0),.lit (.string ByteArray.empty),.lit (.int .u32 0),.list .exact []]:=ze
theorem sp115:lG prog 115=some [(0,1),(1,1),(2,1),(3,1),(4,1)]:=ze
theorem fo115_0:iD prog 115 0=some 0:=ze
theorem fo115_1:iD prog 115 1=some 1:=ze
theorem fo115_2:iD prog 115 2=some 2:=ze
theorem fo115_3:iD prog 115 3=some 3:=ze
theorem fo115_4:iD prog 115 4=some 4:=ze
theorem sz119:cC prog 119=some 1:=ze
theorem ag119:oC prog 119=some false:=ze
theorem sz120:cC prog 120=some 1:=ze
theorem ag120:oC prog 120=some false:=ze
theorem ud120:ud prog 120=.sl 65:=ze
theorem ud122:ud prog 122=.st:=ze
theorem zc122:cZ prog 122=some [.list .exact [],.lit (.pointer none),.list .exact [],.list .exact [],.lit (.int .i64 0),.lit (.int .i64 0),.lit (.int .i64 0)]:=ze
theorem sp122:lG prog 122=some [(0,1),(1,1),(2,1),(3,1),(4,1),(5,1),(6,1)]:=ze
theorem fo122_0:iD prog 122 0=some 0:=ze
theorem fo122_1:iD prog 122 1=some 1:=ze
theorem fo122_2:iD prog 122 2=some 2:=ze
theorem fo122_3:iD prog 122 3=some 3:=ze
theorem fo122_4:iD prog 122 4=some 4:=ze
theorem fo122_5:iD prog 122 5=some 5:=ze
theorem fo122_6:iD prog 122 6=some 6:=ze
theorem sz124:cC prog 124=some 1:=ze
theorem ag124:oC prog 124=some false:=ze
theorem zc124:cZ prog 124=some [.lit .nilFunc]:=ze
theorem ud125:ud prog 125=.sl 124:=ze
theorem ud149:ud prog 149=.st:=ze
theorem zc149:cZ prog 149=some [.list .exact [],.lit (.string ByteArray.empty),.lit (.bool false),.lit (.int .i64 0),.lit (.int .i64 0),.list .exact [],.list .exact [],.lit (.int .i64 0),.lit (.int .i64 0)]:=ze
theorem sp149:lG prog 149=some [(0,1),(1,6),(7,1),(8,1)]:=ze
theorem fo149_0:iD prog 149 0=some 0:=ze
theorem fo149_1:iD prog 149 1=some 1:=ze
theorem fo149_2:iD prog 149 2=some 7:=ze
theorem fo149_3:iD prog 149 3=some 8:=ze
theorem ud180:ud prog 180=.st:=ze
theorem zc180:cZ prog 180=some [.list .exact [],.list .exact [],.list .exact [],.list .exact [],.lit (.int .i64 0)]:=ze
theorem sp180:lG prog 180=some [(0,4),(4,1)]:=ze
theorem fo180_0:iD prog 180 0=some 0:=ze
theorem fo180_1:iD prog 180 1=some 4:=ze
theorem sz183:cC prog 183=some 19:=ze
theorem by183:(prog.info? 183).map (·.bytes)=some 328:=ze
theorem ag183:oC prog 183=some true:=ze
theorem ud183:ud prog 183=.st:=ze
theorem zc183:cZ prog 183=some [.lit (.int .i64 0),.list .exact [],.list .exact [],.list .exact [],.list .exact [],.list .exact [],.list .exact [],.lit (.int .i64 0),.lit (.int .u32 0),.list .exact [],.lit (.int .i64 0),.lit (.int .u32 0),.list .exact [],.lit (.int .i64 0),.lit (.int .u32 0),.list .exact [],.lit (.int .i64 0),.list .exact [],.list .exact []]:=ze
theorem sp183:lG prog 183=some [(0,1),(1,2),(3,2),(5,2),(7,3),(10,3),(13,3),(16,1),(17,1),(18,1)]:=ze
theorem fo183_0:iD prog 183 0=some 0:=ze
theorem fo183_1:iD prog 183 1=some 1:=ze
theorem fo183_2:iD prog 183 2=some 3:=ze
theorem fo183_3:iD prog 183 3=some 5:=ze
theorem fo183_4:iD prog 183 4=some 7:=ze
theorem fo183_5:iD prog 183 5=some 10:=ze
theorem fo183_6:iD prog 183 6=some 13:=ze
theorem fo183_7:iD prog 183 7=some 16:=ze
theorem fo183_8:iD prog 183 8=some 17:=ze
theorem fo183_9:iD prog 183 9=some 18:=ze
theorem ud188:ud prog 188=.ar 3 86:=ze
theorem zc188:cZ prog 188=some [.list .exact [],.list .exact [],.list .exact [],.list .exact [],.list .exact [],.list .exact []]:=ze
theorem sz203:cC prog 203=some 1:=ze
theorem ag203:oC prog 203=some false:=ze
theorem ud203:ud prog 203=.sl 211:=ze
theorem sz206:cC prog 206=some 1:=ze
theorem ag206:oC prog 206=some false:=ze
theorem ud208:ud prog 208=.st:=ze
theorem zc208:cZ prog 208=some [.list .exact [],.lit (.int .i64 0),.lit (.int .i64 0),.lit (.int .i64 0),.lit (.int .i64 0)]:=ze
theorem sp208:lG prog 208=some [(0,1),(1,1),(2,1),(3,1),(4,1)]:=ze
theorem fo208_0:iD prog 208 0=some 0:=ze
theorem fo208_1:iD prog 208 1=some 1:=ze
theorem fo208_2:iD prog 208 2=some 2:=ze
theorem fo208_3:iD prog 208 3=some 3:=ze
theorem fo208_4:iD prog 208 4=some 4:=ze
theorem sz211:cC prog 211=some 4:=ze
theorem by211:(prog.info? 211).map (·.bytes)=some 40:=ze
theorem ag211:oC prog 211=some true:=ze
theorem ud211:ud prog 211=.st:=ze
theorem zc211:cZ prog 211=some [.lit (.int .i64 0),.lit (.int .i64 0),.lit (.string ByteArray.empty),.lit (.int .u32 0)]:=ze
theorem sp211:lG prog 211=some [(0,1),(1,1),(2,1),(3,1)]:=ze
theorem ft211_0:fdT prog 211 0=some (3,0):=ze
theorem fo211_0:iD prog 211 0=some 0:=ze
theorem ft211_1:fdT prog 211 1=some (3,1):=ze
theorem fo211_2:iD prog 211 2=some 2:=ze
theorem fo211_3:iD prog 211 3=some 3:=ze
theorem sz252:cC prog 252=some 6:=ze
theorem by252:(prog.info? 252).map (·.bytes)=some 72:=ze
theorem ag252:oC prog 252=some true:=ze
theorem ud252:ud prog 252=.st:=ze
theorem zc252:cZ prog 252=some [.lit (.string ByteArray.empty),.lit (.int .i64 0),.lit (.int .u32 0),.lit (.int .i64 0),.list .exact [],.lit (.int .i64 0)]:=ze
theorem sp252:lG prog 252=some [(0,1),(1,1),(2,1),(3,1),(4,1),(5,1)]:=ze
theorem fo252_0:iD prog 252 0=some 0:=ze
theorem fo252_1:iD prog 252 1=some 1:=ze
theorem fo252_2:iD prog 252 2=some 2:=ze
theorem fo252_3:iD prog 252 3=some 3:=ze
theorem fo252_4:iD prog 252 4=some 4:=ze
theorem fo252_5:iD prog 252 5=some 5:=ze
theorem ud257:ud prog 257=.st:=ze
theorem zc257:cZ prog 257=some [.lit (.int .i64 0)]:=ze
theorem sp257:lG prog 257=some [(0,1)]:=ze
theorem fo257_0:iD prog 257 0=some 0:=ze
theorem ud262:ud prog 262=.st:=ze
theorem zc262:cZ prog 262=some [.lit (.string ByteArray.empty),.lit (.bool false),.lit (.int .i64 0),.lit (.int .i64 0),.list .exact [],.list .exact [],.list .exact [],.list .exact [],.list .exact [],.list .exact [],.list .exact [],.list .exact [],.lit (.int .i64 0),.lit (.int .i64 0),.list .exact [],.list .exact [],.lit (.int .i64 0),.lit (.int .i64 0),.lit (.int .i64 0)]:=ze
theorem sp262:lG prog 262=some [(0,6),(6,4),(10,4),(14,2),(16,1),(17,1),(18,1)]:=ze
theorem fo262_0:iD prog 262 0=some 0:=ze
theorem fo262_1:iD prog 262 1=some 6:=ze
theorem fo262_2:iD prog 262 2=some 10:=ze
theorem fo262_3:iD prog 262 3=some 14:=ze
theorem fo262_4:iD prog 262 4=some 16:=ze
theorem fo262_5:iD prog 262 5=some 17:=ze
theorem fo262_6:iD prog 262 6=some 18:=ze
theorem sz265:cC prog 265=some 2:=ze
theorem ag265:oC prog 265=some true:=ze
theorem ud265:ud prog 265=.st:=ze
theorem zc265:cZ prog 265=some [.lit (.int .i64 0),.lit (.int .i64 0)]:=ze
theorem sp265:lG prog 265=some [(0,1),(1,1)]:=ze
theorem fo265_0:iD prog 265 0=some 0:=ze
theorem fo265_1:iD prog 265 1=some 1:=ze
theorem sz285:cC prog 285=some 2:=ze
theorem ag285:oC prog 285=some true:=ze
theorem zc285:cZ prog 285=some [.lit (.string ByteArray.empty),.lit (.int .i64 0)]:=ze
theorem fo285_0:iD prog 285 0=some 0:=ze
theorem fo285_1:iD prog 285 1=some 1:=ze
theorem sz286:cC prog 286=some 10:=ze
theorem ag286:oC prog 286=some true:=ze
theorem ud286:ud prog 286=.ar 5 285:=ze
theorem ud334:ud prog 334=.ar 32 265:=ze
theorem sz349:cC prog 349=some 3:=ze
theorem ag349:oC prog 349=some true:=ze
theorem ud349:ud prog 349=.ar 3 9:=ze
theorem zc349:cZ prog 349=some [.lit (.string ByteArray.empty),.lit (.string ByteArray.empty),.lit (.string ByteArray.empty)]:=ze
theorem sz355:cC prog 355=some 26:=ze
theorem ag355:oC prog 355=some true:=ze
theorem ud355:ud prog 355=.ar 26 9:=ze
theorem ud384:ud prog 384=.sl 9:=ze
theorem ud385:ud prog 385=.ar 13 9:=ze
theorem sz400:cC prog 400=some 2:=ze
theorem ag400:oC prog 400=some true:=ze
theorem ud400:ud prog 400=.st:=ze
theorem zc400:cZ prog 400=some [.lit (.int .u32 0),.lit (.int .u32 0)]:=ze
theorem sp400:lG prog 400=some [(0,1),(1,1)]:=ze
theorem fo400_0:iD prog 400 0=some 0:=ze
theorem fo400_1:iD prog 400 1=some 1:=ze
theorem sz421:cC prog 421=some 2:=ze
theorem ag421:oC prog 421=some true:=ze
theorem zc421:cZ prog 421=some [.lit (.string ByteArray.empty),.lit (.int .i64 0)]:=ze
theorem fo421_0:iD prog 421 0=some 0:=ze
theorem fo421_1:iD prog 421 1=some 1:=ze
theorem sz422:cC prog 422=some 30:=ze
theorem ag422:oC prog 422=some true:=ze
theorem ud422:ud prog 422=.ar 15 421:=ze
theorem sz428:cC prog 428=some 2:=ze
theorem ag428:oC prog 428=some true:=ze
theorem zc428:cZ prog 428=some [.lit (.string ByteArray.empty),.lit (.int .i64 0)]:=ze
theorem fo428_0:iD prog 428 0=some 0:=ze
theorem fo428_1:iD prog 428 1=some 1:=ze
theorem sz429:cC prog 429=some 16:=ze
theorem ag429:oC prog 429=some true:=ze
theorem ud429:ud prog 429=.ar 8 428:=ze
theorem ud437:ud prog 437=.ar 2 9:=ze
theorem zc437:cZ prog 437=some [.lit (.string ByteArray.empty),.lit (.string ByteArray.empty)]:=ze
theorem ud438:ud prog 438=.ar 7 349:=ze
attribute [go_sem] sz1 sz2 ud2 Xc by3 ag3 ud3 zc3 sz4 ag4 sz5 ud5 zc5 sz9 ag9 ud9 ud22 sz24 ag24 ud24 sz26 ag26 ud26 zc26 sp26 fo26_0 sz27 ag27 sz33 ag33 ud33 sz34 ag34 ud34 SS by36 ag36 ud36 zc36 sp36 fo36_0 fo36_1 fo36_2 fo36_3 fo36_4 fo36_5 sz52 ag52 ud52 sz53 by53 ag53 ud53 zc53 Or by55 ag55 ud55 zc55 sp55 fo55_0 fo55_1 fo55_2 ud56 sz64 ag64 ud64 sz65 by65 ag65 ud65 zc65 sz67 ag67 ud67 zc67 sp67 fo67_0 fo67_1 fo67_2 fo67_3 sz74 ag74 ud74 zc74 sp74 fo74_0 fo74_1 fo74_2 fo74_3 sz75 ag75 ud75 sz77 ag77 ud77 zc77 sp77 fo77_3 sz83 ag83 ud83 sz84 ag84 ud84 sz86 ag86 ud86 zc86 sp86 fo86_0 fo86_1 ud88 ud89 zc89 sz91 by91 ag91 ud91 zc91 sp91 fo91_0 fo91_1 fo91_2 sz93 by93 ag93 ud93 zc93 sp93 fo93_0 fo93_1 fo93_2 sz95 by95 ag95 ud95 zc95 sp95 fo95_0 fo95_1 fo95_2 ud109 sz110 ag110 ud110 sz112 by112 ag112 ud112 zc112 sp112 fo112_0 fo112_1 fo112_2 fo112_3 fo112_4 fo112_5 fo112_6 sz113 ag113 ud113 sz115 by115 ag115 ud115 zc115 sp115 fo115_0 fo115_1 fo115_2 fo115_3 fo115_4 sz119 ag119 sz120 ag120 ud120 ud122 zc122 sp122 fo122_0 fo122_1 fo122_2 fo122_3 fo122_4 fo122_5 fo122_6 sz124 ag124 zc124 ud125 ud149 zc149 sp149 fo149_0 fo149_1 fo149_2 fo149_3 ud180 zc180 sp180 fo180_0 fo180_1 sz183 by183 ag183 ud183 zc183 sp183 fo183_0 fo183_1 fo183_2 fo183_3 fo183_4 fo183_5 fo183_6 fo183_7 fo183_8 fo183_9 ud188 zc188 sz203 ag203 ud203 sz206 ag206 ud208 zc208 sp208 fo208_0 fo208_1 fo208_2 fo208_3 fo208_4 sz211 by211 ag211 ud211 zc211 sp211 ft211_0 fo211_0 ft211_1 fo211_2 fo211_3 sz252 by252 ag252 ud252 zc252 sp252 fo252_0 fo252_1 fo252_2 fo252_3 fo252_4 fo252_5 ud257 zc257 sp257 fo257_0 ud262 zc262 sp262 fo262_0 fo262_1 fo262_2 fo262_3 fo262_4 fo262_5 fo262_6 sz265 ag265 ud265 zc265 sp265 fo265_0 fo265_1 sz285 ag285 zc285 fo285_0 fo285_1 sz286 ag286 ud286 ud334 sz349 ag349 ud349 zc349 sz355 ag355 ud355 ud384 ud385 sz400 ag400 ud400 zc400 sp400 fo400_0 fo400_1 sz421 ag421 zc421 fo421_0 fo421_1 sz422 ag422 ud422 sz428 ag428 zc428 fo428_0 fo428_1 sz429 ag429 ud429 ud437 zc437 ud438
