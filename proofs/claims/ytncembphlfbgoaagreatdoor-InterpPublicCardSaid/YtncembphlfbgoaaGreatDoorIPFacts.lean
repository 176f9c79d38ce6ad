/- Lemmas of ours. -/
import Derived.Test.YtncembphlfbgoaaGreatDoorProg
import Derived.Test.YtncembphlfbgoaaGreatDoorIPA20
import Derived.KernelRfl
namespace Go.Proofs.YtncembphlfbgoaaGreatDoor.Abs
open Tryz
theorem sz1:cO prog 1=some 1:=by kernel_rfl
theorem sz2:cO prog 2=some 1:=by kernel_rfl
theorem Qx:cO prog 3=some 1:=by kernel_rfl
theorem by3:(prog.info? 3).map (·.bytes)=some 8:=by kernel_rfl
theorem ag3:nR prog 3=some false:=by kernel_rfl
theorem ud3:ud prog 3=.int .i64:=by kernel_rfl
theorem zc3:dJ prog 3=some [.lit (.int .i64 0)]:=by kernel_rfl
theorem sz4:cO prog 4=some 1:=by kernel_rfl
theorem ag4:nR prog 4=some false:=by kernel_rfl
theorem sz5:cO prog 5=some 1:=by kernel_rfl
theorem ud5:ud prog 5=.int .u8:=by kernel_rfl
theorem zc5:dJ prog 5=some [.lit (.int .u8 0)]:=by kernel_rfl
theorem sz9:cO prog 9=some 1:=by kernel_rfl
theorem ag9:nR prog 9=some false:=by kernel_rfl
theorem ud9:ud prog 9=.str:=by kernel_rfl
theorem ud22:ud prog 22=.sl 5:=by kernel_rfl
theorem sz23:cO prog 23=some 1:=by kernel_rfl
theorem by23:(prog.info? 23).map (·.bytes)=some 4:=by kernel_rfl
theorem ag23:nR prog 23=some false:=by kernel_rfl
theorem ud23:ud prog 23=.int .u32:=by kernel_rfl
theorem zc23:dJ prog 23=some [.lit (.int .u32 0)]:=by kernel_rfl
theorem sz25:cO prog 25=some 1:=by kernel_rfl
theorem ag25:nR prog 25=some false:=by kernel_rfl
theorem ud25:ud prog 25=.sl 44:=by kernel_rfl
theorem sz27:cO prog 27=some 1:=by kernel_rfl
theorem ag27:nR prog 27=some true:=by kernel_rfl
theorem ud27:ud prog 27=.st:=by kernel_rfl
theorem zc27:dJ prog 27=some [.list .exact []]:=by kernel_rfl
theorem sp27:nX prog 27=some [(0,1)]:=by kernel_rfl
theorem fo27_0:jY prog 27 0=some 0:=by kernel_rfl
theorem sz28:cO prog 28=some 1:=by kernel_rfl
theorem ag28:nR prog 28=some false:=by kernel_rfl
theorem sz41:cO prog 41=some 1:=by kernel_rfl
theorem ag41:nR prog 41=some false:=by kernel_rfl
theorem ud41:ud prog 41=.sl 66:=by kernel_rfl
theorem sz42:cO prog 42=some 1:=by kernel_rfl
theorem ag42:nR prog 42=some false:=by kernel_rfl
theorem ud42:ud prog 42=.sl 76:=by kernel_rfl
theorem Ku:cO prog 44=some 6:=by kernel_rfl
theorem by44:(prog.info? 44).map (·.bytes)=some 88:=by kernel_rfl
theorem ag44:nR prog 44=some true:=by kernel_rfl
theorem ud44:ud prog 44=.st:=by kernel_rfl
theorem zc44:dJ prog 44=some [.lit (.string ByteArray.empty),.lit (.bool false),.lit (.int .i64 0),.lit (.int .i64 0),.nilv,.nilv]:=by kernel_rfl
theorem sp44:nX prog 44=some [(0,1),(1,1),(2,1),(3,1),(4,1),(5,1)]:=by kernel_rfl
theorem fo44_0:jY prog 44 0=some 0:=by kernel_rfl
theorem fo44_1:jY prog 44 1=some 1:=by kernel_rfl
theorem fo44_2:jY prog 44 2=some 2:=by kernel_rfl
theorem fo44_3:jY prog 44 3=some 3:=by kernel_rfl
theorem fo44_4:jY prog 44 4=some 4:=by kernel_rfl
theorem fo44_5:jY prog 44 5=some 5:=by kernel_rfl
theorem sz51:cO prog 51=some 1:=by kernel_rfl
theorem ag51:nR prog 51=some false:=by kernel_rfl
theorem ud51:ud prog 51=.sl 56:=by kernel_rfl
theorem sz52:cO prog 52=some 1:=by kernel_rfl
theorem ag52:nR prog 52=some false:=by kernel_rfl
theorem ud52:ud prog 52=.sl 72:=by kernel_rfl
theorem sz54:cO prog 54=some 2:=by kernel_rfl
theorem ag54:nR prog 54=some true:=by kernel_rfl
theorem ud54:ud prog 54=.st:=by kernel_rfl
theorem zc54:dJ prog 54=some [.list .exact [],.list .exact []]:=by kernel_rfl
theorem sp54:nX prog 54=some [(0,1),(1,1)]:=by kernel_rfl
theorem fo54_0:jY prog 54 0=some 0:=by kernel_rfl
theorem fo54_1:jY prog 54 1=some 1:=by kernel_rfl
theorem sz56:cO prog 56=some 1:=by kernel_rfl
theorem by56:(prog.info? 56).map (·.bytes)=some 8:=by kernel_rfl
theorem ag56:nR prog 56=some false:=by kernel_rfl
theorem ud56:ud prog 56=.int .u64:=by kernel_rfl
theorem zc56:dJ prog 56=some [.lit (.int .u64 0)]:=by kernel_rfl
theorem sz57:cO prog 57=some 1:=by kernel_rfl
theorem ag57:nR prog 57=some false:=by kernel_rfl
theorem ud57:ud prog 57=.sl 71:=by kernel_rfl
theorem sz59:cO prog 59=some 4:=by kernel_rfl
theorem ag59:nR prog 59=some true:=by kernel_rfl
theorem ud59:ud prog 59=.st:=by kernel_rfl
theorem zc59:dJ prog 59=some [.lit (.int .i64 0),.lit (.int .u64 0),.list .exact [],.list .exact []]:=by kernel_rfl
theorem sp59:nX prog 59=some [(0,1),(1,1),(2,1),(3,1)]:=by kernel_rfl
theorem fo59_0:jY prog 59 0=some 0:=by kernel_rfl
theorem fo59_1:jY prog 59 1=some 1:=by kernel_rfl
theorem fo59_2:jY prog 59 2=some 2:=by kernel_rfl
theorem fo59_3:jY prog 59 3=some 3:=by kernel_rfl
theorem GX:cO prog 66=some 3:=by kernel_rfl
theorem by66:(prog.info? 66).map (·.bytes)=some 32:=by kernel_rfl
theorem ag66:nR prog 66=some true:=by kernel_rfl
theorem ud66:ud prog 66=.st:=by kernel_rfl
theorem zc66:dJ prog 66=some [.lit (.string ByteArray.empty),.lit (.int .i64 0),.lit (.int .i64 0)]:=by kernel_rfl
theorem sp66:nX prog 66=some [(0,1),(1,1),(2,1)]:=by kernel_rfl
theorem fo66_0:jY prog 66 0=some 0:=by kernel_rfl
theorem fo66_1:jY prog 66 1=some 1:=by kernel_rfl
theorem fo66_2:jY prog 66 2=some 2:=by kernel_rfl
theorem sz71:cO prog 71=some 3:=by kernel_rfl
theorem by71:(prog.info? 71).map (·.bytes)=some 16:=by kernel_rfl
theorem ag71:nR prog 71=some true:=by kernel_rfl
theorem ud71:ud prog 71=.st:=by kernel_rfl
theorem zc71:dJ prog 71=some [.lit (.int .i64 0),.lit (.int .u32 0),.lit (.int .u32 0)]:=by kernel_rfl
theorem sp71:nX prog 71=some [(0,1),(1,1),(2,1)]:=by kernel_rfl
theorem sz72:cO prog 72=some 1:=by kernel_rfl
theorem by72:(prog.info? 72).map (·.bytes)=some 24:=by kernel_rfl
theorem ag72:nR prog 72=some false:=by kernel_rfl
theorem ud72:ud prog 72=.sl 23:=by kernel_rfl
theorem zc72:dJ prog 72=some [.list .exact []]:=by kernel_rfl
theorem sz74:cO prog 74=some 1:=by kernel_rfl
theorem ag74:nR prog 74=some false:=by kernel_rfl
theorem ud74:ud prog 74=.sl 189:=by kernel_rfl
theorem sz76:cO prog 76=some 7:=by kernel_rfl
theorem by76:(prog.info? 76).map (·.bytes)=some 112:=by kernel_rfl
theorem ag76:nR prog 76=some true:=by kernel_rfl
theorem ud76:ud prog 76=.st:=by kernel_rfl
theorem zc76:dJ prog 76=some [.lit (.string ByteArray.empty),.lit (.int .i64 0),.lit (.int .i64 0),.list .exact [],.list .exact [],.list .exact [],.lit (.int .i64 0)]:=by kernel_rfl
theorem sp76:nX prog 76=some [(0,1),(1,1),(2,1),(3,1),(4,1),(5,1),(6,1)]:=by kernel_rfl
theorem fo76_0:jY prog 76 0=some 0:=by kernel_rfl
theorem fo76_1:jY prog 76 1=some 1:=by kernel_rfl
theorem fo76_2:jY prog 76 2=some 2:=by kernel_rfl
theorem fo76_3:jY prog 76 3=some 3:=by kernel_rfl
theorem fo76_4:jY prog 76 4=some 4:=by kernel_rfl
theorem fo76_5:jY prog 76 5=some 5:=by kernel_rfl
theorem fo76_6:jY prog 76 6=some 6:=by kernel_rfl
theorem sz77:cO prog 77=some 1:=by kernel_rfl
theorem ag77:nR prog 77=some false:=by kernel_rfl
theorem ud77:ud prog 77=.sl 79:=by kernel_rfl
theorem sz79:cO prog 79=some 5:=by kernel_rfl
theorem by79:(prog.info? 79).map (·.bytes)=some 64:=by kernel_rfl
theorem ag79:nR prog 79=some true:=by kernel_rfl
theorem ud79:ud prog 79=.st:=by kernel_rfl
theorem zc79:dJ prog 79=some [.lit (.int .i64 0),.lit (.int .i64 0),.lit (.string ByteArray.empty),.lit (.int .u32 0),.list .exact []]:=by kernel_rfl
theorem sp79:nX prog 79=some [(0,1),(1,1),(2,1),(3,1),(4,1)]:=by kernel_rfl
theorem fo79_0:jY prog 79 0=some 0:=by kernel_rfl
theorem fo79_1:jY prog 79 1=some 1:=by kernel_rfl
theorem fo79_2:jY prog 79 2=some 2:=by kernel_rfl
theorem fo79_3:jY prog 79 3=some 3:=by kernel_rfl
theorem fo79_4:jY prog 79 4=some 4:=by kernel_rfl
theorem sz83:cO prog 83=some 1:=by kernel_rfl
theorem ag83:nR prog 83=some false:=by kernel_rfl
theorem sz84:cO prog 84=some 1:=by kernel_rfl
theorem by84:(prog.info? 84).map (·.bytes)=some 24:=by kernel_rfl
theorem ag84:nR prog 84=some false:=by kernel_rfl
theorem ud84:ud prog 84=.sl 3:=by kernel_rfl
theorem zc84:dJ prog 84=some [.list .exact []]:=by kernel_rfl
theorem sz85:cO prog 85=some 1:=by kernel_rfl
theorem ag85:nR prog 85=some false:=by kernel_rfl
theorem ud85:ud prog 85=.sl 84:=by kernel_rfl
theorem ud87:ud prog 87=.st:=by kernel_rfl
theorem zc87:dJ prog 87=some [.list .exact [],.lit (.pointer none),.list .exact [],.list .exact [],.lit (.int .i64 0),.lit (.int .i64 0),.lit (.int .i64 0)]:=by kernel_rfl
theorem sp87:nX prog 87=some [(0,1),(1,1),(2,1),(3,1),(4,1),(5,1),(6,1)]:=by kernel_rfl
theorem fo87_0:jY prog 87 0=some 0:=by kernel_rfl
theorem fo87_1:jY prog 87 1=some 1:=by kernel_rfl
theorem fo87_2:jY prog 87 2=some 2:=by kernel_rfl
theorem fo87_3:jY prog 87 3=some 3:=by kernel_rfl
theorem fo87_4:jY prog 87 4=some 4:=by kernel_rfl
theorem fo87_5:jY prog 87 5=some 5:=by kernel_rfl
theorem fo87_6:jY prog 87 6=some 6:=by kernel_rfl
theorem sz89:cO prog 89=some 1:=by kernel_rfl
theorem ag89:nR prog 89=some false:=by kernel_rfl
theorem zc89:dJ prog 89=some [.lit .nilFunc]:=by kernel_rfl
theorem ud90:ud prog 90=.sl 89:=by kernel_rfl
theorem ud129:ud prog 129=.st:=by kernel_rfl
theorem zc129:dJ prog 129=some [.lit (.string ByteArray.empty),.lit (.bool false),.lit (.int .i64 0),.lit (.int .i64 0),.list .exact [],.list .exact [],.list .exact [],.list .exact [],.lit (.int .u64 0)]:=by kernel_rfl
theorem sp129:nX prog 129=some [(0,6),(6,1),(7,1),(8,1)]:=by kernel_rfl
theorem fo129_0:jY prog 129 0=some 0:=by kernel_rfl
theorem fo129_1:jY prog 129 1=some 6:=by kernel_rfl
theorem fo129_2:jY prog 129 2=some 7:=by kernel_rfl
theorem fo129_3:jY prog 129 3=some 8:=by kernel_rfl
theorem ud133:ud prog 133=.st:=by kernel_rfl
theorem zc133:dJ prog 133=some [.list .exact [],.lit (.int .i64 0),.lit (.int .i64 0),.lit (.int .i64 0),.list .exact []]:=by kernel_rfl
theorem sp133:nX prog 133=some [(0,1),(1,1),(2,1),(3,1),(4,1)]:=by kernel_rfl
theorem fo133_0:jY prog 133 0=some 0:=by kernel_rfl
theorem fo133_1:jY prog 133 1=some 1:=by kernel_rfl
theorem fo133_2:jY prog 133 2=some 2:=by kernel_rfl
theorem fo133_3:jY prog 133 3=some 3:=by kernel_rfl
theorem fo133_4:jY prog 133 4=some 4:=by kernel_rfl
theorem sz136:cO prog 136=some 1:=by kernel_rfl
theorem ag136:nR prog 136=some false:=by kernel_rfl
theorem ud136:ud prog 136=.sl 144:=by kernel_rfl
theorem sz139:cO prog 139=some 1:=by kernel_rfl
theorem ag139:nR prog 139=some false:=by kernel_rfl
theorem ud141:ud prog 141=.st:=by kernel_rfl
theorem zc141:dJ prog 141=some [.list .exact [],.lit (.int .i64 0),.lit (.int .i64 0),.lit (.int .i64 0),.lit (.int .i64 0)]:=by kernel_rfl
theorem sp141:nX prog 141=some [(0,1),(1,1),(2,1),(3,1),(4,1)]:=by kernel_rfl
theorem fo141_0:jY prog 141 0=some 0:=by kernel_rfl
theorem fo141_1:jY prog 141 1=some 1:=by kernel_rfl
theorem fo141_2:jY prog 141 2=some 2:=by kernel_rfl
theorem fo141_3:jY prog 141 3=some 3:=by kernel_rfl
theorem fo141_4:jY prog 141 4=some 4:=by kernel_rfl
theorem sz144:cO prog 144=some 4:=by kernel_rfl
theorem by144:(prog.info? 144).map (·.bytes)=some 40:=by kernel_rfl
theorem ag144:nR prog 144=some true:=by kernel_rfl
theorem ud144:ud prog 144=.st:=by kernel_rfl
theorem zc144:dJ prog 144=some [.lit (.int .i64 0),.lit (.int .i64 0),.lit (.string ByteArray.empty),.lit (.int .u32 0)]:=by kernel_rfl
theorem sp144:nX prog 144=some [(0,1),(1,1),(2,1),(3,1)]:=by kernel_rfl
theorem ft144_0:fdT prog 144 0=some (3,0):=by kernel_rfl
theorem fo144_0:jY prog 144 0=some 0:=by kernel_rfl
theorem ft144_1:fdT prog 144 1=some (3,1):=by kernel_rfl
theorem fo144_2:jY prog 144 2=some 2:=by kernel_rfl
theorem fo144_3:jY prog 144 3=some 3:=by kernel_rfl
theorem sz184:cO prog 184=some 2:=by kernel_rfl
theorem ag184:nR prog 184=some true:=by kernel_rfl
theorem zc184:dJ prog 184=some [.lit (.string ByteArray.empty),.lit (.int .i64 0)]:=by kernel_rfl
theorem fo184_0:jY prog 184 0=some 0:=by kernel_rfl
theorem fo184_1:jY prog 184 1=some 1:=by kernel_rfl
theorem sz185:cO prog 185=some 10:=by kernel_rfl
theorem ag185:nR prog 185=some true:=by kernel_rfl
theorem ud185:ud prog 185=.ar 5 184:=by kernel_rfl
theorem sz189:cO prog 189=some 6:=by kernel_rfl
theorem by189:(prog.info? 189).map (·.bytes)=some 72:=by kernel_rfl
theorem ag189:nR prog 189=some true:=by kernel_rfl
theorem ud189:ud prog 189=.st:=by kernel_rfl
theorem zc189:dJ prog 189=some [.lit (.string ByteArray.empty),.lit (.int .i64 0),.lit (.int .u32 0),.lit (.int .i64 0),.list .exact [],.lit (.int .i64 0)]:=by kernel_rfl
theorem sp189:nX prog 189=some [(0,1),(1,1),(2,1),(3,1),(4,1),(5,1)]:=by kernel_rfl
theorem fo189_0:jY prog 189 0=some 0:=by kernel_rfl
theorem fo189_1:jY prog 189 1=some 1:=by kernel_rfl
theorem fo189_2:jY prog 189 2=some 2:=by kernel_rfl
theorem fo189_3:jY prog 189 3=some 3:=by kernel_rfl
theorem fo189_4:jY prog 189 4=some 4:=by kernel_rfl
theorem fo189_5:jY prog 189 5=some 5:=by kernel_rfl
theorem sz228:cO prog 228=some 3:=by kernel_rfl
theorem ag228:nR prog 228=some true:=by kernel_rfl
theorem ud228:ud prog 228=.ar 3 9:=by kernel_rfl
theorem zc228:dJ prog 228=some [.lit (.string ByteArray.empty),.lit (.string ByteArray.empty),.lit (.string ByteArray.empty)]:=by kernel_rfl
theorem sz234:cO prog 234=some 26:=by kernel_rfl
theorem ag234:nR prog 234=some true:=by kernel_rfl
theorem ud234:ud prog 234=.ar 26 9:=by kernel_rfl
theorem ud253:ud prog 253=.sl 9:=by kernel_rfl
theorem ud254:ud prog 254=.ar 13 9:=by kernel_rfl
theorem ud266:ud prog 266=.int .u64:=by kernel_rfl
theorem sz268:cO prog 268=some 1:=by kernel_rfl
theorem ag268:nR prog 268=some false:=by kernel_rfl
theorem ud268:ud prog 268=.sl 270:=by kernel_rfl
theorem sz270:cO prog 270=some 3:=by kernel_rfl
theorem by270:(prog.info? 270).map (·.bytes)=some 40:=by kernel_rfl
theorem ag270:nR prog 270=some true:=by kernel_rfl
theorem ud270:ud prog 270=.st:=by kernel_rfl
theorem zc270:dJ prog 270=some [.lit (.int .i64 0),.lit (.int .u32 0),.list .exact []]:=by kernel_rfl
theorem sp270:nX prog 270=some [(0,1),(1,1),(2,1)]:=by kernel_rfl
theorem fo270_0:jY prog 270 0=some 0:=by kernel_rfl
theorem fo270_1:jY prog 270 1=some 1:=by kernel_rfl
theorem fo270_2:jY prog 270 2=some 2:=by kernel_rfl
theorem sz282:cO prog 282=some 2:=by kernel_rfl
theorem ag282:nR prog 282=some true:=by kernel_rfl
theorem zc282:dJ prog 282=some [.lit (.string ByteArray.empty),.lit (.int .i64 0)]:=by kernel_rfl
theorem fo282_0:jY prog 282 0=some 0:=by kernel_rfl
theorem fo282_1:jY prog 282 1=some 1:=by kernel_rfl
theorem sz283:cO prog 283=some 30:=by kernel_rfl
theorem ag283:nR prog 283=some true:=by kernel_rfl
theorem ud283:ud prog 283=.ar 15 282:=by kernel_rfl
theorem ud294:ud prog 294=.ar 2 9:=by kernel_rfl
theorem zc294:dJ prog 294=some [.lit (.string ByteArray.empty),.lit (.string ByteArray.empty)]:=by kernel_rfl
theorem ud295:ud prog 295=.ar 7 228:=by kernel_rfl
attribute [go_sem] sz1 sz2 Qx by3 ag3 ud3 zc3 sz4 ag4 sz5 ud5 zc5 sz9 ag9 ud9 ud22 sz23 by23 ag23 ud23 zc23 sz25 ag25 ud25 sz27 ag27 ud27 zc27 sp27 fo27_0 sz28 ag28 sz41 ag41 ud41 sz42 ag42 ud42 Ku by44 ag44 ud44 zc44 sp44 fo44_0 fo44_1 fo44_2 fo44_3 fo44_4 fo44_5 sz51 ag51 ud51 sz52 ag52 ud52 sz54 ag54 ud54 zc54 sp54 fo54_0 fo54_1 sz56 by56 ag56 ud56 zc56 sz57 ag57 ud57 sz59 ag59 ud59 zc59 sp59 fo59_0 fo59_1 fo59_2 fo59_3 GX by66 ag66 ud66 zc66 sp66 fo66_0 fo66_1 fo66_2 sz71 by71 ag71 ud71 zc71 sp71 sz72 by72 ag72 ud72 zc72 sz74 ag74 ud74 sz76 by76 ag76 ud76 zc76 sp76 fo76_0 fo76_1 fo76_2 fo76_3 fo76_4 fo76_5 fo76_6 sz77 ag77 ud77 sz79 by79 ag79 ud79 zc79 sp79 fo79_0 fo79_1 fo79_2 fo79_3 fo79_4 sz83 ag83 sz84 by84 ag84 ud84 zc84 sz85 ag85 ud85 ud87 zc87 sp87 fo87_0 fo87_1 fo87_2 fo87_3 fo87_4 fo87_5 fo87_6 sz89 ag89 zc89 ud90 ud129 zc129 sp129 fo129_0 fo129_1 fo129_2 fo129_3 ud133 zc133 sp133 fo133_0 fo133_1 fo133_2 fo133_3 fo133_4 sz136 ag136 ud136 sz139 ag139 ud141 zc141 sp141 fo141_0 fo141_1 fo141_2 fo141_3 fo141_4 sz144 by144 ag144 ud144 zc144 sp144 ft144_0 fo144_0 ft144_1 fo144_2 fo144_3 sz184 ag184 zc184 fo184_0 fo184_1 sz185 ag185 ud185 sz189 by189 ag189 ud189 zc189 sp189 fo189_0 fo189_1 fo189_2 fo189_3 fo189_4 fo189_5 sz228 ag228 ud228 zc228 sz234 ag234 ud234 ud253 ud254 ud266 sz268 ag268 ud268 sz270 by270 ag270 ud270 zc270 sp270 fo270_0 fo270_1 fo270_2 sz282 ag282 zc282 fo282_0 fo282_1 sz283 ag283 ud283 ud294 zc294 ud295
end Go.Proofs.YtncembphlfbgoaaGreatDoor.Abs
