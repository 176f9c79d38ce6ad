/-
 Facts on the types of the translation, each by the kernel. Written by a program of mine (facts.py).
-/
import Derived.Test.YtldnmmnnohnpkaaGreatDoorProg
import Derived.Test.YtldnmmnnohnpkaaGreatDoorILA20
import Derived.KernelRfl
namespace Go.Proofs.YtldnmmnnohnpkaaGreatDoor.Abs
set_option linter.unusedVariables false
@[go_sem] theorem sz1:zbo Tryz.prog 1=some 1:=by kernel_rfl
@[go_sem] theorem sz2:zbo Tryz.prog 2=some 1:=by kernel_rfl
@[go_sem] theorem sz3:zbo Tryz.prog 3=some 1:=by kernel_rfl
@[go_sem] theorem by3:(Tryz.prog.info? 3).map (·.bytes)=some 8:=by kernel_rfl
@[go_sem] theorem ag3:aggT Tryz.prog 3=some false:=by kernel_rfl
@[go_sem] theorem ud3:ud Tryz.prog 3=.int .i64:=by kernel_rfl
@[go_sem] theorem zc3:zbv Tryz.prog 3=some [.lit (.int .i64 0)]:=by kernel_rfl
@[go_sem] theorem sz4:zbo Tryz.prog 4=some 1:=by kernel_rfl
@[go_sem] theorem ag4:aggT Tryz.prog 4=some false:=by kernel_rfl
@[go_sem] theorem sz5:zbo Tryz.prog 5=some 1:=by kernel_rfl
@[go_sem] theorem ud5:ud Tryz.prog 5=.int .u8:=by kernel_rfl
@[go_sem] theorem zc5:zbv Tryz.prog 5=some [.lit (.int .u8 0)]:=by kernel_rfl
@[go_sem] theorem sz9:zbo Tryz.prog 9=some 1:=by kernel_rfl
@[go_sem] theorem ag9:aggT Tryz.prog 9=some false:=by kernel_rfl
@[go_sem] theorem ud9:ud Tryz.prog 9=.str:=by kernel_rfl
@[go_sem] theorem ud22:ud Tryz.prog 22=.sl 5:=by kernel_rfl
@[go_sem] theorem sz24:zbo Tryz.prog 24=some 1:=by kernel_rfl
@[go_sem] theorem ag24:aggT Tryz.prog 24=some false:=by kernel_rfl
@[go_sem] theorem ud24:ud Tryz.prog 24=.sl 33:=by kernel_rfl
@[go_sem] theorem sz26:zbo Tryz.prog 26=some 1:=by kernel_rfl
@[go_sem] theorem ag26:aggT Tryz.prog 26=some true:=by kernel_rfl
@[go_sem] theorem ud26:ud Tryz.prog 26=.st:=by kernel_rfl
@[go_sem] theorem zc26:zbv Tryz.prog 26=some [.list .exact []]:=by kernel_rfl
@[go_sem] theorem sp26:zeb Tryz.prog 26=some [(0,1)]:=by kernel_rfl
@[go_sem] theorem fo26_0:foff Tryz.prog 26 0=some 0:=by kernel_rfl
@[go_sem] theorem sz27:zbo Tryz.prog 27=some 1:=by kernel_rfl
@[go_sem] theorem ag27:aggT Tryz.prog 27=some false:=by kernel_rfl
@[go_sem] theorem sz30:zbo Tryz.prog 30=some 1:=by kernel_rfl
@[go_sem] theorem ag30:aggT Tryz.prog 30=some false:=by kernel_rfl
@[go_sem] theorem ud30:ud Tryz.prog 30=.sl 40:=by kernel_rfl
@[go_sem] theorem sz31:zbo Tryz.prog 31=some 1:=by kernel_rfl
@[go_sem] theorem ag31:aggT Tryz.prog 31=some false:=by kernel_rfl
@[go_sem] theorem ud31:ud Tryz.prog 31=.sl 87:=by kernel_rfl
@[go_sem] theorem sz33:zbo Tryz.prog 33=some 6:=by kernel_rfl
@[go_sem] theorem by33:(Tryz.prog.info? 33).map (·.bytes)=some 88:=by kernel_rfl
@[go_sem] theorem ag33:aggT Tryz.prog 33=some true:=by kernel_rfl
@[go_sem] theorem ud33:ud Tryz.prog 33=.st:=by kernel_rfl
@[go_sem] theorem zc33:zbv Tryz.prog 33=some [.lit (.string ByteArray.empty),.lit (.bool false),.lit (.int .i64 0),.lit (.int .i64 0),.nilv,.nilv]:=by kernel_rfl
@[go_sem] theorem sp33:zeb Tryz.prog 33=some [(0,1),(1,1),(2,1),(3,1),(4,1),(5,1)]:=by kernel_rfl
@[go_sem] theorem fo33_0:foff Tryz.prog 33 0=some 0:=by kernel_rfl
@[go_sem] theorem fo33_1:foff Tryz.prog 33 1=some 1:=by kernel_rfl
@[go_sem] theorem fo33_2:foff Tryz.prog 33 2=some 2:=by kernel_rfl
@[go_sem] theorem fo33_3:foff Tryz.prog 33 3=some 3:=by kernel_rfl
@[go_sem] theorem fo33_4:foff Tryz.prog 33 4=some 4:=by kernel_rfl
@[go_sem] theorem fo33_5:foff Tryz.prog 33 5=some 5:=by kernel_rfl
@[go_sem] theorem sz40:zbo Tryz.prog 40=some 3:=by kernel_rfl
@[go_sem] theorem by40:(Tryz.prog.info? 40).map (·.bytes)=some 32:=by kernel_rfl
@[go_sem] theorem ag40:aggT Tryz.prog 40=some true:=by kernel_rfl
@[go_sem] theorem ud40:ud Tryz.prog 40=.st:=by kernel_rfl
@[go_sem] theorem zc40:zbv Tryz.prog 40=some [.lit (.string ByteArray.empty),.lit (.int .i64 0),.lit (.int .i64 0)]:=by kernel_rfl
@[go_sem] theorem sp40:zeb Tryz.prog 40=some [(0,1),(1,1),(2,1)]:=by kernel_rfl
@[go_sem] theorem fo40_0:foff Tryz.prog 40 0=some 0:=by kernel_rfl
@[go_sem] theorem fo40_1:foff Tryz.prog 40 1=some 1:=by kernel_rfl
@[go_sem] theorem fo40_2:foff Tryz.prog 40 2=some 2:=by kernel_rfl
@[go_sem] theorem sz42:zbo Tryz.prog 42=some 1:=by kernel_rfl
@[go_sem] theorem by42:(Tryz.prog.info? 42).map (·.bytes)=some 4:=by kernel_rfl
@[go_sem] theorem ag42:aggT Tryz.prog 42=some false:=by kernel_rfl
@[go_sem] theorem ud42:ud Tryz.prog 42=.int .u32:=by kernel_rfl
@[go_sem] theorem zc42:zbv Tryz.prog 42=some [.lit (.int .u32 0)]:=by kernel_rfl
@[go_sem] theorem sz57:zbo Tryz.prog 57=some 1:=by kernel_rfl
@[go_sem] theorem ag57:aggT Tryz.prog 57=some false:=by kernel_rfl
@[go_sem] theorem ud57:ud Tryz.prog 57=.sl 62:=by kernel_rfl
@[go_sem] theorem sz58:zbo Tryz.prog 58=some 1:=by kernel_rfl
@[go_sem] theorem ag58:aggT Tryz.prog 58=some false:=by kernel_rfl
@[go_sem] theorem ud58:ud Tryz.prog 58=.sl 83:=by kernel_rfl
@[go_sem] theorem sz60:zbo Tryz.prog 60=some 2:=by kernel_rfl
@[go_sem] theorem ag60:aggT Tryz.prog 60=some true:=by kernel_rfl
@[go_sem] theorem ud60:ud Tryz.prog 60=.st:=by kernel_rfl
@[go_sem] theorem zc60:zbv Tryz.prog 60=some [.list .exact [],.list .exact []]:=by kernel_rfl
@[go_sem] theorem sp60:zeb Tryz.prog 60=some [(0,1),(1,1)]:=by kernel_rfl
@[go_sem] theorem fo60_0:foff Tryz.prog 60 0=some 0:=by kernel_rfl
@[go_sem] theorem fo60_1:foff Tryz.prog 60 1=some 1:=by kernel_rfl
@[go_sem] theorem sz62:zbo Tryz.prog 62=some 1:=by kernel_rfl
@[go_sem] theorem by62:(Tryz.prog.info? 62).map (·.bytes)=some 8:=by kernel_rfl
@[go_sem] theorem ag62:aggT Tryz.prog 62=some false:=by kernel_rfl
@[go_sem] theorem ud62:ud Tryz.prog 62=.int .u64:=by kernel_rfl
@[go_sem] theorem zc62:zbv Tryz.prog 62=some [.lit (.int .u64 0)]:=by kernel_rfl
@[go_sem] theorem sz63:zbo Tryz.prog 63=some 1:=by kernel_rfl
@[go_sem] theorem ag63:aggT Tryz.prog 63=some false:=by kernel_rfl
@[go_sem] theorem ud63:ud Tryz.prog 63=.sl 82:=by kernel_rfl
@[go_sem] theorem sz65:zbo Tryz.prog 65=some 4:=by kernel_rfl
@[go_sem] theorem ag65:aggT Tryz.prog 65=some true:=by kernel_rfl
@[go_sem] theorem ud65:ud Tryz.prog 65=.st:=by kernel_rfl
@[go_sem] theorem zc65:zbv Tryz.prog 65=some [.lit (.int .i64 0),.lit (.int .u64 0),.list .exact [],.list .exact []]:=by kernel_rfl
@[go_sem] theorem sp65:zeb Tryz.prog 65=some [(0,1),(1,1),(2,1),(3,1)]:=by kernel_rfl
@[go_sem] theorem fo65_0:foff Tryz.prog 65 0=some 0:=by kernel_rfl
@[go_sem] theorem fo65_1:foff Tryz.prog 65 1=some 1:=by kernel_rfl
@[go_sem] theorem fo65_2:foff Tryz.prog 65 2=some 2:=by kernel_rfl
@[go_sem] theorem sz82:zbo Tryz.prog 82=some 3:=by kernel_rfl
@[go_sem] theorem by82:(Tryz.prog.info? 82).map (·.bytes)=some 16:=by kernel_rfl
@[go_sem] theorem ud82:ud Tryz.prog 82=.st:=by kernel_rfl
@[go_sem] theorem zc82:zbv Tryz.prog 82=some [.lit (.int .i64 0),.lit (.int .u32 0),.lit (.int .u32 0)]:=by kernel_rfl
@[go_sem] theorem sp82:zeb Tryz.prog 82=some [(0,1),(1,1),(2,1)]:=by kernel_rfl
@[go_sem] theorem sz83:zbo Tryz.prog 83=some 1:=by kernel_rfl
@[go_sem] theorem by83:(Tryz.prog.info? 83).map (·.bytes)=some 24:=by kernel_rfl
@[go_sem] theorem ag83:aggT Tryz.prog 83=some false:=by kernel_rfl
@[go_sem] theorem ud83:ud Tryz.prog 83=.sl 42:=by kernel_rfl
@[go_sem] theorem zc83:zbv Tryz.prog 83=some [.list .exact []]:=by kernel_rfl
@[go_sem] theorem sz85:zbo Tryz.prog 85=some 1:=by kernel_rfl
@[go_sem] theorem ag85:aggT Tryz.prog 85=some false:=by kernel_rfl
@[go_sem] theorem ud85:ud Tryz.prog 85=.sl 105:=by kernel_rfl
@[go_sem] theorem sz87:zbo Tryz.prog 87=some 7:=by kernel_rfl
@[go_sem] theorem by87:(Tryz.prog.info? 87).map (·.bytes)=some 112:=by kernel_rfl
@[go_sem] theorem ag87:aggT Tryz.prog 87=some true:=by kernel_rfl
@[go_sem] theorem ud87:ud Tryz.prog 87=.st:=by kernel_rfl
@[go_sem] theorem zc87:zbv Tryz.prog 87=some [.lit (.string ByteArray.empty),.lit (.int .i64 0),.lit (.int .i64 0),.list .exact [],.list .exact [],.list .exact [],.lit (.int .i64 0)]:=by kernel_rfl
@[go_sem] theorem sp87:zeb Tryz.prog 87=some [(0,1),(1,1),(2,1),(3,1),(4,1),(5,1),(6,1)]:=by kernel_rfl
@[go_sem] theorem fo87_0:foff Tryz.prog 87 0=some 0:=by kernel_rfl
@[go_sem] theorem fo87_1:foff Tryz.prog 87 1=some 1:=by kernel_rfl
@[go_sem] theorem fo87_2:foff Tryz.prog 87 2=some 2:=by kernel_rfl
@[go_sem] theorem fo87_3:foff Tryz.prog 87 3=some 3:=by kernel_rfl
@[go_sem] theorem fo87_4:foff Tryz.prog 87 4=some 4:=by kernel_rfl
@[go_sem] theorem fo87_5:foff Tryz.prog 87 5=some 5:=by kernel_rfl
@[go_sem] theorem fo87_6:foff Tryz.prog 87 6=some 6:=by kernel_rfl
@[go_sem] theorem sz88:zbo Tryz.prog 88=some 1:=by kernel_rfl
@[go_sem] theorem ag88:aggT Tryz.prog 88=some false:=by kernel_rfl
@[go_sem] theorem ud88:ud Tryz.prog 88=.sl 90:=by kernel_rfl
@[go_sem] theorem sz90:zbo Tryz.prog 90=some 5:=by kernel_rfl
@[go_sem] theorem by90:(Tryz.prog.info? 90).map (·.bytes)=some 64:=by kernel_rfl
@[go_sem] theorem ag90:aggT Tryz.prog 90=some true:=by kernel_rfl
@[go_sem] theorem ud90:ud Tryz.prog 90=.st:=by kernel_rfl
@[go_sem] theorem zc90:zbv Tryz.prog 90=some [.lit (.int .i64 0),.lit (.int .i64 0),.lit (.string ByteArray.empty),.lit (.int .u32 0),.list .exact []]:=by kernel_rfl
@[go_sem] theorem sp90:zeb Tryz.prog 90=some [(0,1),(1,1),(2,1),(3,1),(4,1)]:=by kernel_rfl
@[go_sem] theorem fo90_0:foff Tryz.prog 90 0=some 0:=by kernel_rfl
@[go_sem] theorem fo90_1:foff Tryz.prog 90 1=some 1:=by kernel_rfl
@[go_sem] theorem fo90_2:foff Tryz.prog 90 2=some 2:=by kernel_rfl
@[go_sem] theorem fo90_3:foff Tryz.prog 90 3=some 3:=by kernel_rfl
@[go_sem] theorem fo90_4:foff Tryz.prog 90 4=some 4:=by kernel_rfl
@[go_sem] theorem sz94:zbo Tryz.prog 94=some 1:=by kernel_rfl
@[go_sem] theorem ag94:aggT Tryz.prog 94=some false:=by kernel_rfl
@[go_sem] theorem sz95:zbo Tryz.prog 95=some 1:=by kernel_rfl
@[go_sem] theorem by95:(Tryz.prog.info? 95).map (·.bytes)=some 24:=by kernel_rfl
@[go_sem] theorem ag95:aggT Tryz.prog 95=some false:=by kernel_rfl
@[go_sem] theorem ud95:ud Tryz.prog 95=.sl 3:=by kernel_rfl
@[go_sem] theorem zc95:zbv Tryz.prog 95=some [.list .exact []]:=by kernel_rfl
@[go_sem] theorem sz96:zbo Tryz.prog 96=some 1:=by kernel_rfl
@[go_sem] theorem ag96:aggT Tryz.prog 96=some false:=by kernel_rfl
@[go_sem] theorem ud96:ud Tryz.prog 96=.sl 95:=by kernel_rfl
@[go_sem] theorem ud98:ud Tryz.prog 98=.st:=by kernel_rfl
@[go_sem] theorem zc98:zbv Tryz.prog 98=some [.list .exact [],.lit (.pointer none),.list .exact [],.list .exact [],.lit (.int .i64 0),.lit (.int .i64 0),.lit (.int .i64 0)]:=by kernel_rfl
@[go_sem] theorem sp98:zeb Tryz.prog 98=some [(0,1),(1,1),(2,1),(3,1),(4,1),(5,1),(6,1)]:=by kernel_rfl
@[go_sem] theorem fo98_0:foff Tryz.prog 98 0=some 0:=by kernel_rfl
@[go_sem] theorem fo98_1:foff Tryz.prog 98 1=some 1:=by kernel_rfl
@[go_sem] theorem fo98_2:foff Tryz.prog 98 2=some 2:=by kernel_rfl
@[go_sem] theorem fo98_3:foff Tryz.prog 98 3=some 3:=by kernel_rfl
@[go_sem] theorem fo98_4:foff Tryz.prog 98 4=some 4:=by kernel_rfl
@[go_sem] theorem fo98_5:foff Tryz.prog 98 5=some 5:=by kernel_rfl
@[go_sem] theorem fo98_6:foff Tryz.prog 98 6=some 6:=by kernel_rfl
@[go_sem] theorem sz100:zbo Tryz.prog 100=some 1:=by kernel_rfl
@[go_sem] theorem ag100:aggT Tryz.prog 100=some false:=by kernel_rfl
@[go_sem] theorem zc100:zbv Tryz.prog 100=some [.lit .nilFunc]:=by kernel_rfl
@[go_sem] theorem ud101:ud Tryz.prog 101=.sl 100:=by kernel_rfl
@[go_sem] theorem sz105:zbo Tryz.prog 105=some 6:=by kernel_rfl
@[go_sem] theorem by105:(Tryz.prog.info? 105).map (·.bytes)=some 72:=by kernel_rfl
@[go_sem] theorem ag105:aggT Tryz.prog 105=some true:=by kernel_rfl
@[go_sem] theorem ud105:ud Tryz.prog 105=.st:=by kernel_rfl
@[go_sem] theorem zc105:zbv Tryz.prog 105=some [.lit (.string ByteArray.empty),.lit (.int .i64 0),.lit (.int .u32 0),.lit (.int .i64 0),.list .exact [],.lit (.int .i64 0)]:=by kernel_rfl
@[go_sem] theorem sp105:zeb Tryz.prog 105=some [(0,1),(1,1),(2,1),(3,1),(4,1),(5,1)]:=by kernel_rfl
@[go_sem] theorem fo105_0:foff Tryz.prog 105 0=some 0:=by kernel_rfl
@[go_sem] theorem fo105_1:foff Tryz.prog 105 1=some 1:=by kernel_rfl
@[go_sem] theorem fo105_2:foff Tryz.prog 105 2=some 2:=by kernel_rfl
@[go_sem] theorem fo105_3:foff Tryz.prog 105 3=some 3:=by kernel_rfl
@[go_sem] theorem fo105_4:foff Tryz.prog 105 4=some 4:=by kernel_rfl
@[go_sem] theorem fo105_5:foff Tryz.prog 105 5=some 5:=by kernel_rfl
@[go_sem] theorem ud144:ud Tryz.prog 144=.st:=by kernel_rfl
@[go_sem] theorem zc144:zbv Tryz.prog 144=some [.lit (.string ByteArray.empty),.lit (.bool false),.lit (.int .i64 0),.lit (.int .i64 0),.list .exact [],.list .exact [],.list .exact [],.list .exact [],.lit (.int .u64 0)]:=by kernel_rfl
@[go_sem] theorem sp144:zeb Tryz.prog 144=some [(0,6),(6,1),(7,1),(8,1)]:=by kernel_rfl
@[go_sem] theorem fo144_0:foff Tryz.prog 144 0=some 0:=by kernel_rfl
@[go_sem] theorem fo144_1:foff Tryz.prog 144 1=some 6:=by kernel_rfl
@[go_sem] theorem fo144_2:foff Tryz.prog 144 2=some 7:=by kernel_rfl
@[go_sem] theorem fo144_3:foff Tryz.prog 144 3=some 8:=by kernel_rfl
@[go_sem] theorem ud148:ud Tryz.prog 148=.st:=by kernel_rfl
@[go_sem] theorem zc148:zbv Tryz.prog 148=some [.list .exact [],.lit (.int .i64 0),.lit (.int .i64 0),.lit (.int .i64 0),.list .exact []]:=by kernel_rfl
@[go_sem] theorem sp148:zeb Tryz.prog 148=some [(0,1),(1,1),(2,1),(3,1),(4,1)]:=by kernel_rfl
@[go_sem] theorem fo148_0:foff Tryz.prog 148 0=some 0:=by kernel_rfl
@[go_sem] theorem fo148_1:foff Tryz.prog 148 1=some 1:=by kernel_rfl
@[go_sem] theorem fo148_2:foff Tryz.prog 148 2=some 2:=by kernel_rfl
@[go_sem] theorem fo148_3:foff Tryz.prog 148 3=some 3:=by kernel_rfl
@[go_sem] theorem fo148_4:foff Tryz.prog 148 4=some 4:=by kernel_rfl
@[go_sem] theorem sz151:zbo Tryz.prog 151=some 2:=by kernel_rfl
@[go_sem] theorem ag151:aggT Tryz.prog 151=some true:=by kernel_rfl
@[go_sem] theorem zc151:zbv Tryz.prog 151=some [.lit (.string ByteArray.empty),.lit (.int .i64 0)]:=by kernel_rfl
@[go_sem] theorem fo151_0:foff Tryz.prog 151 0=some 0:=by kernel_rfl
@[go_sem] theorem fo151_1:foff Tryz.prog 151 1=some 1:=by kernel_rfl
@[go_sem] theorem sz152:zbo Tryz.prog 152=some 30:=by kernel_rfl
@[go_sem] theorem ag152:aggT Tryz.prog 152=some true:=by kernel_rfl
@[go_sem] theorem ud152:ud Tryz.prog 152=.ar 15 151:=by kernel_rfl
@[go_sem] theorem sz153:zbo Tryz.prog 153=some 1:=by kernel_rfl
@[go_sem] theorem ag153:aggT Tryz.prog 153=some false:=by kernel_rfl
@[go_sem] theorem ud153:ud Tryz.prog 153=.sl 161:=by kernel_rfl
@[go_sem] theorem sz156:zbo Tryz.prog 156=some 1:=by kernel_rfl
@[go_sem] theorem ag156:aggT Tryz.prog 156=some false:=by kernel_rfl
@[go_sem] theorem ud158:ud Tryz.prog 158=.st:=by kernel_rfl
@[go_sem] theorem zc158:zbv Tryz.prog 158=some [.list .exact [],.lit (.int .i64 0),.lit (.int .i64 0),.lit (.int .i64 0),.lit (.int .i64 0)]:=by kernel_rfl
@[go_sem] theorem sp158:zeb Tryz.prog 158=some [(0,1),(1,1),(2,1),(3,1),(4,1)]:=by kernel_rfl
@[go_sem] theorem fo158_0:foff Tryz.prog 158 0=some 0:=by kernel_rfl
@[go_sem] theorem fo158_1:foff Tryz.prog 158 1=some 1:=by kernel_rfl
@[go_sem] theorem fo158_2:foff Tryz.prog 158 2=some 2:=by kernel_rfl
@[go_sem] theorem fo158_3:foff Tryz.prog 158 3=some 3:=by kernel_rfl
@[go_sem] theorem fo158_4:foff Tryz.prog 158 4=some 4:=by kernel_rfl
@[go_sem] theorem sz161:zbo Tryz.prog 161=some 4:=by kernel_rfl
@[go_sem] theorem by161:(Tryz.prog.info? 161).map (·.bytes)=some 40:=by kernel_rfl
@[go_sem] theorem ag161:aggT Tryz.prog 161=some true:=by kernel_rfl
@[go_sem] theorem ud161:ud Tryz.prog 161=.st:=by kernel_rfl
@[go_sem] theorem zc161:zbv Tryz.prog 161=some [.lit (.int .i64 0),.lit (.int .i64 0),.lit (.string ByteArray.empty),.lit (.int .u32 0)]:=by kernel_rfl
@[go_sem] theorem sp161:zeb Tryz.prog 161=some [(0,1),(1,1),(2,1),(3,1)]:=by kernel_rfl
@[go_sem] theorem ft161_0:fdT Tryz.prog 161 0=some (3,0):=by kernel_rfl
@[go_sem] theorem fo161_0:foff Tryz.prog 161 0=some 0:=by kernel_rfl
@[go_sem] theorem ft161_1:fdT Tryz.prog 161 1=some (3,1):=by kernel_rfl
@[go_sem] theorem fo161_2:foff Tryz.prog 161 2=some 2:=by kernel_rfl
@[go_sem] theorem fo161_3:foff Tryz.prog 161 3=some 3:=by kernel_rfl
@[go_sem] theorem sz198:zbo Tryz.prog 198=some 2:=by kernel_rfl
@[go_sem] theorem ag198:aggT Tryz.prog 198=some true:=by kernel_rfl
@[go_sem] theorem zc198:zbv Tryz.prog 198=some [.lit (.string ByteArray.empty),.lit (.int .i64 0)]:=by kernel_rfl
@[go_sem] theorem fo198_0:foff Tryz.prog 198 0=some 0:=by kernel_rfl
@[go_sem] theorem fo198_1:foff Tryz.prog 198 1=some 1:=by kernel_rfl
@[go_sem] theorem sz199:zbo Tryz.prog 199=some 10:=by kernel_rfl
@[go_sem] theorem ag199:aggT Tryz.prog 199=some true:=by kernel_rfl
@[go_sem] theorem ud199:ud Tryz.prog 199=.ar 5 198:=by kernel_rfl
@[go_sem] theorem sz240:zbo Tryz.prog 240=some 3:=by kernel_rfl
@[go_sem] theorem ag240:aggT Tryz.prog 240=some true:=by kernel_rfl
@[go_sem] theorem ud240:ud Tryz.prog 240=.ar 3 9:=by kernel_rfl
@[go_sem] theorem zc240:zbv Tryz.prog 240=some [.lit (.string ByteArray.empty),.lit (.string ByteArray.empty),.lit (.string ByteArray.empty)]:=by kernel_rfl
@[go_sem] theorem sz246:zbo Tryz.prog 246=some 26:=by kernel_rfl
@[go_sem] theorem ag246:aggT Tryz.prog 246=some true:=by kernel_rfl
@[go_sem] theorem ud246:ud Tryz.prog 246=.ar 26 9:=by kernel_rfl
@[go_sem] theorem ud264:ud Tryz.prog 264=.sl 9:=by kernel_rfl
@[go_sem] theorem ud265:ud Tryz.prog 265=.ar 13 9:=by kernel_rfl
@[go_sem] theorem ud277:ud Tryz.prog 277=.int .u64:=by kernel_rfl
@[go_sem] theorem sz279:zbo Tryz.prog 279=some 1:=by kernel_rfl
@[go_sem] theorem ag279:aggT Tryz.prog 279=some false:=by kernel_rfl
@[go_sem] theorem ud279:ud Tryz.prog 279=.sl 281:=by kernel_rfl
@[go_sem] theorem sz281:zbo Tryz.prog 281=some 3:=by kernel_rfl
@[go_sem] theorem by281:(Tryz.prog.info? 281).map (·.bytes)=some 40:=by kernel_rfl
@[go_sem] theorem ag281:aggT Tryz.prog 281=some true:=by kernel_rfl
@[go_sem] theorem ud281:ud Tryz.prog 281=.st:=by kernel_rfl
@[go_sem] theorem zc281:zbv Tryz.prog 281=some [.lit (.int .i64 0),.lit (.int .u32 0),.list .exact []]:=by kernel_rfl
@[go_sem] theorem sp281:zeb Tryz.prog 281=some [(0,1),(1,1),(2,1)]:=by kernel_rfl
@[go_sem] theorem fo281_0:foff Tryz.prog 281 0=some 0:=by kernel_rfl
@[go_sem] theorem fo281_1:foff Tryz.prog 281 1=some 1:=by kernel_rfl
@[go_sem] theorem fo281_2:foff Tryz.prog 281 2=some 2:=by kernel_rfl
@[go_sem] theorem ud303:ud Tryz.prog 303=.ar 2 9:=by kernel_rfl
@[go_sem] theorem zc303:zbv Tryz.prog 303=some [.lit (.string ByteArray.empty),.lit (.string ByteArray.empty)]:=by kernel_rfl
@[go_sem] theorem ud304:ud Tryz.prog 304=.ar 7 240:=by kernel_rfl
end Go.Proofs.YtldnmmnnohnpkaaGreatDoor.Abs
