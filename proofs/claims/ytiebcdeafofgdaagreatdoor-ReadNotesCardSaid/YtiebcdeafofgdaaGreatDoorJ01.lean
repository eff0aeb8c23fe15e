/-
  Parts of the proof: Shelf Shelf3 Lspec Rspec Qc. By an AI agent.
-/
import Derived.Test.YtiebcdeafofgdaaGreatDoorProg
import Derived.Test.YtiebcdeafofgdaaGreatDoorJ00
import Derived.Ground.NamesProg
import Derived.Shelf.Lays
import Derived.Shelf.Strings.Search3
import Derived.Shelf.Strings.Cut
import Derived.Shelf.Strings.Prefix
import Derived.Shelf.Small.Strs
import Derived.Shelf.Strings.OnBuilder
import Derived.BigQuiet
import Derived.Deep.Draws
namespace Go.Proofs
section
open Go.Shelf
def Tryz.laysContains_ren:Go.Shelf.Ren:=⟨fun | 144=>78 | 143=>108 | 219=>144 | 217=>149 | 225=>191 | 224=>192 | 267=>193 | 266=>198 | 314=>225 | n=>n,fun | 9=>9 | 4=>4 | 3=>3 | 5=>5 | 46=>150 | 146=>175 | 51=>174 | n=>n,fun | 1=>2 | n=>n⟩
theorem Tryz.laysContains:Go.Proofs.Lays.n144 Tryz.prog Tryz.laysContains_ren := {
 mixed:=by kernel_rfl
 f143:=Tryz.func108.trans (congrArg some (by kernel_rfl))
 f144:=Tryz.func78.trans (congrArg some (by kernel_rfl))
 f217:=Tryz.func149.trans (congrArg some (by kernel_rfl))
 f219:=Tryz.func144.trans (congrArg some (by kernel_rfl))
 f224:=Tryz.func192.trans (congrArg some (by kernel_rfl))
 f225:=Tryz.func191.trans (congrArg some (by kernel_rfl))
 f266:=Tryz.func198.trans (congrArg some (by kernel_rfl))
 f267:=Tryz.func193.trans (congrArg some (by kernel_rfl))
 f314:=Tryz.func225.trans (congrArg some (by kernel_rfl))
 t3:=Tryz.underlying3
 a3:=Tryz.isAgg3
 z3:=Tryz.sizeOf3
 v3:=Tryz.zeroValue3
 t4:=Tryz.underlying4
 a4:=Tryz.isAgg4
 z4:=Tryz.sizeOf4
 v4:=Tryz.zeroValue4
 t5:=Tryz.underlying5
 a5:=Tryz.isAgg5
 z5:=Tryz.sizeOf5
 v5:=Tryz.zeroValue5
 t9:=Tryz.underlying9
 a9:=Tryz.isAgg9
 z9:=Tryz.sizeOf9
 v9:=Tryz.zeroValue9
 t46:=Tryz.underlying150
 a46:=Tryz.isAgg150
 z46:=Tryz.sizeOf150
 v46:=Tryz.zeroValue150
 t51:=Tryz.underlying174
 a51:=Tryz.isAgg174
 z51:=Tryz.sizeOf174
 v51:=Tryz.zeroValue174
 t146:=Tryz.underlying175
 a146:=Tryz.isAgg175
 z146:=Tryz.sizeOf175
 v146:=Tryz.zeroValue175
 g1:=by kernel_rfl }
def Tryz.laysCut_ren:Go.Shelf.Ren:=⟨fun | 145=>215 | 220=>231 | 219=>144 | 217=>149 | 225=>191 | 224=>192 | 267=>193 | 266=>198 | 314=>225 | n=>n,fun | 9=>9 | 4=>4 | 59=>164 | 3=>3 | 5=>5 | 46=>150 | 146=>175 | 51=>174 | n=>n,fun | 1=>2 | n=>n⟩
theorem Tryz.laysCut:Go.Proofs.Lays.n145 Tryz.prog Tryz.laysCut_ren := {
 mixed:=by kernel_rfl
 f145:=Tryz.func215.trans (congrArg some (by kernel_rfl))
 f217:=Tryz.func149.trans (congrArg some (by kernel_rfl))
 f219:=Tryz.func144.trans (congrArg some (by kernel_rfl))
 f220:=Tryz.func231.trans (congrArg some (by kernel_rfl))
 f224:=Tryz.func192.trans (congrArg some (by kernel_rfl))
 f225:=Tryz.func191.trans (congrArg some (by kernel_rfl))
 f266:=Tryz.func198.trans (congrArg some (by kernel_rfl))
 f267:=Tryz.func193.trans (congrArg some (by kernel_rfl))
 f314:=Tryz.func225.trans (congrArg some (by kernel_rfl))
 t3:=Tryz.underlying3
 a3:=Tryz.isAgg3
 z3:=Tryz.sizeOf3
 v3:=Tryz.zeroValue3
 t4:=Tryz.underlying4
 a4:=Tryz.isAgg4
 z4:=Tryz.sizeOf4
 v4:=Tryz.zeroValue4
 t5:=Tryz.underlying5
 a5:=Tryz.isAgg5
 z5:=Tryz.sizeOf5
 v5:=Tryz.zeroValue5
 t9:=Tryz.underlying9
 a9:=Tryz.isAgg9
 z9:=Tryz.sizeOf9
 v9:=Tryz.zeroValue9
 t46:=Tryz.underlying150
 a46:=Tryz.isAgg150
 z46:=Tryz.sizeOf150
 v46:=Tryz.zeroValue150
 t51:=Tryz.underlying174
 a51:=Tryz.isAgg174
 z51:=Tryz.sizeOf174
 v51:=Tryz.zeroValue174
 t59:=Tryz.underlying164
 a59:=Tryz.isAgg164
 z59:=Tryz.sizeOf164
 v59:=Tryz.zeroValue164
 t146:=Tryz.underlying175
 a146:=Tryz.isAgg175
 z146:=Tryz.sizeOf175
 v146:=Tryz.zeroValue175
 g1:=by kernel_rfl }
def Tryz.laysPrefix_ren:Go.Shelf.Ren:=⟨fun | 99=>95 | 206=>141 | n=>n,fun | 9=>9 | 4=>4 | 3=>3 | n=>n,fun | n=>n⟩
theorem Tryz.laysPrefix:Go.Proofs.Lays.n99 Tryz.prog Tryz.laysPrefix_ren := {
 mixed:=by kernel_rfl
 f99:=Tryz.func95.trans (congrArg some (by kernel_rfl))
 f206:=Tryz.func141.trans (congrArg some (by kernel_rfl))
 t3:=Tryz.underlying3
 a3:=Tryz.isAgg3
 z3:=Tryz.sizeOf3
 v3:=Tryz.zeroValue3
 t4:=Tryz.underlying4
 a4:=Tryz.isAgg4
 z4:=Tryz.sizeOf4
 v4:=Tryz.zeroValue4
 t9:=Tryz.underlying9
 a9:=Tryz.isAgg9
 z9:=Tryz.sizeOf9
 v9:=Tryz.zeroValue9 }
def Tryz.laysIndexByte_ren:Go.Shelf.Ren:=⟨fun | 137=>115 | 217=>149 | 266=>198 | n=>n,fun | 9=>9 | 5=>5 | 3=>3 | n=>n,fun | n=>n⟩
theorem Tryz.laysIndexByte:Go.Proofs.Lays.n137 Tryz.prog Tryz.laysIndexByte_ren := {
 mixed:=by kernel_rfl
 f137:=Tryz.func115.trans (congrArg some (by kernel_rfl))
 f217:=Tryz.func149.trans (congrArg some (by kernel_rfl))
 f266:=Tryz.func198.trans (congrArg some (by kernel_rfl))
 t3:=Tryz.underlying3
 a3:=Tryz.isAgg3
 z3:=Tryz.sizeOf3
 v3:=Tryz.zeroValue3
 t5:=Tryz.underlying5
 a5:=Tryz.isAgg5
 z5:=Tryz.sizeOf5
 v5:=Tryz.zeroValue5
 t9:=Tryz.underlying9
 a9:=Tryz.isAgg9
 z9:=Tryz.sizeOf9
 v9:=Tryz.zeroValue9 }
def Tryz.laysIndex_ren:Go.Shelf.Ren:=⟨fun | 143=>108 | 219=>144 | 217=>149 | 225=>191 | 224=>192 | 267=>193 | 266=>198 | 314=>225 | n=>n,fun | 9=>9 | 3=>3 | 4=>4 | 5=>5 | 46=>150 | 146=>175 | 51=>174 | n=>n,fun | 1=>2 | n=>n⟩
theorem Tryz.laysIndex:Go.Proofs.Lays.n143 Tryz.prog Tryz.laysIndex_ren := {
 mixed:=by kernel_rfl
 f143:=Tryz.func108.trans (congrArg some (by kernel_rfl))
 f217:=Tryz.func149.trans (congrArg some (by kernel_rfl))
 f219:=Tryz.func144.trans (congrArg some (by kernel_rfl))
 f224:=Tryz.func192.trans (congrArg some (by kernel_rfl))
 f225:=Tryz.func191.trans (congrArg some (by kernel_rfl))
 f266:=Tryz.func198.trans (congrArg some (by kernel_rfl))
 f267:=Tryz.func193.trans (congrArg some (by kernel_rfl))
 f314:=Tryz.func225.trans (congrArg some (by kernel_rfl))
 t3:=Tryz.underlying3
 a3:=Tryz.isAgg3
 z3:=Tryz.sizeOf3
 v3:=Tryz.zeroValue3
 t4:=Tryz.underlying4
 a4:=Tryz.isAgg4
 z4:=Tryz.sizeOf4
 v4:=Tryz.zeroValue4
 t5:=Tryz.underlying5
 a5:=Tryz.isAgg5
 z5:=Tryz.sizeOf5
 v5:=Tryz.zeroValue5
 t9:=Tryz.underlying9
 a9:=Tryz.isAgg9
 z9:=Tryz.sizeOf9
 v9:=Tryz.zeroValue9
 t46:=Tryz.underlying150
 a46:=Tryz.isAgg150
 z46:=Tryz.sizeOf150
 v46:=Tryz.zeroValue150
 t51:=Tryz.underlying174
 a51:=Tryz.isAgg174
 z51:=Tryz.sizeOf174
 v51:=Tryz.zeroValue174
 t146:=Tryz.underlying175
 a146:=Tryz.isAgg175
 z146:=Tryz.sizeOf175
 v146:=Tryz.zeroValue175
 g1:=by kernel_rfl }
def Tryz.laysJoin_ren:Go.Shelf.Ren:=⟨fun | 156=>233 | 165=>200 | 166=>146 | 169=>148 | 240=>197 | 241=>229 | 276=>226 | 277=>239 | n=>n,fun | 31=>95 | 9=>9 | 3=>3 | 4=>4 | 0=>0 | 20=>20 | 72=>129 | 76=>134 | 70=>127 | 37=>27 | 75=>133 | 127=>159 | 164=>177 | 5=>5 | 80=>78 | n=>n,fun | n=>n⟩
theorem Tryz.laysJoin:Go.Proofs.Lays.n156 Tryz.prog Tryz.laysJoin_ren := {
 mixed:=by kernel_rfl
 f156:=Tryz.func233.trans (congrArg some (by kernel_rfl))
 f165:=Tryz.func200.trans (congrArg some (by kernel_rfl))
 f166:=Tryz.func146.trans (congrArg some (by kernel_rfl))
 f169:=Tryz.func148.trans (congrArg some (by kernel_rfl))
 f240:=Tryz.func197.trans (congrArg some (by kernel_rfl))
 f241:=Tryz.func229.trans (congrArg some (by kernel_rfl))
 f276:=Tryz.func226.trans (congrArg some (by kernel_rfl))
 f277:=Tryz.func239.trans (congrArg some (by kernel_rfl))
 t0:=Tryz.underlying0
 a0:=Tryz.isAgg0
 z0:=Tryz.sizeOf0
 v0:=Tryz.zeroValue0
 t3:=Tryz.underlying3
 a3:=Tryz.isAgg3
 z3:=Tryz.sizeOf3
 v3:=Tryz.zeroValue3
 t4:=Tryz.underlying4
 a4:=Tryz.isAgg4
 z4:=Tryz.sizeOf4
 v4:=Tryz.zeroValue4
 t9:=Tryz.underlying9
 a9:=Tryz.isAgg9
 z9:=Tryz.sizeOf9
 v9:=Tryz.zeroValue9
 t20:=Tryz.underlying20
 a20:=Tryz.isAgg20
 z20:=Tryz.sizeOf20
 v20:=Tryz.zeroValue20
 t31:=Tryz.underlying95
 a31:=Tryz.isAgg95
 z31:=Tryz.sizeOf95
 v31:=Tryz.zeroValue95
 t37:=Tryz.underlying27
 a37:=Tryz.isAgg27
 z37:=Tryz.sizeOf27
 v37:=Tryz.zeroValue27
 t70:=Tryz.underlying127
 a70:=Tryz.isAgg127
 z70:=Tryz.sizeOf127
 v70:=Tryz.zeroValue127
 t72:=Tryz.underlying129
 a72:=Tryz.isAgg129
 z72:=Tryz.sizeOf129
 v72:=Tryz.zeroValue129
 t75:=Tryz.underlying133
 a75:=Tryz.isAgg133
 z75:=Tryz.sizeOf133
 v75:=Tryz.zeroValue133
 t76:=Tryz.underlying134
 a76:=Tryz.isAgg134
 z76:=Tryz.sizeOf134
 v76:=Tryz.zeroValue134
 t127:=Tryz.underlying159
 a127:=Tryz.isAgg159
 z127:=Tryz.sizeOf159
 v127:=Tryz.zeroValue159
 t164:=Tryz.underlying177
 a164:=Tryz.isAgg177
 z164:=Tryz.sizeOf177
 v164:=Tryz.zeroValue177 }
theorem Tryz.joinX:Builder.Extra Tryz.prog Tryz.laysJoin_ren := {
 sizeBuilder:=by kernel_rfl
 liesBuilder:=by kernel_rfl
 t5:=Tryz.underlying5
 a5:=Tryz.isAgg5
 z5:=Tryz.sizeOf5
 v5:=Tryz.zeroValue5
 infoByte:=by kernel_rfl
 cellsByte:=by kernel_rfl
 sizeByte:=by kernel_rfl
 neB5:=by decide }
end
end Go.Proofs
namespace Go.Proofs.YtiebcdeafofgdaaGreatDoor
section
def da (c:Nat):Option Nat:=
 if 48≤c∧c≤57 then some (c-48) else if 97≤c∧c≤102 then some (c-87) else if 65≤c∧c≤70 then some (c-55) else none
def sJ:List UInt8→Nat × List UInt8
 | []=>(10,[])
 | [a]=>(10,[a])
 | a::b::r=>
  if a.toNat=48 then
   if b.toNat=120∨b.toNat=88 then (16,r)
   else if b.toNat=98∨b.toNat=66 then (2,r)
   else if b.toNat=111∨b.toNat=79 then (8,r)
   else (8,b::r)
  else (10,a::b::r)
def fH (m:Nat):List Nat:=if m=0 then [] else if m<10 then [m] else [m % 10,m / 10]
def dJ (f:Nat):List Nat→Nat→List Nat
 | [],m=>fH m
 | x::r,m=>(x * f+m) % 10::dJ f r ((x * f+m) / 10)
def dX (radix:Nat):List UInt8→List Nat→Bool→Nat→Option (List Nat × Bool × Nat)
 | [],v,line,many=>some (v,line,many)
 | c::r,v,line,many=>
  if c.toNat=95∧line=false then dX radix r v true many
  else match da c.toNat with
   | none=>none
   | some d=>if d<radix then dX radix r (dJ radix v d) false (many+1) else none
def fI (v:List Nat):ByteArray:=⟨((if v=[] then [0] else v.reverse).map fun d=>UInt8.ofNat (48+d)).toArray⟩
def lW (s:ByteArray):Option ByteArray:=
 if 200<s.size then none else
 let b:=sJ s.data.toList
 if b.1=10∧(b.2=[]∨(b.2.headD 0).toNat=95) then none else
 match dX b.1 b.2 [] false 0 with
 | none=>none
 | some (v,line,many)=>if line=true∨many=0∨(b.1=10∧1<many∧(b.2.headD 0).toNat=48) then none else some (fI v)
def bM (s:ByteArray):Nat→Nat→Option Nat
 | 0,_=>none
 | g+1,i=>
  if i<s.size then
   if (Utf8.decode s i).1=0∨((Utf8.decode s i).1=65533∧(Utf8.decode s i).2=1)∨((Utf8.decode s i).1=65279∧0<i) then some i
   else bM s g (i+(Utf8.decode s i).2)
  else none
def dE (s:ByteArray):Option Nat:=bM s s.size 0
def fk (radix:Nat):List UInt8→Nat→Option Nat
 | [],v=>some v
 | c::r,v=>match da c.toNat with
   | none=>none
   | some d=>if d<radix then fk radix r (v * radix+d) else none
def ct (s:List UInt8) (n radix:Nat):Option Nat:=if n≤s.length then fk radix (s.take n) 0 else none
def ev (c:Nat):Option Nat:=
 if c=97 then some 7 else if c=98 then some 8 else if c=102 then some 12 else if c=110 then some 10 else if c=114 then some 13
 else if c=116 then some 9 else if c=118 then some 11 else if c=92 then some 92 else if c=34 then some 34 else none
def iW:List UInt8→Option (List UInt8 × Nat)
 | []=>none
 | c::r=>
  match ev c.toNat with
  | some v=>some ([UInt8.ofNat v],1)
  | none=>
   if c.toNat=120 then (ct r 2 16).map fun v=>([UInt8.ofNat v],3)
   else if c.toNat=117 then (ct r 4 16).bind fun v=>if Utf8.valid (v:Int)=true then some ((Utf8.encode (v:Int)).data.toList,5) else none
   else if c.toNat=85 then (ct r 8 16).bind fun v=>if Utf8.valid (v:Int)=true then some ((Utf8.encode (v:Int)).data.toList,9) else none
   else (ct (c::r) 3 8).bind fun v=>if v≤255 then some ([UInt8.ofNat v],3) else none
def dp:Nat→List UInt8→Option (List UInt8)
 | 0,_=>none
 | _+1,[]=>some []
 | g+1,c::r=>
  if c.toNat=92 then (iW r).bind fun p=>(dp g (r.drop p.2)).map fun t=>p.1++t
  else if c.toNat=34∨c.toNat=10 then none
  else (dp g r).map fun t=>c::t
def ef (s:ByteArray):Option ByteArray:=
 if 65536<s.size then none
 else if s.size<2∨s.data.toList.head? ≠ s.data.toList.getLast? then none
 else if dE s≠none then none
 else if (s.data.toList.headD 0).toNat=34 then (dp (s.size+1) (s.data.toList.extract 1 (s.size-1))).map fun l=>⟨l.toArray⟩
 else if (s.data.toList.headD 0).toNat=96 then
  if (s.data.toList.extract 1 (s.size-1)).any (fun c=>c.toNat==96) then none
  else some ⟨((s.data.toList.extract 1 (s.size-1)).filter fun c=>c.toNat != 13).toArray⟩
 else none
structure bE where
 kind:Int
 text:ByteArray
 pos:Int
structure Cx where
 toks:List bE
 fin:Int
structure St where
 at_:Nat
 head:Bool
 part:Int
inductive cZ (α:Type) where
 | ok (a:α) (s:St)
 | fail (p:Int)
 | out
def R (α:Type):=Cx→St→cZ α
def cZ.bind {α β:Type} (r:cZ α) (f:α→St→cZ β):cZ β:=
 match r with
 | .ok a s=>f a s
 | .fail p=>.fail p
 | .out=>.out
@[simp] theorem cZ.bind_ok {α β:Type} (a:α) (s:St) (f:α→St→cZ β):(cZ.ok a s).bind f=f a s:=rfl
@[simp] theorem cZ.bind_fail {α β:Type} (p:Int) (f:α→St→cZ β):(cZ.fail p:cZ α).bind f=.fail p:=rfl
@[simp] theorem cZ.bind_out {α β:Type} (f:α→St→cZ β):(cZ.out:cZ α).bind f=.out:=rfl
def am (c:Cx) (i:Nat):bE:=
 match c.toks[i]? with
 | some t=>t
 | none=>⟨0,⟨#[]⟩,c.fin⟩
def yJ (t:bE) (x:ByteArray):Bool:=(t.kind==2||t.kind==6)&&decide (t.text=x)
def aE (c:Cx) (s:St) (x:ByteArray):Bool:=yJ (am c s.at_) x
def adv (s:St):St := { s with at_:=s.at_+1 }
def an (c:Cx) (s:St):Int:=(am c s.at_).pos
def need (x:ByteArray):R Unit:=fun c s=>if aE c s x then .ok () (adv s) else .fail (an c s)
def bQ:R ByteArray:=fun c s=>if (am c s.at_).kind=1 then .ok (am c s.at_).text (adv s) else .fail (an c s)
def db (c:Cx) (s:St):Bool:=aE c s (⟨#[59]⟩:BA)||aE c s (⟨#[10]⟩:BA)
def dA (c:Cx) (s:St):St:=if db c s then adv s else s
def dq (c:Cx) (s:St):Bool:=aE c s (⟨#[91]⟩:BA)&&(match c.toks[s.at_+1]? with | some t=>t.kind==6&&decide (t.text=(⟨#[93]⟩:BA)) | none=>false)
def aO (part:R Nd) (en:ByteArray):Nat→List Nd→R (List Nd)
 | 0,_=>fun _ _=>.out
 | g+1,acc=>fun c s=>
  if aE c s en then .ok acc (adv s) else
  (part c s).bind fun n s1=>
  if aE c s1 en then .ok (acc++[n]) (adv s1) else
  (need (⟨#[44]⟩:BA) c s1).bind fun _ s2=>aO part en g (acc++[n]) c s2
def bU {α:Type} (part:R α):R α:=fun c s=>(part c { s with head:=false }).bind fun a s1=>.ok a { s1 with head:=s.head }
def bG {α:Type} (part:R α):R α:=fun c s=>(part c { s with head:=true }).bind fun a s1=>.ok a { s1 with head:=s.head }
def oZ (c:Cx) (s:St):Bool:=(am c s.at_).kind==1||(aE c s (⟨#[91]⟩:BA)||(aE c s (⟨#[40]⟩:BA)||aE c s (⟨#[102,117,110,99]⟩:BA)))
structure eB where
 g:Nat
 typ:R Nd
 expr:R Nd
 unary:R Nd
 stmt:R Nd
 ifS:R Nd
section
variable (F:eB)
def cu:R Nd:=fun c s=>if oZ c s then F.typ c s else .ok bJ s
def fJ:R Nd:=fun c s=>(F.typ c s).bind fun t s1=>.ok (.mk 8 (⟨#[]⟩:BA) [t] (an c s)) s1
def cz (p:Int):R Nd:=fun c s=>
 (need (⟨#[40]⟩:BA) c s).bind fun _ s1=>(aO (fJ F) (⟨#[41]⟩:BA) F.g [] c s1).bind fun l s2=>
 (cu F c s2).bind fun r s3=>.ok (.mk 12 (⟨#[]⟩:BA) [.mk 6 (⟨#[]⟩:BA) l (an c s),r] p) s3
def dF:R Nd:=fun c s=>(bQ c s).bind fun x s1=>(F.typ c s1).bind fun t s2=>.ok (.mk 8 x [t] (an c s)) s2
def mw (p:Int):R Nd:=fun c s=>
 (need (⟨#[40]⟩:BA) c s).bind fun _ s1=>(aO (dF F) (⟨#[41]⟩:BA) F.g [] c s1).bind fun l s2=>
 (cu F c s2).bind fun r s3=>.ok (.mk 12 (⟨#[]⟩:BA) [.mk 6 (⟨#[]⟩:BA) l (an c s),r] p) s3
def pu:R Nd:=fun c s=>
 if aE c s (⟨#[40]⟩:BA) then (F.typ c (adv s)).bind fun t s1=>(need (⟨#[41]⟩:BA) c s1).bind fun _ s2=>.ok t s2
 else if aE c s (⟨#[91]⟩:BA) then (need (⟨#[93]⟩:BA) c (adv s)).bind fun _ s1=>(F.typ c s1).bind fun t s2=>.ok (.mk 11 (⟨#[]⟩:BA) [t] (an c s)) s2
 else if aE c s (⟨#[102,117,110,99]⟩:BA) then cz F (an c s) c (adv s)
 else (bQ c s).bind fun x s1=>
  if aE c s1 (⟨#[91]⟩:BA) && !dq c s1 then
   (aO F.typ (⟨#[93]⟩:BA) F.g [] c (adv s1)).bind fun l s2=>if l.length=0 then .fail (an c s2) else .ok (.mk 10 x l (an c s)) s2
  else .ok (.mk 10 x [] (an c s)) s1
def ij:R Nd:=fun c s=>
 if aE c s (⟨#[126]⟩:BA) then (F.typ c (adv s)).bind fun t s1=>.ok (.mk 15 (⟨#[126]⟩:BA) [t] (an c s)) s1
 else (F.typ c s).bind fun t s1=>.ok (.mk 15 (⟨#[]⟩:BA) [t] (an c s)) s1
def dM (p:Int):Nat→List Nd→R Nd
 | 0,_=>fun _ _=>.out
 | g+1,acc=>fun c s=>
  if aE c s (⟨#[124]⟩:BA) then (ij F c (adv s)).bind fun t s1=>dM p g (acc++[t]) c s1
  else .ok (.mk 14 (⟨#[]⟩:BA) acc p) s
def dK (p:Int):R Nd:=fun c s=>(ij F c s).bind fun t s1=>dM F p F.g [t] c s1
def eC (p:Int):R Nd:=fun c s=>
 (need (⟨#[123]⟩:BA) c s).bind fun _ s1=>(dK F p c s1).bind fun n s2=>(need (⟨#[125]⟩:BA) c (dA c s2)).bind fun _ s3=>.ok n s3
def fK (n:Nd):Option Nd:=
 match n.kids with
 | [t]=>match t.kids with
   | k::_=>if t.text=(⟨#[]⟩:BA)∧k.kind=10 then some k else none
   | []=>none
 | _=>none
def cP:R Nd:=fun c s=>
 if aE c s (⟨#[105,110,116,101,114,102,97,99,101]⟩:BA) then eC F (an c s) c (adv s)
 else (dK F (an c s) c s).bind fun n s1=>.ok ((fK n).getD n) s1
def cK:R Nd:=fun c s=>(bQ c s).bind fun x s1=>(cP F c s1).bind fun t s2=>.ok (.mk 7 x [t] (an c s)) s2
def dG:R Nd:=fun c s=>
 if aE c s (⟨#[91]⟩:BA) && !dq c s then
  (aO (cK F) (⟨#[93]⟩:BA) F.g [] c (adv s)).bind fun l s1=>if l.length=0 then .fail (an c s1) else .ok (.mk 6 (⟨#[]⟩:BA) l (an c s)) s1
 else .ok (.mk 6 (⟨#[]⟩:BA) [] 0) s
def co (p:Int):Nat→List Nd→R Nd
 | 0,_=>fun _ _=>.out
 | g+1,acc=>fun c s=>
  if aE c s (⟨#[125]⟩:BA) then .ok (.mk 13 (⟨#[]⟩:BA) acc p) (adv s) else
  (bQ c s).bind fun x s1=>(F.typ c s1).bind fun t s2=>
  if db c s2 then co p g (acc++[.mk 9 x [t] (an c s)]) c (adv s2)
  else if aE c s2 (⟨#[125]⟩:BA) then co p g (acc++[.mk 9 x [t] (an c s)]) c s2
  else .fail (an c s2)
def eK (p:Int):R Nd:=fun c s=>(need (⟨#[123]⟩:BA) c s).bind fun _ s1=>co F p F.g [] c s1
def cM:R Nd:=fun c s=>
 (need (⟨#[118,97,114]⟩:BA) c s).bind fun _ s1=>(bQ c s1).bind fun x s2=>
 if aE c s2 (⟨#[61]⟩:BA) then (F.expr c (adv s2)).bind fun v s3=>.ok (.mk 5 x [bJ,v] (an c s)) s3
 else (F.typ c s2).bind fun t s3=>
  if aE c s3 (⟨#[61]⟩:BA) then (F.expr c (adv s3)).bind fun v s4=>.ok (.mk 5 x [t,v] (an c s)) s4
  else .ok (.mk 5 x [t,bJ] (an c s)) s3
def eo (p:Int):R Nd:=fun c s=>
 (bQ c s).bind fun x s1=>(dG F c s1).bind fun ps s2=>
 if aE c s2 (⟨#[61]⟩:BA) then (F.typ c (adv s2)).bind fun t s3=>.ok (.mk 4 x [ps,t] p) s3
 else if aE c s2 (⟨#[115,116,114,117,99,116]⟩:BA) then (eK F (an c s2) c (adv s2)).bind fun t s3=>.ok (.mk 3 x [ps,t] p) s3
 else if aE c s2 (⟨#[105,110,116,101,114,102,97,99,101]⟩:BA) then (eC F (an c s2) c (adv s2)).bind fun t s3=>.ok (.mk 3 x [ps,t] p) s3
 else (F.typ c s2).bind fun t s3=>.ok (.mk 3 x [ps,t] p) s3
def ck (p:Int):Nat→List Nd→R Nd
 | 0,_=>fun _ _=>.out
 | g+1,acc=>fun c s=>
  if aE c s (⟨#[125]⟩:BA) then .ok (.mk 36 (⟨#[]⟩:BA) acc p) (adv s)
  else if db c s then ck p g acc c (adv s)
  else (F.stmt c s).bind fun n s1=>
   if db c s1 then ck p g (acc++[n]) c (adv s1)
   else if aE c s1 (⟨#[125]⟩:BA) then ck p g (acc++[n]) c s1
   else .fail (an c s1)
def lX:R Nd:=fun c s=>(need (⟨#[123]⟩:BA) c s).bind fun _ s1=>ck F (an c s) F.g [] c s1
def bm:R Nd:=bU (lX F)
def lB:R Nd:=fun c s=>
 if aE c s (⟨#[102,117,110,99]⟩:BA) then
  (bQ c (adv s)).bind fun x s1=>(dG F c s1).bind fun ps s2=>(mw F (an c s) c s2).bind fun sg s3=>(bm F c s3).bind fun b s4=>.ok (.mk 2 x [ps,sg,b] (an c s)) s4
 else if aE c s (⟨#[116,121,112,101]⟩:BA) then eo F (an c s) c (adv s)
 else cM F c s
def fc (p:Int) (x:Nd):R Nd:=fun c s=>
 if x.kind=18∧x.text≠(⟨#[95]⟩:BA)∧aE c s (⟨#[58,61]⟩:BA)=true then (F.expr c (adv s)).bind fun v s1=>.ok (.mk 26 x.text [v] p) s1
 else if aE c s (⟨#[61]⟩:BA) then (F.expr c (adv s)).bind fun v s1=>.ok (.mk 27 (⟨#[]⟩:BA) [x,v] p) s1
 else if aE c s (⟨#[43,43]⟩:BA) then .ok (.mk 28 (⟨#[43,43]⟩:BA) [x] p) (adv s)
 else if aE c s (⟨#[45,45]⟩:BA) then .ok (.mk 28 (⟨#[45,45]⟩:BA) [x] p) (adv s)
 else if x.kind=21 then .ok (.mk 29 (⟨#[]⟩:BA) [x] p) s
 else .fail (an c s)
def fl:R Nd:=fun c s=>(F.expr c s).bind fun x s1=>fc F (an c s) x c s1
def Dt:R Nd:=fun c s=>
 (need (⟨#[105,102]⟩:BA) c s).bind fun _ s1=>(bG F.expr c s1).bind fun x s2=>(bm F c s2).bind fun b s3=>
 if aE c s3 (⟨#[101,108,115,101]⟩:BA) then
  if aE c (adv s3) (⟨#[105,102]⟩:BA) then (F.ifS c (adv s3)).bind fun o s4=>.ok (.mk 30 (⟨#[]⟩:BA) [x,b,o] (an c s)) s4
  else (bm F c (adv s3)).bind fun o s4=>.ok (.mk 30 (⟨#[]⟩:BA) [x,b,o] (an c s)) s4
 else .ok (.mk 30 (⟨#[]⟩:BA) [x,b,bJ] (an c s)) s3
def cG (l:List bE):ByteArray:=
 if l.any (fun t=>t.kind==5) then (⟨#[]⟩:BA) else
 match l with
 | []=>(⟨#[]⟩:BA)
 | t::r=>r.foldl (fun a u=>a++(⟨#[32]⟩:BA)++u.text) t.text
def cv (c:Cx) (s:St):Option (ByteArray × St):=
 let l:=c.toks.drop s.at_
 if aE c s (⟨#[114,97,110,103,101]⟩:BA) then some ((⟨#[]⟩:BA),adv s) else
 match l with
 | a::b::d::_=>
  if a.kind=1∧a.text≠(⟨#[95]⟩:BA)∧cG [a,b,d]=a.text++(⟨#[32,58,61,32,114,97,110,103,101]⟩:BA) then some (a.text,{ s with at_:=s.at_+3 })
  else if a.kind=1∧d.kind=1∧d.text≠(⟨#[95]⟩:BA)∧cG (l.take 5)=a.text++(⟨#[32,44,32]⟩:BA)++d.text++(⟨#[32,58,61,32,114,97,110,103,101]⟩:BA) then some (a.text++(⟨#[44]⟩:BA)++d.text,{ s with at_:=s.at_+5 })
  else none
 | _=>none
def eM:R Nd:=fun c s=>(F.expr c s).bind fun x s1=>if aE c s1 (⟨#[123]⟩:BA) then .ok x s1 else fc F (an c s) x c s1
def dw:R Nd:=fun c s=>(fl F c s).bind fun x s1=>if x.kind=26 then .fail (am c (s.at_+1)).pos else .ok x s1
def iI:R (Nd × Nd × Nd):=fun c s=>
 let tail:Nd→R (Nd × Nd × Nd):=fun a c s=>
  (need (⟨#[59]⟩:BA) c s).bind fun _ s1=>
  (if aE c s1 (⟨#[59]⟩:BA) then .ok bJ s1 else bG F.expr c s1).bind fun b s2=>
  (need (⟨#[59]⟩:BA) c s2).bind fun _ s3=>
  (if aE c s3 (⟨#[123]⟩:BA) then .ok bJ s3 else bG (dw F) c s3).bind fun d s4=>.ok (a,b,d) s4
 if aE c s (⟨#[59]⟩:BA) then tail bJ c s else
 (bG (eM F) c s).bind fun x s1=>
 if x.kind=29 then .fail (an c s1)
 else if x.kind<26 then .ok (bJ,x,bJ) s1
 else tail x c s1
def sf:R Nd:=fun c s=>
 (need (⟨#[102,111,114]⟩:BA) c s).bind fun _ s1=>
 match cv c s1 with
 | some (x,s2)=>(bG F.expr c s2).bind fun e s3=>(bm F c s3).bind fun b s4=>.ok (.mk 32 x [e,b] (an c s)) s4
 | none=>
  (if aE c s1 (⟨#[123]⟩:BA) then .ok (bJ,bJ,bJ) s1 else iI F c s1).bind fun h s2=>
  (bm F c s2).bind fun b s3=>.ok (.mk 31 (⟨#[]⟩:BA) [h.1,h.2.1,h.2.2,b] (an c s)) s3
def rQ:R Nd:=fun c s=>
 if aE c s (⟨#[118,97,114]⟩:BA) then cM F c s
 else if aE c s (⟨#[105,102]⟩:BA) then Dt F c s
 else if aE c s (⟨#[102,111,114]⟩:BA) then sf F c s
 else if aE c s (⟨#[123]⟩:BA) then bm F c s
 else if aE c s (⟨#[114,101,116,117,114,110]⟩:BA) then
  if db c (adv s)||aE c (adv s) (⟨#[125]⟩:BA) then .ok (.mk 33 (⟨#[]⟩:BA) [bJ] (an c s)) (adv s)
  else (F.expr c (adv s)).bind fun x s1=>.ok (.mk 33 (⟨#[]⟩:BA) [x] (an c s)) s1
 else if aE c s (⟨#[98,114,101,97,107]⟩:BA) then .ok (.mk 34 (⟨#[]⟩:BA) [] (an c s)) (adv s)
 else if aE c s (⟨#[99,111,110,116,105,110,117,101]⟩:BA) then .ok (.mk 35 (⟨#[]⟩:BA) [] (an c s)) (adv s)
 else fl F c s
def fx (c:Cx) (s:St):Bool:=aE c s (⟨#[44]⟩:BA)||aE c s (⟨#[93]⟩:BA)
def fq (c:Cx) (s:St):Bool:=
 decide (s.at_+2<c.toks.length)&&((am c (s.at_+1)).kind==1 &&
  ((am c (s.at_+2)).kind==1||(aE c { s with at_:=s.at_+2 } (⟨#[102,117,110,99]⟩:BA)||(aE c { s with at_:=s.at_+2 } (⟨#[40]⟩:BA)||dq c { s with at_:=s.at_+2 }))))
def cN (p:Int) (types:Bool):R Nd:=fun c s=>
 if types=true∧fq c s=false∧s.at_+1<c.toks.length∧(am c (s.at_+1)).text≠(⟨#[41]⟩:BA) then
  (cz F p c s).bind fun t s1=>if fx c s1 then .ok t s1 else .fail (an c s1)
 else (mw F p c s).bind fun sg s1=>
  if types=true∧(sg.kids.headD bJ).kids.length=0∧fx c s1=true then .ok sg s1
  else (bm F c s1).bind fun b s2=>.ok (.mk 25 (⟨#[]⟩:BA) [sg,b] p) s2
def cg (t:Nd):R Nd:=fun c s=>
 (need (⟨#[123]⟩:BA) c s).bind fun _ s1=>(bU (aO F.expr (⟨#[125]⟩:BA) F.g []) c s1).bind fun l s2=>.ok (.mk 24 (⟨#[]⟩:BA) (t::l) t.pos) s2
def eN (types:Bool):R Nd:=fun c s=>
 (F.typ c s).bind fun t s1=>if types&&fx c s1 then .ok t s1 else cg F t c s1
def cA:R Nd:=fun c s=>F.expr c { s with part:=s.at_ }
mutual
def bF:Nd→Option Nd
 | .mk k t l a=>
  if k=10∨k=11∨k=12 then some (.mk k t l a)
  else if k=18 then some (.mk 10 t [] a)
  else if k=22 then
   match l with
   | []=>none
   | x::r=>match bF x with
     | some (.mk k2 t2 l2 a2)=>if k2=10∧l2.length=0 then (cH r).map fun r'=>.mk k2 t2 r' a2 else none
     | none=>none
  else none
def cH:List Nd→Option (List Nd)
 | []=>some []
 | x::r=>match bF x with
   | some y=>(cH r).map fun r'=>y::r'
   | none=>none
end
def mL (s:ByteArray):ByteArray:=(lW s).getD (⟨#[]⟩:BA)
def i8 (s:ByteArray):ByteArray:=(ef s).getD (⟨#[]⟩:BA)
def cT:R (Nd × Bool):=fun c s=>
 let t:=am c s.at_
 let types:Bool:=decide (s.part=(s.at_:Int))
 let s0:St := { s with part := -1 }
 if t.kind=1 then .ok (.mk 18 t.text [] t.pos,true) (adv s0)
 else if t.kind=4 then .ok (.mk 16 (mL t.text) [] t.pos,false) (adv s0)
 else if t.kind=5 then .ok (.mk 17 (i8 t.text) [] t.pos,false) (adv s0)
 else if aE c s0 (⟨#[40]⟩:BA) then (bU F.expr c (adv s0)).bind fun x s1=>(need (⟨#[41]⟩:BA) c s1).bind fun _ s2=>.ok (x,false) s2
 else if aE c s0 (⟨#[102,117,110,99]⟩:BA) then (cN F t.pos types c (adv s0)).bind fun x s1=>.ok (x,false) s1
 else if dq c s0 then (eN F types c s0).bind fun x s1=>.ok (x,false) s1
 else .fail t.pos
def aN:Nat→Nd→Bool→R Nd
 | 0,_,_=>fun _ _=>.out
 | g+1,out,bare=>fun c s=>
  if aE c s (⟨#[40]⟩:BA) then (bU (aO F.expr (⟨#[41]⟩:BA) F.g []) c (adv s)).bind fun l s1=>aN g (.mk 21 (⟨#[]⟩:BA) (out::l) out.pos) false c s1
  else if aE c s (⟨#[91]⟩:BA) then (bU (aO (cA F) (⟨#[93]⟩:BA) F.g []) c (adv s)).bind fun l s1=>
   if l.length=0 then .fail (am c (s1.at_-1)).pos else aN g (.mk 22 (⟨#[]⟩:BA) (out::l) out.pos) bare c s1
  else if aE c s (⟨#[46]⟩:BA) then (bQ c (adv s)).bind fun x s1=>aN g (.mk 23 x [out] out.pos) false c s1
  else if aE c s (⟨#[123]⟩:BA)&&(bare && !s.head) then
   match bF out with
   | none=>.ok out s
   | some t=>(cg F t c s).bind fun n s1=>aN g n false c s1
  else .ok out s
def dY:R Nd:=fun c s=>(cT F c s).bind fun x s1=>aN F F.g x.1 x.2 c s1
def eX:R Nd:=fun c s=>
 if aE c s (⟨#[45]⟩:BA)||aE c s (⟨#[33]⟩:BA) then (F.unary c (adv s)).bind fun x s1=>.ok (.mk 19 (am c s.at_).text [x] (an c s)) s1
 else dY F c s
def BO:Nat→List ByteArray
 | 5=>[(⟨#[124,124]⟩:BA)]
 | 4=>[(⟨#[38,38]⟩:BA)]
 | 3=>[(⟨#[61,61]⟩:BA),(⟨#[33,61]⟩:BA),(⟨#[60]⟩:BA),(⟨#[60,61]⟩:BA),(⟨#[62]⟩:BA),(⟨#[62,61]⟩:BA)]
 | 2=>[(⟨#[43]⟩:BA),(⟨#[45]⟩:BA)]
 | _=>[(⟨#[42]⟩:BA),(⟨#[47]⟩:BA),(⟨#[37]⟩:BA)]
def LS (k:Nat) (t:bE):Bool:=t.kind==6&&(BO k).any fun x=>decide (t.text=x)
def lC (k:Nat) (below:R Nd):Nat→Nd→R Nd
 | 0,_=>fun _ _=>.out
 | g+1,out=>fun c s=>
  if LS k (am c s.at_) then (below c (adv s)).bind fun y s1=>lC k below g (.mk 20 (am c s.at_).text [out,y] out.pos) c s1
  else .ok out s
def im:Nat→R Nd
 | 0=>eX F
 | k+1=>fun c s=>(im k c s).bind fun x s1=>lC (k+1) (im k) F.g x c s1
def EF:R Nd:=im F 5
def d6 (p:Int) (x:ByteArray):Nat→List Nd→R Nd
 | 0,_=>fun _ _=>.out
 | g+1,acc=>fun c s=>
  if db c s then
   if s.at_+1=c.toks.length then .ok (.mk 1 x acc p) (adv s)
   else if aE c (adv s) (⟨#[102,117,110,99]⟩:BA)||(aE c (adv s) (⟨#[116,121,112,101]⟩:BA)||aE c (adv s) (⟨#[118,97,114]⟩:BA)) then (lB F c (adv s)).bind fun d s1=>d6 p x g (acc++[d]) c s1
   else .fail (an c (adv s))
  else .fail (an c s)
def cY:R Nd:=fun c s=>(need (⟨#[112,97,99,107,97,103,101]⟩:BA) c s).bind fun _ s1=>(bQ c s1).bind fun x s2=>d6 F (an c s) x F.g [] c s2
end
def pv:Nat→eB
 | 0=>⟨0,fun _ _=>.out,fun _ _=>.out,fun _ _=>.out,fun _ _=>.out,fun _ _=>.out⟩
 | g+1=>⟨g+1,pu (pv g),EF (pv g),eX (pv g),rQ (pv g),Dt (pv g)⟩
structure Wd (S:World→Prop) where
 wd:World
 ok:S wd
theorem aw {P:Program} (S:World→Prop) {id:Nat} {Q:Exit→Act→World→Prop} {a:Act} {w:World} {l:List Oper} (D:P.follows .mixedOrders=true) (I:Region.lexB .any l.toArray=true) (J:S w.drew)
  (h:wpQuiet P l.toArray (fun w'=>∃ n:Wd S,w'=n.wd) (fun a'=>∀ n:Wd S,Q .normal a' n.wd) l a):(Code.region id l.toArray true).wp P Q a w:=
 wp_region_quiet (C:=fun w'=>∃ n:Wd S,w'=n.wd) D I ⟨⟨w.drew,J⟩,rfl⟩ (by (have e:(fun a'=>∀ w',(∃ n:Wd S,w'=n.wd)→Q .normal a' w')=fun a'=>∀ n:Wd S,Q .normal a' n.wd:=by funext a';exact propext ⟨fun h n=>h _ ⟨n,rfl⟩,fun h w' ⟨n,e⟩=>e▸h n⟩);rw [e];simpa using h)
end
end Go.Proofs.YtiebcdeafofgdaaGreatDoor
