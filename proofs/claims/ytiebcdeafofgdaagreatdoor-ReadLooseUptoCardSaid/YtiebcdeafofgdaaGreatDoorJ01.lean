/-
  Parts of the proof: Shelf Shelf3 Lspec Rspec Tspec. By an AI agent.
-/
import Derived.Test.YtiebcdeafofgdaaGreatDoorProg
import Derived.Test.YtiebcdeafofgdaaGreatDoorJ00
import Derived.Ground.NamesProg
import Derived.Shelf.Lays
import Derived.Shelf.Strings.Search3
import Derived.Shelf.Strings.Cut
import Derived.Shelf.Strings.Prefix
import Derived.Shelf.Small.Strs
import Derived.Shelf.Strings.OnBuilder
import Derived.Lib.IndexMore
open Go.Proofs.Tryz
namespace Go.Proofs
section
open Go.Shelf
def Tryz.laysContains_ren:Go.Shelf.Ren:=⟨fun|144=>78|143=>108|219=>144|217=>149|225=>191|224=>192|267=>193|266=>198|314=>225|n=>n,fun|9=>9|4=>4|3=>3|5=>5|46=>150|146=>175|51=>174|n=>n,fun|1=>2|n=>n⟩
theorem Tryz.laysContains:Go.Proofs.Lays.n144 prog Tryz.laysContains_ren:={
 mixed:=by kernel_rfl
 f143:=func108.trans (congrArg some (by kernel_rfl))
 f144:=func78.trans (congrArg some (by kernel_rfl))
 f217:=func149.trans (congrArg some (by kernel_rfl))
 f219:=func144.trans (congrArg some (by kernel_rfl))
 f224:=func192.trans (congrArg some (by kernel_rfl))
 f225:=func191.trans (congrArg some (by kernel_rfl))
 f266:=func198.trans (congrArg some (by kernel_rfl))
 f267:=func193.trans (congrArg some (by kernel_rfl))
 f314:=func225.trans (congrArg some (by kernel_rfl))
 t3:=underlying3
 a3:=isAgg3
 z3:=sizeOf3
 v3:=zeroValue3
 t4:=underlying4
 a4:=isAgg4
 z4:=sizeOf4
 v4:=zeroValue4
 t5:=underlying5
 a5:=isAgg5
 z5:=sizeOf5
 v5:=zeroValue5
 t9:=underlying9
 a9:=isAgg9
 z9:=sizeOf9
 v9:=zeroValue9
 t46:=underlying150
 a46:=isAgg150
 z46:=sizeOf150
 v46:=zeroValue150
 t51:=underlying174
 a51:=isAgg174
 z51:=sizeOf174
 v51:=zeroValue174
 t146:=underlying175
 a146:=isAgg175
 z146:=sizeOf175
 v146:=zeroValue175
 g1:=by kernel_rfl }
def Tryz.laysCut_ren:Go.Shelf.Ren:=⟨fun|145=>215|220=>231|219=>144|217=>149|225=>191|224=>192|267=>193|266=>198|314=>225|n=>n,fun|9=>9|4=>4|59=>164|3=>3|5=>5|46=>150|146=>175|51=>174|n=>n,fun|1=>2|n=>n⟩
theorem Tryz.laysCut:Go.Proofs.Lays.n145 prog Tryz.laysCut_ren:={
 mixed:=by kernel_rfl
 f145:=func215.trans (congrArg some (by kernel_rfl))
 f217:=func149.trans (congrArg some (by kernel_rfl))
 f219:=func144.trans (congrArg some (by kernel_rfl))
 f220:=func231.trans (congrArg some (by kernel_rfl))
 f224:=func192.trans (congrArg some (by kernel_rfl))
 f225:=func191.trans (congrArg some (by kernel_rfl))
 f266:=func198.trans (congrArg some (by kernel_rfl))
 f267:=func193.trans (congrArg some (by kernel_rfl))
 f314:=func225.trans (congrArg some (by kernel_rfl))
 t3:=underlying3
 a3:=isAgg3
 z3:=sizeOf3
 v3:=zeroValue3
 t4:=underlying4
 a4:=isAgg4
 z4:=sizeOf4
 v4:=zeroValue4
 t5:=underlying5
 a5:=isAgg5
 z5:=sizeOf5
 v5:=zeroValue5
 t9:=underlying9
 a9:=isAgg9
 z9:=sizeOf9
 v9:=zeroValue9
 t46:=underlying150
 a46:=isAgg150
 z46:=sizeOf150
 v46:=zeroValue150
 t51:=underlying174
 a51:=isAgg174
 z51:=sizeOf174
 v51:=zeroValue174
 t59:=underlying164
 a59:=isAgg164
 z59:=sizeOf164
 v59:=zeroValue164
 t146:=underlying175
 a146:=isAgg175
 z146:=sizeOf175
 v146:=zeroValue175
 g1:=by kernel_rfl }
def Tryz.laysPrefix_ren:Go.Shelf.Ren:=⟨fun|99=>95|206=>141|n=>n,fun|9=>9|4=>4|3=>3|n=>n,fun|n=>n⟩
theorem Tryz.laysPrefix:Go.Proofs.Lays.n99 prog Tryz.laysPrefix_ren:={
 mixed:=by kernel_rfl
 f99:=func95.trans (congrArg some (by kernel_rfl))
 f206:=func141.trans (congrArg some (by kernel_rfl))
 t3:=underlying3
 a3:=isAgg3
 z3:=sizeOf3
 v3:=zeroValue3
 t4:=underlying4
 a4:=isAgg4
 z4:=sizeOf4
 v4:=zeroValue4
 t9:=underlying9
 a9:=isAgg9
 z9:=sizeOf9
 v9:=zeroValue9 }
def Tryz.laysIndexByte_ren:Go.Shelf.Ren:=⟨fun|137=>115|217=>149|266=>198|n=>n,fun|9=>9|5=>5|3=>3|n=>n,fun|n=>n⟩
theorem Tryz.laysIndexByte:Go.Proofs.Lays.n137 prog Tryz.laysIndexByte_ren:={
 mixed:=by kernel_rfl
 f137:=func115.trans (congrArg some (by kernel_rfl))
 f217:=func149.trans (congrArg some (by kernel_rfl))
 f266:=func198.trans (congrArg some (by kernel_rfl))
 t3:=underlying3
 a3:=isAgg3
 z3:=sizeOf3
 v3:=zeroValue3
 t5:=underlying5
 a5:=isAgg5
 z5:=sizeOf5
 v5:=zeroValue5
 t9:=underlying9
 a9:=isAgg9
 z9:=sizeOf9
 v9:=zeroValue9 }
def Tryz.laysIndex_ren:Go.Shelf.Ren:=⟨fun|143=>108|219=>144|217=>149|225=>191|224=>192|267=>193|266=>198|314=>225|n=>n,fun|9=>9|3=>3|4=>4|5=>5|46=>150|146=>175|51=>174|n=>n,fun|1=>2|n=>n⟩
theorem Tryz.laysIndex:Go.Proofs.Lays.n143 prog Tryz.laysIndex_ren:={
 mixed:=by kernel_rfl
 f143:=func108.trans (congrArg some (by kernel_rfl))
 f217:=func149.trans (congrArg some (by kernel_rfl))
 f219:=func144.trans (congrArg some (by kernel_rfl))
 f224:=func192.trans (congrArg some (by kernel_rfl))
 f225:=func191.trans (congrArg some (by kernel_rfl))
 f266:=func198.trans (congrArg some (by kernel_rfl))
 f267:=func193.trans (congrArg some (by kernel_rfl))
 f314:=func225.trans (congrArg some (by kernel_rfl))
 t3:=underlying3
 a3:=isAgg3
 z3:=sizeOf3
 v3:=zeroValue3
 t4:=underlying4
 a4:=isAgg4
 z4:=sizeOf4
 v4:=zeroValue4
 t5:=underlying5
 a5:=isAgg5
 z5:=sizeOf5
 v5:=zeroValue5
 t9:=underlying9
 a9:=isAgg9
 z9:=sizeOf9
 v9:=zeroValue9
 t46:=underlying150
 a46:=isAgg150
 z46:=sizeOf150
 v46:=zeroValue150
 t51:=underlying174
 a51:=isAgg174
 z51:=sizeOf174
 v51:=zeroValue174
 t146:=underlying175
 a146:=isAgg175
 z146:=sizeOf175
 v146:=zeroValue175
 g1:=by kernel_rfl }
def Tryz.laysJoin_ren:Go.Shelf.Ren:=⟨fun|156=>233|165=>200|166=>146|169=>148|240=>197|241=>229|276=>226|277=>239|n=>n,fun|31=>95|9=>9|3=>3|4=>4|0=>0|20=>20|72=>129|76=>134|70=>127|37=>27|75=>133|127=>159|164=>177|5=>5|80=>78|n=>n,fun|n=>n⟩
theorem Tryz.laysJoin:Go.Proofs.Lays.n156 prog Tryz.laysJoin_ren:={
 mixed:=by kernel_rfl
 f156:=func233.trans (congrArg some (by kernel_rfl))
 f165:=func200.trans (congrArg some (by kernel_rfl))
 f166:=func146.trans (congrArg some (by kernel_rfl))
 f169:=func148.trans (congrArg some (by kernel_rfl))
 f240:=func197.trans (congrArg some (by kernel_rfl))
 f241:=func229.trans (congrArg some (by kernel_rfl))
 f276:=func226.trans (congrArg some (by kernel_rfl))
 f277:=func239.trans (congrArg some (by kernel_rfl))
 t0:=underlying0
 a0:=isAgg0
 z0:=sizeOf0
 v0:=zeroValue0
 t3:=underlying3
 a3:=isAgg3
 z3:=sizeOf3
 v3:=zeroValue3
 t4:=underlying4
 a4:=isAgg4
 z4:=sizeOf4
 v4:=zeroValue4
 t9:=underlying9
 a9:=isAgg9
 z9:=sizeOf9
 v9:=zeroValue9
 t20:=underlying20
 a20:=isAgg20
 z20:=sizeOf20
 v20:=zeroValue20
 t31:=underlying95
 a31:=isAgg95
 z31:=sizeOf95
 v31:=zeroValue95
 t37:=underlying27
 a37:=isAgg27
 z37:=sizeOf27
 v37:=zeroValue27
 t70:=underlying127
 a70:=isAgg127
 z70:=sizeOf127
 v70:=zeroValue127
 t72:=underlying129
 a72:=isAgg129
 z72:=sizeOf129
 v72:=zeroValue129
 t75:=underlying133
 a75:=isAgg133
 z75:=sizeOf133
 v75:=zeroValue133
 t76:=underlying134
 a76:=isAgg134
 z76:=sizeOf134
 v76:=zeroValue134
 t127:=underlying159
 a127:=isAgg159
 z127:=sizeOf159
 v127:=zeroValue159
 t164:=underlying177
 a164:=isAgg177
 z164:=sizeOf177
 v164:=zeroValue177 }
theorem Tryz.joinX:Builder.Extra prog Tryz.laysJoin_ren:={
 sizeBuilder:=by kernel_rfl
 liesBuilder:=by kernel_rfl
 t5:=underlying5
 a5:=isAgg5
 z5:=sizeOf5
 v5:=zeroValue5
 infoByte:=by kernel_rfl
 cellsByte:=by kernel_rfl
 sizeByte:=by kernel_rfl
 neB5:=by decide }
end
end Go.Proofs
namespace Go.Proofs.YtiebcdeafofgdaaGreatDoor
section
theorem qq:type_of% @List.mem_cons_of_mem:=@List.mem_cons_of_mem
theorem vr:type_of% @List.foldl_cons:=@List.foldl_cons
def dD(c:Nat):Option Nat:=
 if 48<=c/\c<=57 then some (c-48)else if 97<=c/\c<=102 then some (c-87)else if 65<=c/\c<=70 then some (c-55)else none
def uj:List UInt8->Nat×List UInt8
 |[]=>(10,[])
 |[a]=>(10,[a])
 | a::b::r=>
  if a.toNat=48 then
   if b.toNat=120\/b.toNat=88 then(16,r)
   else if b.toNat=98\/b.toNat=66 then(2,r)
   else if b.toNat=111\/b.toNat=79 then(8,r)
   else(8,b::r)
  else(10,a::b::r)
def iG(m:Nat):List Nat:=if m=0 then[]else if m<10 then[m]else[m%10,m/10]
def ec(f:Nat):List Nat->Nat->List Nat
 |[],m=>iG m
 |x::r,m=>(x*f+m)%10::ec f r ((x*f+m)/10)
def fP(radix:Nat):List UInt8->List Nat->Bool->Nat->Option (List Nat×Bool×Nat)
 |[],v,line,many=>some (v,line,many)
 | c::r,v,line,many=>
  if c.toNat=95/\line=false then fP radix r v true many
  else match dD c.toNat with
   |none=>none
   |some d=>if d<radix then fP radix r (ec radix v d) false (many+1)else none
def po(v:List Nat):ByteArray:=⟨((if v=[]then[0]else v.reverse).map fun d=>UInt8.ofNat (48+d)).toArray⟩
def lp(s:ByteArray):Option ByteArray:=
 if 200<s.size then none else
 let b:=uj s.data.toList
 if b.1=10/\(b.2=[]\/(b.2.headD 0).toNat=95)then none else
 match fP b.1 b.2 [] false 0 with
 |none=>none
 |some (v,line,many)=>if line=true\/many=0\/(b.1=10/\1<many/\(b.2.headD 0).toNat=48)then none else some (po v)
def ig(s:ByteArray):Nat->Nat->Option Nat
 |0,_=>none
 | g+1,i=>
  if i<s.size then
   if(Utf8.decode s i).1=0\/((Utf8.decode s i).1=65533/\(Utf8.decode s i).2=1)\/((Utf8.decode s i).1=65279/\0<i)then some i
   else ig s g (i+(Utf8.decode s i).2)
  else none
def lq(s:ByteArray):Option Nat:=ig s s.size 0
def fo(radix:Nat):List UInt8->Nat->Option Nat
 |[],v=>some v
 | c::r,v=>match dD c.toNat with
   |none=>none
   |some d=>if d<radix then fo radix r (v*radix+d)else none
def cw(s:List UInt8)(n radix:Nat):Option Nat:=if n<=s.length then fo radix (s.take n) 0 else none
def eE(c:Nat):Option Nat:=
 if c=97 then some 7 else if c=98 then some 8 else if c=102 then some 12 else if c=110 then some 10 else if c=114 then some 13
 else if c=116 then some 9 else if c=118 then some 11 else if c=92 then some 92 else if c=34 then some 34 else none
def lO:List UInt8->Option (List UInt8×Nat)
 |[]=>none
 | c::r=>
  match eE c.toNat with
  |some v=>some ([UInt8.ofNat v],1)
  |none=>
   if c.toNat=120 then(cw r 2 16).map fun v=>([UInt8.ofNat v],3)
   else if c.toNat=117 then(cw r 4 16).bind fun v=>if Utf8.valid (v:Int)=true then some ((Utf8.encode (v:Int)).data.toList,5)else none
   else if c.toNat=85 then(cw r 8 16).bind fun v=>if Utf8.valid (v:Int)=true then some ((Utf8.encode (v:Int)).data.toList,9)else none
   else(cw (c::r) 3 8).bind fun v=>if v<=255 then some ([UInt8.ofNat v],3)else none
def dn:Nat->List UInt8->Option (List UInt8)
 |0,_=>none
 |_+1,[]=>some []
 |g+1,c::r=>
  if c.toNat=92 then(lO r).bind fun p=>(dn g (r.drop p.2)).map fun t=>p.1++t
  else if c.toNat=34\/c.toNat=10 then none
  else(dn g r).map fun t=>c::t
def dT(s:ByteArray):Option ByteArray:=
 if 65536<s.size then none
 else if s.size<2\/s.data.toList.head? ≠ s.data.toList.getLast? then none
 else if lq s≠none then none
 else if(s.data.toList.headD 0).toNat=34 then(dn (s.size+1) (s.data.toList.extract 1 (s.size-1))).map fun l=>⟨l.toArray⟩
 else if(s.data.toList.headD 0).toNat=96 then
  if(s.data.toList.extract 1 (s.size-1)).any (fun c=>c.toNat==96)then none
  else some ⟨((s.data.toList.extract 1 (s.size-1)).filter fun c=>c.toNat != 13).toArray⟩
 else none
structure cO where
 kind:Int
 text:ByteArray
 pos:Int
structure Cx where
 toks:List cO
 fin:Int
structure St where
 at_:Nat
 head:Bool
 part:Int
inductive cC(α:Type)where
 |ok (a:α) (s:St)
 |out
def R(α:Type):=Cx->St->cC α
def cC.bind{α β:Type}(r:cC α)(f:α->St->cC β):cC β:=
 match r with
 | .ok a s=>f a s
 | .out=>.out
@[simp] theorem cC.bind_ok {α β:Type} (a:α) (s:St) (f:α->St->cC β):(cC.ok a s).bind f=f a s:=rfl
@[simp] theorem cC.bind_out {α β:Type} (f:α->St->cC β):(cC.out:cC α).bind f=.out:=rfl
def ay(c:Cx)(i:Nat):cO:=
 match c.toks[i]? with
 |some t=>t
 |none=>⟨0,⟨#[]⟩,c.fin⟩
def Te(t:cO)(x:ByteArray):Bool:=(t.kind==2||t.kind==6)&&decide (t.text=x)
def aS(c:Cx)(s:St)(x:ByteArray):Bool:=Te (ay c s.at_) x
def adv(s:St):St:={ s with at_:=s.at_+1 }
def aM(c:Cx)(s:St):Int:=(ay c s.at_).pos
def ci(x:ByteArray):R Unit:=fun c s=>if aS c s x then .ok () (adv s)else .out
def eK:R ByteArray:=fun c s=>if(ay c s.at_).kind=1 then .ok (ay c s.at_).text (adv s)else .out
def eT(c:Cx)(s:St):Bool:=aS c s ⟨#[59]⟩||aS c s ⟨#[10]⟩
def oA(c:Cx)(s:St):St:=if eT c s then adv s else s
def dE(c:Cx)(s:St):Bool:=aS c s ⟨#[91]⟩&&(match c.toks[s.at_+1]? with|some t=>t.kind==6&&decide (t.text=(⟨#[93]⟩:BA))|none=>false)
def a6(part:R Nd)(en:ByteArray):Nat->List Nd->R (List Nd)
 |0,_=>fun _ _=>.out
 |g+1,acc=>fun c s=>
  if aS c s en then .ok acc (adv s)else
  (part c s).bind fun n s1=>
  if aS c s1 en then .ok (acc++[n]) (adv s1)else
  (ci ⟨#[44]⟩ c s1).bind fun _ s2=>a6 part en g (acc++[n]) c s2
def ct{α:Type}(part:R α):R α:=fun c s=>(part c { s with head:=false }).bind fun a s1=>.ok a { s1 with head:=s.head }
def db{α:Type}(part:R α):R α:=fun c s=>(part c { s with head:=true }).bind fun a s1=>.ok a { s1 with head:=s.head }
def oJ(c:Cx)(s:St):Bool:=(ay c s.at_).kind==1||(aS c s ⟨#[91]⟩||(aS c s ⟨#[40]⟩||aS c s ⟨#[102,117,110,99]⟩))
structure iE where
 g:Nat
 typ:R Nd
 expr:R Nd
 unary:R Nd
 stmt:R Nd
 ifS:R Nd
section
variable (F:iE)
def dp:R Nd:=fun c s=>if oJ c s then F.typ c s else .ok bX s
def mS:R Nd:=fun c s=>(F.typ c s).bind fun t s1=>.ok (.mk 8 ⟨#[]⟩ [t] (aM c s)) s1
def df(p:Int):R Nd:=fun c s=>
 (ci ⟨#[40]⟩ c s).bind fun _ s1=>(a6 (mS F) ⟨#[41]⟩ F.g [] c s1).bind fun l s2=>
 (dp F c s2).bind fun r s3=>.ok (.mk 12 ⟨#[]⟩ [.mk 6 ⟨#[]⟩ l (aM c s),r] p) s3
def fp:R Nd:=fun c s=>(eK c s).bind fun x s1=>(F.typ c s1).bind fun t s2=>.ok (.mk 8 x [t] (aM c s)) s2
def nN(p:Int):R Nd:=fun c s=>
 (ci ⟨#[40]⟩ c s).bind fun _ s1=>(a6 (fp F) ⟨#[41]⟩ F.g [] c s1).bind fun l s2=>
 (dp F c s2).bind fun r s3=>.ok (.mk 12 ⟨#[]⟩ [.mk 6 ⟨#[]⟩ l (aM c s),r] p) s3
def uk:R Nd:=fun c s=>
 if aS c s ⟨#[40]⟩then(F.typ c (adv s)).bind fun t s1=>(ci ⟨#[41]⟩ c s1).bind fun _ s2=>.ok t s2
 else if aS c s ⟨#[91]⟩then(ci ⟨#[93]⟩ c (adv s)).bind fun _ s1=>(F.typ c s1).bind fun t s2=>.ok (.mk 11 ⟨#[]⟩ [t] (aM c s)) s2
 else if aS c s ⟨#[102,117,110,99]⟩then df F (aM c s) c (adv s)
 else(eK c s).bind fun x s1=>
  if aS c s1 ⟨#[91]⟩ && !dE c s1 then
   (a6 F.typ ⟨#[93]⟩ F.g [] c (adv s1)).bind fun l s2=>if l.length=0 then .out else .ok (.mk 10 x l (aM c s)) s2
  else .ok (.mk 10 x [] (aM c s)) s1
def lS:R Nd:=fun c s=>
 if aS c s ⟨#[91]⟩ && !dE c s then .out
 else .ok (.mk 6 ⟨#[]⟩ [] 0) s
def eM:R Nd:=fun c s=>
 (ci ⟨#[118,97,114]⟩ c s).bind fun _ s1=>(eK c s1).bind fun x s2=>
 if aS c s2 ⟨#[61]⟩then(F.expr c (adv s2)).bind fun v s3=>.ok (.mk 5 x [bX,v] (aM c s)) s3
 else(F.typ c s2).bind fun t s3=>
  if aS c s3 ⟨#[61]⟩then(F.expr c (adv s3)).bind fun v s4=>.ok (.mk 5 x [t,v] (aM c s)) s4
  else .ok (.mk 5 x [t,bX] (aM c s)) s3
def cM(p:Int):Nat->List Nd->R Nd
 |0,_=>fun _ _=>.out
 | g+1,acc=>fun c s=>
  if aS c s ⟨#[125]⟩then .ok (.mk 36 ⟨#[]⟩ acc p) (adv s)
  else if eT c s then cM p g acc c (adv s)
  else(F.stmt c s).bind fun n s1=>
   if eT c s1 then cM p g (acc++[n]) c (adv s1)
   else if aS c s1 ⟨#[125]⟩then cM p g (acc++[n]) c s1
   else .out
def mC:R Nd:=fun c s=>(ci ⟨#[123]⟩ c s).bind fun _ s1=>cM F (aM c s) F.g [] c s1
def bC:R Nd:=ct (mC F)
def tq:R Nd:=fun c s=>
 if aS c s ⟨#[102,117,110,99]⟩then
  (eK c (adv s)).bind fun x s1=>(lS c s1).bind fun ps s2=>(nN F (aM c s) c s2).bind fun sg s3=>(bC F c s3).bind fun b s4=>.ok (.mk 2 x [ps,sg,b] (aM c s)) s4
 else .out
def fQ(p:Int)(x:Nd):R Nd:=fun c s=>
 if x.kind=18/\x.text≠(⟨#[95]⟩:BA)/\aS c s ⟨#[58,61]⟩=true then(F.expr c (adv s)).bind fun v s1=>.ok (.mk 26 x.text [v] p) s1
 else if aS c s ⟨#[61]⟩then(F.expr c (adv s)).bind fun v s1=>.ok (.mk 27 ⟨#[]⟩ [x,v] p) s1
 else if aS c s ⟨#[43,43]⟩then .ok (.mk 28 ⟨#[43,43]⟩ [x] p) (adv s)
 else if aS c s ⟨#[45,45]⟩then .ok (.mk 28 ⟨#[45,45]⟩ [x] p) (adv s)
 else if x.kind=21 then .ok (.mk 29 ⟨#[]⟩ [x] p) s
 else .out
def ii:R Nd:=fun c s=>(F.expr c s).bind fun x s1=>fQ F (aM c s) x c s1
def IB:R Nd:=fun c s=>
 (ci ⟨#[105,102]⟩ c s).bind fun _ s1=>(db F.expr c s1).bind fun x s2=>(bC F c s2).bind fun b s3=>
 if aS c s3 ⟨#[101,108,115,101]⟩then
  if aS c (adv s3) ⟨#[105,102]⟩then(F.ifS c (adv s3)).bind fun o s4=>.ok (.mk 30 ⟨#[]⟩ [x,b,o] (aM c s)) s4
  else(bC F c (adv s3)).bind fun o s4=>.ok (.mk 30 ⟨#[]⟩ [x,b,o] (aM c s)) s4
 else .ok (.mk 30 ⟨#[]⟩ [x,b,bX] (aM c s)) s3
def dg(l:List cO):ByteArray:=
 if l.any (fun t=>t.kind==5)then(⟨#[]⟩:BA)else
 match l with
 |[]=>(⟨#[]⟩:BA)
 |t::r=>r.foldl (fun a u=>a++(⟨#[32]⟩:BA)++u.text) t.text
def bN(c:Cx)(s:St):Option (ByteArray×St):=
 let l:=c.toks.drop s.at_
 if aS c s ⟨#[114,97,110,103,101]⟩then some ((⟨#[]⟩:BA),adv s)else
 match l with
 |a::b::d::_=>
  if a.kind=1/\a.text≠(⟨#[95]⟩:BA)/\dg [a,b,d]=a.text++(⟨#[32,58,61,32,114,97,110,103,101]⟩:BA)then some (a.text,{ s with at_:=s.at_+3 })
  else if a.kind=1/\d.kind=1/\d.text≠(⟨#[95]⟩:BA)/\dg (l.take 5)=a.text++(⟨#[32,44,32]⟩:BA)++d.text++(⟨#[32,58,61,32,114,97,110,103,101]⟩:BA)then some (a.text++(⟨#[44]⟩:BA)++d.text,{ s with at_:=s.at_+5 })
  else none
 |_=>none
def fq:R Nd:=fun c s=>(F.expr c s).bind fun x s1=>if aS c s1 ⟨#[123]⟩then .ok x s1 else fQ F (aM c s) x c s1
def ne:R Nd:=fun c s=>(ii F c s).bind fun x s1=>if x.kind=26 then .out else .ok x s1
def nf:R (Nd×Nd×Nd):=fun c s=>
 let tail:Nd->R (Nd×Nd×Nd):=fun a c s=>
  (ci ⟨#[59]⟩ c s).bind fun _ s1=>
  (if aS c s1 ⟨#[59]⟩then .ok bX s1 else db F.expr c s1).bind fun b s2=>
  (ci ⟨#[59]⟩ c s2).bind fun _ s3=>
  (if aS c s3 ⟨#[123]⟩then .ok bX s3 else db (ne F) c s3).bind fun d s4=>.ok (a,b,d) s4
 if aS c s ⟨#[59]⟩then tail bX c s else
 (db (fq F) c s).bind fun x s1=>
 if x.kind=29 then .out
 else if x.kind<26 then .ok (bX,x,bX) s1
 else tail x c s1
def p9:R Nd:=fun c s=>
 (ci ⟨#[102,111,114]⟩ c s).bind fun _ s1=>
 match bN c s1 with
 |some (x,s2)=>(db F.expr c s2).bind fun e s3=>(bC F c s3).bind fun b s4=>.ok (.mk 32 x [e,b] (aM c s)) s4
 |none=>
  (if aS c s1 ⟨#[123]⟩then .ok (bX,bX,bX) s1 else nf F c s1).bind fun h s2=>
  (bC F c s2).bind fun b s3=>.ok (.mk 31 ⟨#[]⟩ [h.1,h.2.1,h.2.2,b] (aM c s)) s3
def fY:R Nd:=fun c s=>
 if aS c s ⟨#[118,97,114]⟩then eM F c s
 else if aS c s ⟨#[105,102]⟩then IB F c s
 else if aS c s ⟨#[102,111,114]⟩then p9 F c s
 else if aS c s ⟨#[123]⟩then bC F c s
 else if aS c s ⟨#[114,101,116,117,114,110]⟩then
  if eT c (adv s)||aS c (adv s) ⟨#[125]⟩then .ok (.mk 33 ⟨#[]⟩ [bX] (aM c s)) (adv s)
  else(F.expr c (adv s)).bind fun x s1=>.ok (.mk 33 ⟨#[]⟩ [x] (aM c s)) s1
 else if aS c s ⟨#[98,114,101,97,107]⟩then .ok (.mk 34 ⟨#[]⟩ [] (aM c s)) (adv s)
 else if aS c s ⟨#[99,111,110,116,105,110,117,101]⟩then .ok (.mk 35 ⟨#[]⟩ [] (aM c s)) (adv s)
 else ii F c s
def iv(c:Cx)(s:St):Bool:=aS c s ⟨#[44]⟩||aS c s ⟨#[93]⟩
def iH(c:Cx)(s:St):Bool:=
 decide (s.at_+2<c.toks.length)&&((ay c (s.at_+1)).kind==1 &&
  ((ay c (s.at_+2)).kind==1||(aS c { s with at_:=s.at_+2 } (⟨#[102,117,110,99]⟩:BA)||(aS c { s with at_:=s.at_+2 } (⟨#[40]⟩:BA)||dE c { s with at_:=s.at_+2 }))))
def dh(p:Int)(types:Bool):R Nd:=fun c s=>
 if types=true/\iH c s=false/\s.at_+1<c.toks.length/\(ay c (s.at_+1)).text≠(⟨#[41]⟩:BA)then
  (df F p c s).bind fun t s1=>if iv c s1 then .ok t s1 else .out
 else(nN F p c s).bind fun sg s1=>
  if types=true/\(sg.kids.headD bX).kids.length=0/\iv c s1=true then .ok sg s1
  else(bC F c s1).bind fun b s2=>.ok (.mk 25 ⟨#[]⟩ [sg,b] p) s2
def dc(t:Nd):R Nd:=fun c s=>
 (ci ⟨#[123]⟩ c s).bind fun _ s1=>(ct (a6 F.expr ⟨#[125]⟩ F.g []) c s1).bind fun l s2=>.ok (.mk 24 ⟨#[]⟩ (t::l) t.pos) s2
def ij(types:Bool):R Nd:=fun c s=>
 (F.typ c s).bind fun t s1=>if types&&iv c s1 then .ok t s1 else dc F t c s1
def cY:R Nd:=fun c s=>F.expr c { s with part:=s.at_ }
mutual
def bK:Nd->Option Nd
 | .mk k t l a=>
  if k=10\/k=11\/k=12 then some (.mk k t l a)
  else if k=18 then some (.mk 10 t [] a)
  else if k=22 then
   match l with
   |[]=>none
   | x::r=>match bK x with
     |some (.mk k2 t2 l2 a2)=>if k2=10/\l2.length=0 then(cx r).map fun r'=>.mk k2 t2 r' a2 else none
     |none=>none
  else none
def cx:List Nd->Option (List Nd)
 |[]=>some []
 | x::r=>match bK x with
   |some y=>(cx r).map fun r'=>y::r'
   |none=>none
end
def mT(s:ByteArray):ByteArray:=(lp s).getD ⟨#[]⟩
def lT(s:ByteArray):ByteArray:=(dT s).getD ⟨#[]⟩
def cH:R (Nd×Bool):=fun c s=>
 let t:=ay c s.at_
 let types:Bool:=decide (s.part=(s.at_:Int))
 let s0:St:={ s with part :=-1 }
 if t.kind=1 then .ok (.mk 18 t.text [] t.pos,true) (adv s0)
 else if t.kind=4 then .ok (.mk 16 (mT t.text) [] t.pos,false) (adv s0)
 else if t.kind=5 then .ok (.mk 17 (lT t.text) [] t.pos,false) (adv s0)
 else if aS c s0 ⟨#[40]⟩then(ct F.expr c (adv s0)).bind fun x s1=>(ci ⟨#[41]⟩ c s1).bind fun _ s2=>.ok (x,false) s2
 else if aS c s0 ⟨#[102,117,110,99]⟩then(dh F t.pos types c (adv s0)).bind fun x s1=>.ok (x,false) s1
 else if dE c s0 then(ij F types c s0).bind fun x s1=>.ok (x,false) s1
 else .out
def aG:Nat->Nd->Bool->R Nd
 |0,_,_=>fun _ _=>.out
 | g+1,out,bare=>fun c s=>
  if aS c s ⟨#[40]⟩then(ct (a6 F.expr ⟨#[41]⟩ F.g []) c (adv s)).bind fun l s1=>aG g (.mk 21 ⟨#[]⟩ (out::l) out.pos) false c s1
  else if aS c s ⟨#[91]⟩then(ct (a6 (cY F) ⟨#[93]⟩ F.g []) c (adv s)).bind fun l s1=>
   if l.length=0 then .out else aG g (.mk 22 ⟨#[]⟩ (out::l) out.pos) bare c s1
  else if aS c s ⟨#[46]⟩then(eK c (adv s)).bind fun x s1=>aG g (.mk 23 x [out] out.pos) false c s1
  else if aS c s ⟨#[123]⟩&&(bare && !s.head)then
   match bK out with
   |none=>.ok out s
   |some t=>(dc F t c s).bind fun n s1=>aG g n false c s1
  else .ok out s
def lD:R Nd:=fun c s=>(cH F c s).bind fun x s1=>aG F F.g x.1 x.2 c s1
def iZ:R Nd:=fun c s=>
 if aS c s ⟨#[45]⟩||aS c s ⟨#[33]⟩then(F.unary c (adv s)).bind fun x s1=>.ok (.mk 19 (ay c s.at_).text [x] (aM c s)) s1
 else lD F c s
def Du:Nat->List ByteArray
 |5=>[(⟨#[124,124]⟩:BA)]
 |4=>[(⟨#[38,38]⟩:BA)]
 |3=>[(⟨#[61,61]⟩:BA),(⟨#[33,61]⟩:BA),(⟨#[60]⟩:BA),(⟨#[60,61]⟩:BA),(⟨#[62]⟩:BA),(⟨#[62,61]⟩:BA)]
 |2=>[(⟨#[43]⟩:BA),(⟨#[45]⟩:BA)]
 |_=>[(⟨#[42]⟩:BA),(⟨#[47]⟩:BA),(⟨#[37]⟩:BA)]
def RG(k:Nat)(t:cO):Bool:=t.kind==6&&(Du k).any fun x=>decide (t.text=x)
def iX(k:Nat)(below:R Nd):Nat->Nd->R Nd
 |0,_=>fun _ _=>.out
 |g+1,out=>fun c s=>
  if RG k (ay c s.at_)then(below c (adv s)).bind fun y s1=>iX k below g (.mk 20 (ay c s.at_).text [out,y] out.pos) c s1
  else .ok out s
def i6:Nat->R Nd
 |0=>iZ F
 |k+1=>fun c s=>(i6 k c s).bind fun x s1=>iX (k+1) (i6 k) F.g x c s1
def II:R Nd:=i6 F 5
def lL(p:Int)(x:ByteArray):Nat->List Nd->R Nd
 |0,_=>fun _ _=>.out
 | g+1,acc=>fun c s=>
  if eT c s then
   if s.at_+1=c.toks.length then .ok (.mk 1 x acc p) (adv s)
   else if aS c (adv s) ⟨#[102,117,110,99]⟩||(aS c (adv s) ⟨#[116,121,112,101]⟩||aS c (adv s) ⟨#[118,97,114]⟩)then(tq F c (adv s)).bind fun d s1=>lL p x g (acc++[d]) c s1
   else .out
  else .out
def rG:R Nd:=fun c s=>(ci ⟨#[112,97,99,107,97,103,101]⟩ c s).bind fun _ s1=>(eK c s1).bind fun x s2=>lL F (aM c s) x F.g [] c s2
end
def di:Nat->iE
 |0=>⟨0,fun _ _=>.out,fun _ _=>.out,fun _ _=>.out,fun _ _=>.out,fun _ _=>.out⟩
 |g+1=>⟨g+1,uk (di g),II (di g),iZ (di g),fY (di g),IB (di g)⟩
def lr(c:UInt8):Bool:=c==95||((decide (97<=c)&&decide (c<=122))||(decide (65<=c)&&decide (c<=90)))
def eF(c:UInt8):Bool:=decide (48<=c)&&decide (c<=57)
def rb:List ByteArray:=[(⟨#[98,114,101,97,107]⟩:BA),(⟨#[99,111,110,116,105,110,117,101]⟩:BA),(⟨#[101,108,115,101]⟩:BA),(⟨#[102,111,114]⟩:BA),(⟨#[102,117,110,99]⟩:BA),(⟨#[105,102]⟩:BA),(⟨#[105,109,112,111,114,116]⟩:BA),(⟨#[105,110,116,101,114,102,97,99,101]⟩:BA),(⟨#[112,97,99,107,97,103,101]⟩:BA),(⟨#[114,97,110,103,101]⟩:BA),(⟨#[114,101,116,117,114,110]⟩:BA),(⟨#[115,116,114,117,99,116]⟩:BA),(⟨#[116,121,112,101]⟩:BA),(⟨#[118,97,114]⟩:BA)]
def rc:List ByteArray:=[(⟨#[99,97,115,101]⟩:BA),(⟨#[99,104,97,110]⟩:BA),(⟨#[99,111,110,115,116]⟩:BA),(⟨#[100,101,102,97,117,108,116]⟩:BA),(⟨#[100,101,102,101,114]⟩:BA),(⟨#[102,97,108,108,116,104,114,111,117,103,104]⟩:BA),(⟨#[103,111]⟩:BA),(⟨#[103,111,116,111]⟩:BA),(⟨#[109,97,112]⟩:BA),(⟨#[115,101,108,101,99,116]⟩:BA),(⟨#[115,119,105,116,99,104]⟩:BA)]
def bM(s:ByteArray):Int:=if rb.any (fun x=>decide (s=x))then 1 else if rc.any (fun x=>decide (s=x))then 2 else 0
def cI:List UInt8->Bool
 |[]=>true
 |c::r=>lr c&&r.all fun c=>lr c||eF c
def dP(s:ByteArray):Bool:=cI s.data.toList&&(decide (s≠(⟨#[]⟩:BA))&&decide (bM s=0))
def aE(s:ByteArray):Bool:=decide (s.size<=100)&&dP s
def bY(s:ByteArray):Bool:=aE s&&decide (s≠(⟨#[95]⟩:BA))
def dt(s:ByteArray):Bool:=s.data.toList.all eF&&(decide (s=(⟨#[48]⟩:BA))||(decide (s≠(⟨#[]⟩:BA))&&(decide (s.size<=200)&&decide (s.data.toList.head? ≠ some 48))))
def ah(n:Nd):Bool:=decide (n.kind=0)&&(decide (n.text=(⟨#[]⟩:BA))&&decide (n.kids.length=0))
def aY:List (Nd->Bool)->List Nd->Bool
 |[],[]=>true
 |p::ps,n::ns=>p n&&aY ps ns
 |_,_=>false
def cA(k:Int)(l:List (Nd->Bool))(n:Nd):Bool:=decide (n.kind=k)&&(decide (n.text=(⟨#[]⟩:BA))&&aY l n.kids)
def au(so:ByteArray->Bool)(n:Nd):Nd:=if so n.text then .mk n.kind ⟨#[]⟩ n.kids n.pos else .mk 37 ⟨#[]⟩ [] 0
def lP(so:Nd->Bool)(n:Nd):Bool:=decide (n.kind=6)&&(decide (n.text=(⟨#[]⟩:BA))&&n.kids.all so)
def cB(a b:Nd->Bool)(n:Nd):Bool:=a n||b n
structure cQ where
 typ:Nd->Bool
 expr:Nd->Bool
 block:Nd->Bool
 stmt:Nd->Bool
 ifS:Nd->Bool
section
variable (F:cQ)
def dQ(so:ByteArray->Bool)(p:Nd):Bool:=cA 8 [F.typ] (au so p)
def io(so:ByteArray->Bool)(n:Nd):Bool:=cA 12 [lP (dQ F so),cB ah F.typ] n
def fw(n:Nd):Bool:=io F aE n
def dV(s:ByteArray):Bool:=decide (s=(⟨#[]⟩:BA))
def dA(n:Nd):Bool:=
 if n.kind=10 then aE n.text&&n.kids.all F.typ
 else if n.kind=11 then cA 11 [F.typ] n
 else if n.kind=12 then io F dV n
 else false
def oL(s:ByteArray):Bool:=decide (s=(⟨#[]⟩:BA))||decide (s=(⟨#[126]⟩:BA))
def uo(t:Nd):Bool:=cA 15 [F.typ] (au oL t)
def i8(n:Nd):Bool:=decide (n.kind=14)&&(decide (n.text=(⟨#[]⟩:BA))&&(decide (0<n.kids.length)&&n.kids.all (uo F)))
def re(f:Nd):Bool:=cA 9 [F.typ] (au aE f)
def ls(n:Nd):Bool:=decide (n.kind=13)&&(decide (n.text=(⟨#[]⟩:BA))&&n.kids.all (re F))
def lV(c:Nd):Bool:=decide (c.kind=10)&&F.typ c
def rL(p:Nd):Bool:=cA 7 [cB (lV F) (i8 F)] (au aE p)
def iJ(n:Nd):Bool:=lP (rL F) n
def iK(n:Nd):Bool:=cA 5 [cB ah F.typ,cB ah F.expr] (au aE n)&&(!(ah (n.kids.getD 0 bX)) || !(ah (n.kids.getD 1 bX)))
def nn(n:Nd):Bool:=
 if n.kind=2 then cA 2 [iJ F,fw F,F.block] (au aE n)
 else if n.kind=3 then cA 3 [iJ F,cB (cB F.typ (ls F)) (i8 F)] (au aE n)
 else if n.kind=4 then cA 4 [iJ F,F.typ] (au aE n)
 else iK F n
def f7:List UInt8:=((⟨#[43,32,45,32,42,32,47,32,37,32,61,61,32,33,61,32,60,32,60,61,32,62,32,62,61,32,38,38,32,124,124,32]⟩:BA).data.toList)
def cU(s:ByteArray):Bool:=decide (s≠(⟨#[]⟩:BA))&&(!(Lib.contains s.data.toList [32])&&Lib.contains (32::f7) (32::(s.data.toList++[32])))
def dW(s:ByteArray):Bool:=decide (s=(⟨#[45]⟩:BA))||decide (s=(⟨#[33]⟩:BA))
def dX(s:ByteArray):Bool:=decide (s.size<=1000)
def dB(k:Nd):Bool:=F.expr k||(decide (k.kind≠10)&&F.typ k)
def aA(n:Nd):Bool:=
 if n.kind=16 then cA 16 [] (au dt n)
 else if n.kind=17 then cA 17 [] (au dX n)
 else if n.kind=18 then cA 18 [] (au aE n)
 else if n.kind=19 then cA 19 [F.expr] (au dW n)
 else if n.kind=20 then cA 20 [F.expr,F.expr] (au cU n)
 else if n.kind=21 then decide (n.text=(⟨#[]⟩:BA))&&(decide (0<n.kids.length)&&n.kids.all F.expr)
 else if n.kind=22 then decide (n.text=(⟨#[]⟩:BA))&&(decide (1<n.kids.length)&&(F.expr (n.kids.getD 0 bX)&&(n.kids.drop 1).all (dB F)))
 else if n.kind=23 then cA 23 [F.expr] (au aE n)
 else if n.kind=24 then decide (n.text=(⟨#[]⟩:BA))&&(decide (0<n.kids.length)&&(decide ((n.kids.getD 0 bX).kind≠12)&&(F.typ (n.kids.getD 0 bX)&&(n.kids.drop 1).all F.expr)))
 else cA 25 [fw F,F.block] n
def fj(s:ByteArray):List UInt8×List UInt8×Bool:=Lib.cut s.data.toList [44]
def bL(s:ByteArray):Bool:=
 decide (s=(⟨#[]⟩:BA))||(((fj s).2.2&&(aE ⟨(fj s).1.toArray⟩&&bY ⟨(fj s).2.1.toArray⟩))||(!(fj s).2.2&&bY ⟨(fj s).1.toArray⟩))
def f8(s:ByteArray):Bool:=decide (s=(⟨#[43,43]⟩:BA))||decide (s=(⟨#[45,45]⟩:BA))
def fk(n:Nd):Bool:=cA 28 [F.expr] (au f8 n)
def fl(n:Nd):Bool:=cA 27 [F.expr,F.expr] n
def iw(x:Nd):Bool:=decide (x.kind=21)&&F.expr x
def eU(n:Nd):Bool:=cA 29 [iw F] n
def du(n:Nd):Bool:=cA 26 [F.expr] (au bY n)
def bD(n:Nd):Bool:=decide (n.kind=36)&&(decide (n.text=(⟨#[]⟩:BA))&&n.kids.all F.stmt)
def Am(n:Nd):Bool:=cA 30 [F.expr,F.block,cB (cB ah F.block) F.ifS] n
def aB(n:Nd):Bool:=
 if n.kind=5 then iK F n
 else if n.kind=26 then du F n
 else if n.kind=27 then fl F n
 else if n.kind=28 then fk F n
 else if n.kind=29 then eU F n
 else if n.kind=30 then Am F n
 else if n.kind=31 then cA 31 [cB (cB ah (du F)) (cB (fl F) (fk F)),cB ah F.expr,cB (cB ah (fl F)) (cB (fk F) (eU F)),F.block] n
 else if n.kind=32 then cA 32 [F.expr,F.block] (au bL n)
 else if n.kind=33 then cA 33 [cB ah F.expr] n
 else if n.kind=34\/n.kind=35 then cA n.kind [] n
 else bD F n
def tr(n:Nd):Bool:=decide (n.kind=1)&&(aE n.text&&n.kids.all (nn F))
end
def aa:Nat->cQ
 |0=>⟨fun _=>false,fun _=>false,fun _=>false,fun _=>false,fun _=>false⟩
 |g+1=>⟨dA (aa g),aA (aa g),bD (aa g),aB (aa g),Am (aa g)⟩
def dK:Nat->Nd->Prop
 |0,_=>False
 |g+1,n=>(n.kids.length<=1000000000/\n.text.size<=1000000000)/\∀k∈n.kids,dK g k
theorem dK.succ:∀{g:Nat}{n:Nd},dK g n->dK (g+1) n
 |0,_,h=>h.elim
 |_+1,_,h=>⟨h.1,fun k hk=>dK.succ (h.2 k hk)⟩
theorem dK.kid{g:Nat}{n k:Nd}(h:dK (g+1) n)(D:k∈n.kids):dK g k:=h.2 k D
theorem dK.len{g:Nat}{n:Nd}(h:dK g n):n.kids.length<=1000000000:=by
 cases g with
 |zero=>exact h.elim
 |succ g=>exact h.1.1
theorem dK.txt{g:Nat}{n:Nd}(h:dK g n):n.text.size<=1000000000:=by
 cases g with
 |zero=>exact h.elim
 |succ g=>exact h.1.2
theorem dK.named{g:Nat}{n:Nd}{so:ByteArray->Bool}(h:dK g n):dK g (au so n):=by
 cases g with
 |zero=>exact h.elim
 |succ g=>
  unfold au;split
  ·exact⟨⟨h.1.1,by simp[ByteArray.size]⟩,h.2⟩
  ·exact⟨⟨by simp,by simp[ByteArray.size]⟩,fun k hk=>by simp at hk⟩
def sF:Nat->Nd->Prop
 |0,_=>True
 |g+1,n=>(n.kids.length<=1000000000/\n.text.size<=1000000000)/\∀k∈n.kids,sF g k
def aP:Nat->Nd->List Nat
 |0,_=>[]
 |l+1,n=>(l+1)::n.kids.flatMap (aP l)
def yt(l:Nat)(n:Nd):Nat:=(aP l n).length
def eN(n:Nd):Nat:=(aP 101 n).foldl (fun d l=>max d (102-l)) 0
theorem mU(l:List Nat):∀d m,l.foldl (fun d l=>max d (102-l)) d<=m↔d<=m/\∀x∈l,102-x<=m:=by
 induction l with
 |nil=>intro d m;simp
 | cons x l ih=>
  intro d m;rw[vr,ih,Nat.max_le];constructor
  ·rintro⟨⟨I,D⟩,J⟩;refine⟨I,fun y hy=>?_⟩;rcases List.mem_cons.1 hy with rfl|hy
   ·exact D
   ·exact J y hy
  ·rintro⟨I,D⟩;exact⟨⟨I,D x List.mem_cons_self⟩,fun y hy=>D y (qq _ hy)⟩
theorem yu:∀(g:Nat)(n:Nd),sF g n->(∀x∈aP (g+1) n,2<=x)->dK g n
 |0,n,_,h=>by have:=h 1 (by simp[aP]);omega
 | g + 1,_,D,h=>⟨D.1,fun k I=>yu g k (D.2 k I) fun x J=>h x (by
     rw[aP];exact qq _ (List.mem_flatMap.2 ⟨k,I,J⟩))⟩
theorem lW{n:Nd}(D:sF 100 n)(h:eN n<=100):dK 100 n:=by refine yu 100 n D fun x hx=>?_;have:=((mU _ _ _).1 h).2 x hx;omega
def eO(n:Nd):Bool:=decide (eN n<=100)&&(decide (yt 100 n<=65536)&&tr (aa 100) n)
end
end Go.Proofs.YtiebcdeafofgdaaGreatDoor
