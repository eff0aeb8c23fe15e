/-
  Parts of the proof: Shelf Shelf3 Dplain Lspec Rspec. By an AI agent.
-/
import Derived.Test.YteialcjaiocjdaaGreatDoorProg
import Derived.Test.YteialcjaiocjdaaGreatDoorJ00
import Derived.Ground.NamesProg
import Derived.Shelf.Lays
import Derived.Shelf.Strings.Search3
import Derived.Shelf.Strings.Cut
import Derived.Shelf.Strings.Prefix
import Derived.Shelf.Small.Strs
import Derived.Shelf.Strings.OnBuilder
open Go.Proofs.Tryz
namespace Go.Proofs
section
open Go.Shelf
def Tryz.laysContains_ren:Go.Shelf.Ren:=⟨fun|144=>66|143=>87|219=>132|217=>137|225=>183|224=>184|267=>185|266=>190|314=>217|n=>n,fun|9=>9|4=>4|3=>3|5=>5|46=>144|146=>169|51=>168|n=>n,fun|1=>0|n=>n⟩
theorem Tryz.laysContains:Go.Proofs.Lays.n144 prog Tryz.laysContains_ren:={
 mixed:=by kernel_rfl
 f143:=func87.trans (congrArg some (by kernel_rfl))
 f144:=func66.trans (congrArg some (by kernel_rfl))
 f217:=func137.trans (congrArg some (by kernel_rfl))
 f219:=func132.trans (congrArg some (by kernel_rfl))
 f224:=func184.trans (congrArg some (by kernel_rfl))
 f225:=func183.trans (congrArg some (by kernel_rfl))
 f266:=func190.trans (congrArg some (by kernel_rfl))
 f267:=func185.trans (congrArg some (by kernel_rfl))
 f314:=func217.trans (congrArg some (by kernel_rfl))
 t3:=underlying3
 a3:=isAgg3
 z3:=sizeOf3
 v3:=zeroValue3
 t4:=underlying4
 a4:=isAgg4
 z4:=sizeOf4
 v4:=zeroValue4
 t5:=underlying5
 a5:=isAgg5
 z5:=sizeOf5
 v5:=zeroValue5
 t9:=underlying9
 a9:=isAgg9
 z9:=sizeOf9
 v9:=zeroValue9
 t46:=underlying144
 a46:=isAgg144
 z46:=sizeOf144
 v46:=zeroValue144
 t51:=underlying168
 a51:=isAgg168
 z51:=sizeOf168
 v51:=zeroValue168
 t146:=underlying169
 a146:=isAgg169
 z146:=sizeOf169
 v146:=zeroValue169
 g1:=by kernel_rfl }
def Tryz.laysCut_ren:Go.Shelf.Ren:=⟨fun|145=>207|220=>223|219=>132|217=>137|225=>183|224=>184|267=>185|266=>190|314=>217|n=>n,fun|9=>9|4=>4|59=>154|3=>3|5=>5|46=>144|146=>169|51=>168|n=>n,fun|1=>0|n=>n⟩
theorem Tryz.laysCut:Go.Proofs.Lays.n145 prog Tryz.laysCut_ren:={
 mixed:=by kernel_rfl
 f145:=func207.trans (congrArg some (by kernel_rfl))
 f217:=func137.trans (congrArg some (by kernel_rfl))
 f219:=func132.trans (congrArg some (by kernel_rfl))
 f220:=func223.trans (congrArg some (by kernel_rfl))
 f224:=func184.trans (congrArg some (by kernel_rfl))
 f225:=func183.trans (congrArg some (by kernel_rfl))
 f266:=func190.trans (congrArg some (by kernel_rfl))
 f267:=func185.trans (congrArg some (by kernel_rfl))
 f314:=func217.trans (congrArg some (by kernel_rfl))
 t3:=underlying3
 a3:=isAgg3
 z3:=sizeOf3
 v3:=zeroValue3
 t4:=underlying4
 a4:=isAgg4
 z4:=sizeOf4
 v4:=zeroValue4
 t5:=underlying5
 a5:=isAgg5
 z5:=sizeOf5
 v5:=zeroValue5
 t9:=underlying9
 a9:=isAgg9
 z9:=sizeOf9
 v9:=zeroValue9
 t46:=underlying144
 a46:=isAgg144
 z46:=sizeOf144
 v46:=zeroValue144
 t51:=underlying168
 a51:=isAgg168
 z51:=sizeOf168
 v51:=zeroValue168
 t59:=underlying154
 a59:=isAgg154
 z59:=sizeOf154
 v59:=zeroValue154
 t146:=underlying169
 a146:=isAgg169
 z146:=sizeOf169
 v146:=zeroValue169
 g1:=by kernel_rfl }
def Tryz.laysPrefix_ren:Go.Shelf.Ren:=⟨fun|99=>120|206=>180|n=>n,fun|9=>9|4=>4|3=>3|n=>n,fun|n=>n⟩
theorem Tryz.laysPrefix:Go.Proofs.Lays.n99 prog Tryz.laysPrefix_ren:={
 mixed:=by kernel_rfl
 f99:=func120.trans (congrArg some (by kernel_rfl))
 f206:=func180.trans (congrArg some (by kernel_rfl))
 t3:=underlying3
 a3:=isAgg3
 z3:=sizeOf3
 v3:=zeroValue3
 t4:=underlying4
 a4:=isAgg4
 z4:=sizeOf4
 v4:=zeroValue4
 t9:=underlying9
 a9:=isAgg9
 z9:=sizeOf9
 v9:=zeroValue9 }
def Tryz.laysJoin_ren:Go.Shelf.Ren:=⟨fun|156=>225|165=>192|166=>134|169=>136|240=>189|241=>221|276=>218|277=>231|n=>n,fun|31=>84|9=>9|3=>3|4=>4|0=>0|20=>20|72=>120|76=>125|70=>118|37=>27|75=>124|127=>149|164=>171|5=>5|80=>67|n=>n,fun|n=>n⟩
theorem Tryz.laysJoin:Go.Proofs.Lays.n156 prog Tryz.laysJoin_ren:={
 mixed:=by kernel_rfl
 f156:=func225.trans (congrArg some (by kernel_rfl))
 f165:=func192.trans (congrArg some (by kernel_rfl))
 f166:=func134.trans (congrArg some (by kernel_rfl))
 f169:=func136.trans (congrArg some (by kernel_rfl))
 f240:=func189.trans (congrArg some (by kernel_rfl))
 f241:=func221.trans (congrArg some (by kernel_rfl))
 f276:=func218.trans (congrArg some (by kernel_rfl))
 f277:=func231.trans (congrArg some (by kernel_rfl))
 t0:=underlying0
 a0:=isAgg0
 z0:=sizeOf0
 v0:=zeroValue0
 t3:=underlying3
 a3:=isAgg3
 z3:=sizeOf3
 v3:=zeroValue3
 t4:=underlying4
 a4:=isAgg4
 z4:=sizeOf4
 v4:=zeroValue4
 t9:=underlying9
 a9:=isAgg9
 z9:=sizeOf9
 v9:=zeroValue9
 t20:=underlying20
 a20:=isAgg20
 z20:=sizeOf20
 v20:=zeroValue20
 t31:=underlying84
 a31:=isAgg84
 z31:=sizeOf84
 v31:=zeroValue84
 t37:=underlying27
 a37:=isAgg27
 z37:=sizeOf27
 v37:=zeroValue27
 t70:=underlying118
 a70:=isAgg118
 z70:=sizeOf118
 v70:=zeroValue118
 t72:=underlying120
 a72:=isAgg120
 z72:=sizeOf120
 v72:=zeroValue120
 t75:=underlying124
 a75:=isAgg124
 z75:=sizeOf124
 v75:=zeroValue124
 t76:=underlying125
 a76:=isAgg125
 z76:=sizeOf125
 v76:=zeroValue125
 t127:=underlying149
 a127:=isAgg149
 z127:=sizeOf149
 v127:=zeroValue149
 t164:=underlying171
 a164:=isAgg171
 z164:=sizeOf171
 v164:=zeroValue171 }
theorem Tryz.joinX:Builder.Extra prog Tryz.laysJoin_ren:={
 sizeBuilder:=by kernel_rfl
 liesBuilder:=by kernel_rfl
 t5:=underlying5
 a5:=isAgg5
 z5:=sizeOf5
 v5:=zeroValue5
 infoByte:=by kernel_rfl
 cellsByte:=by kernel_rfl
 sizeByte:=by kernel_rfl
 neB5:=by decide }
end
end Go.Proofs
namespace Go.Proofs.YteialcjaiocjdaaGreatDoor
section
theorem gA:type_of% @Bool.and_eq_true:=@Bool.and_eq_true
theorem gD:type_of% @decide_eq_true_eq:=@decide_eq_true_eq
theorem gS:type_of% @List.getElem_mem:=@List.getElem_mem
theorem gV:type_of% @List.take_of_length_le:=@List.take_of_length_le
theorem gZ:type_of% @Nat.add_zero:=@Nat.add_zero
theorem jB:type_of% @List.getD_eq_getElem?_getD:=@List.getD_eq_getElem?_getD
theorem jV:type_of% @ByteArray.size_extract:=@ByteArray.size_extract
theorem kO:type_of% @beq_iff_eq:=@beq_iff_eq
theorem qO:type_of% @List.extract_eq_take_drop:=@List.extract_eq_take_drop
theorem vw:type_of% @UInt8.toNat_lt:=@UInt8.toNat_lt
def aI(s:ByteArray)(i:Nat):Nat:=(s.data.toList.getD i 0).toNat
theorem ml(s:ByteArray)(i:Nat):aI s i<256:=vw _
theorem uD(s:ByteArray)(j:Nat):(s.get! j).toNat=aI s j:=by obtain⟨bs⟩:=s;show(bs[j]!).toNat=(bs.toList.getD j 0).toNat;rw[Array.getElem!_eq_getD,jB,Array.getD_eq_getD_getElem?,Array.getElem?_toList];rfl
def I9(y0 y1 y2 y3:Nat)(c1 c2 c3:Prop)[Decidable c1][Decidable c2][Decidable c3]:Nat×Nat:=
 if y0<128 then(y0,1)
 else if y0/32=6/\c1/\y1/64=2 then(if 128<=y0%32*64+y1%64 then(y0%32*64+y1%64,2)else(65533,1))
 else if y0/16=14/\(c1/\y1/64=2)/\(c2/\y2/64=2)then(if 2048<=y0%16*4096+y1%64*64+y2%64/\Utf8.valid ((y0%16*4096+y1%64*64+y2%64:Nat):Int)=true then(y0%16*4096+y1%64*64+y2%64,3)else(65533,1))
 else if y0/8=30/\(c1/\y1/64=2)/\(c2/\y2/64=2)/\(c3/\y3/64=2)then(if 65536<=y0%8*262144+y1%64*4096+y2%64*64+y3%64/\Utf8.valid ((y0%8*262144+y1%64*4096+y2%64*64+y3%64:Nat):Int)=true then(y0%8*262144+y1%64*4096+y2%64*64+y3%64,4)else(65533,1))
 else(65533,1)
theorem ny(s:ByteArray)(i:Nat):Utf8.decode s i=I9 (aI s i) (aI s (i+1)) (aI s (i+2)) (aI s (i+3)) (i+1<s.size) (i+2<s.size) (i+3<s.size):=by unfold I9;simp only[Utf8.decode,uD,gZ,gA,gD,kO,ge_iff_le,Utf8.runeError,and_assoc]
theorem nZ(s:ByteArray)(i:Nat)(h:aI s i<128):Utf8.decode s i=(aI s i,1):=by rw[ny,I9,gG h]
theorem decode_high(s:ByteArray)(i:Nat)(J:i<s.size)(h:128<=aI s i):
  128<=(Utf8.decode s i).1/\1<=(Utf8.decode s i).2/\i+(Utf8.decode s i).2<=s.size/\∀m,m<(Utf8.decode s i).2->128<=aI s (i+m):=by
 (have one:∀m,m<1->128<=aI s (i+m):=fun m D=>by(obtain rfl:m=0:=by omega);exact h);rw[ny,I9,gB (by omega)];split
 ·rename_i I;split
  ·refine⟨by omega,by omega,by simp only;omega,fun m D=>?_⟩;have D:m<2:=D;rcases(by omega:m=0\/m=1)with rfl|rfl
   ·exact h
   ·omega
  ·exact⟨by omega,by omega,by simp only;omega,one⟩
 ·split
  ·rename_i I;split
   ·refine⟨by omega,by omega,by simp only;omega,fun m D=>?_⟩;have D:m<3:=D;rcases(by omega:m=0\/m=1\/m=2)with rfl|rfl|rfl
    ·exact h
    ·omega
    ·omega
   ·exact⟨by omega,by omega,by simp only;omega,one⟩
  ·split
   ·rename_i I;split
    ·refine⟨by omega,by omega,by simp only;omega,fun m D=>?_⟩;have D:m<4:=D;rcases(by omega:m=0\/m=1\/m=2\/m=3)with rfl|rfl|rfl|rfl
     ·exact h
     ·omega
     ·omega
     ·omega
    ·exact⟨by omega,by omega,by simp only;omega,one⟩
   ·exact⟨by omega,by omega,by simp only;omega,one⟩
theorem eY(s:ByteArray)(i j:Nat):aI (s.extract i s.size) j=aI s (i+j):=by unfold aI;rw[ByteArray.data_extract,Array.toList_extract,qO,gV (by rw[jH];exact Nat.le_of_eq rfl),jB,List.getElem?_drop,<-jB]
theorem B3(s:ByteArray)(i j:Nat):Utf8.decode (s.extract i s.size) j=Utf8.decode s (i+j):=by(have D:(s.extract i s.size).size=s.size-i:=by rw[jV];omega);rw[ny,ny,eY,eY,eY,eY,D];(have M:(j+1<s.size-i)=(i+j+1<s.size):=by rw[eq_iff_iff];omega);(have J:(j+2<s.size-i)=(i+j+2<s.size):=by rw[eq_iff_iff];omega);(have I:(j+3<s.size-i)=(i+j+3<s.size):=by rw[eq_iff_iff];omega);simp only[M,J,I,Nat.add_assoc]
def d8(l:List UInt8):Bool:=l.all fun b=>decide (0<b.toNat)&&decide (b.toNat<128)
theorem B4{t:ByteArray}(h:d8 t.data.toList=true)(j:Nat)(D:j<t.size):0<aI t j/\aI t j<128:=by have I:=List.all_eq_true.1 h _ (gS (show j<t.data.toList.length from D));rw[gA,gD,gD]at I;unfold aI;rw[jB,gT (show j<t.data.toList.length from D)];exact I
def dj:List UInt8->Bool->Nat->Option Nat
 |[],_,_=>none
 |c::r,true,k=>if c.toNat=10 then none else dj r false (k+1)
 |c::r,false,k=>
  if c.toNat=92 then dj r true (k+1)
  else if c.toNat=34 then some k
  else if c.toNat=10 then none
  else dj r false (k+1)
def ij(c:Nat):Option Nat:=
 if 48<=c/\c<=57 then some (c-48)else if 97<=c/\c<=102 then some (c-87)else if 65<=c/\c<=70 then some (c-55)else none
def i7(m:Nat):List Nat:=if m=0 then[]else if m<10 then[m]else[m%10,m/10]
def eJ(f:Nat):List Nat->Nat->List Nat
 |[],m=>i7 m
 |x::r,m=>(x*f+m)%10::eJ f r ((x*f+m)/10)
def fA(radix:Nat):List UInt8->Nat->Option Nat
 |[],v=>some v
 | c::r,v=>match ij c.toNat with
   |none=>none
   |some d=>if d<radix then fA radix r (v*radix+d)else none
def cA(s:List UInt8)(n radix:Nat):Option Nat:=if n<=s.length then fA radix (s.take n) 0 else none
def eP(c:Nat):Option Nat:=
 if c=97 then some 7 else if c=98 then some 8 else if c=102 then some 12 else if c=110 then some 10 else if c=114 then some 13
 else if c=116 then some 9 else if c=118 then some 11 else if c=92 then some 92 else if c=34 then some 34 else none
def l9:List UInt8->Option (List UInt8×Nat)
 |[]=>none
 | c::r=>
  match eP c.toNat with
  |some v=>some ([UInt8.ofNat v],1)
  |none=>
   if c.toNat=120 then(cA r 2 16).map fun v=>([UInt8.ofNat v],3)
   else if c.toNat=117 then(cA r 4 16).bind fun v=>if Utf8.valid (v:Int)=true then some ((Utf8.encode (v:Int)).data.toList,5)else none
   else if c.toNat=85 then(cA r 8 16).bind fun v=>if Utf8.valid (v:Int)=true then some ((Utf8.encode (v:Int)).data.toList,9)else none
   else(cA (c::r) 3 8).bind fun v=>if v<=255 then some ([UInt8.ofNat v],3)else none
def cZ:Nat->List UInt8->Option (List UInt8)
 |0,_=>none
 |_+1,[]=>some []
 |g+1,c::r=>
  if c.toNat=92 then(l9 r).bind fun p=>(cZ g (r.drop p.2)).map fun t=>p.1++t
  else if c.toNat=34\/c.toNat=10 then none
  else(cZ g r).map fun t=>c::t
def lT(s:ByteArray):Option ByteArray:=
 if s.size<=65536/\2<=s.size/\d8 s.data.toList=true/\aI s 0=34/\aI s (s.size-1)=34 then(cZ (s.size+1) (s.data.toList.extract 1 (s.size-1))).map fun l=>⟨l.toArray⟩
 else none
structure ef where
 kind:Int
 text:ByteArray
 pos:Int
structure Cx where
 toks:List ef
 fin:Int
structure St where
 at_:Nat
 head:Bool
 part:Int
inductive bQ(α:Type)where
 |ok (a:α) (s:St)
 |out
def R(α:Type):=Cx->St->bQ α
def bQ.bind{α β:Type}(r:bQ α)(f:α->St->bQ β):bQ β:=
 match r with
 | .ok a s=>f a s
 | .out=>.out
@[simp] theorem bQ.bind_ok {α β:Type} (a:α) (s:St) (f:α->St->bQ β):(bQ.ok a s).bind f=f a s:=rfl
@[simp] theorem bQ.bind_out {α β:Type} (f:α->St->bQ β):(bQ.out:bQ α).bind f=.out:=rfl
def az(c:Cx)(i:Nat):ef:=
 match c.toks[i]? with
 |some t=>t
 |none=>⟨0,⟨#[]⟩,c.fin⟩
def TD(t:ef)(x:ByteArray):Bool:=(t.kind==2||t.kind==6)&&decide (t.text=x)
def aP(c:Cx)(s:St)(x:ByteArray):Bool:=TD (az c s.at_) x
def adv(s:St):St:={ s with at_:=s.at_+1 }
def aD(c:Cx)(s:St):Int:=(az c s.at_).pos
def bV(x:ByteArray):R Unit:=fun c s=>if aP c s x then .ok () (adv s)else .out
def cT:R ByteArray:=fun c s=>if(az c s.at_).kind=1 then .ok (az c s.at_).text (adv s)else .out
def d6(c:Cx)(s:St):Bool:=aP c s ⟨#[59]⟩||aP c s ⟨#[10]⟩
def fB(c:Cx)(s:St):St:=if d6 c s then adv s else s
def cY(c:Cx)(s:St):Bool:=aP c s ⟨#[91]⟩&&(match c.toks[s.at_+1]? with|some t=>t.kind==6&&decide (t.text=(⟨#[93]⟩:BA))|none=>false)
def bh(part:R Nd)(en:ByteArray):Nat->List Nd->R (List Nd)
 |0,_=>fun _ _=>.out
 |g+1,acc=>fun c s=>
  if aP c s en then .ok acc (adv s)else
  (part c s).bind fun n s1=>
  if aP c s1 en then .ok (acc++[n]) (adv s1)else
  (bV ⟨#[44]⟩ c s1).bind fun _ s2=>bh part en g (acc++[n]) c s2
def cB{α:Type}(part:R α):R α:=fun c s=>(part c { s with head:=false }).bind fun a s1=>.ok a { s1 with head:=s.head }
def db{α:Type}(part:R α):R α:=fun c s=>(part c { s with head:=true }).bind fun a s1=>.ok a { s1 with head:=s.head }
def oY(c:Cx)(s:St):Bool:=(az c s.at_).kind==1||(aP c s ⟨#[91]⟩||(aP c s ⟨#[40]⟩||aP c s ⟨#[102,117,110,99]⟩))
structure fK where
 g:Nat
 typ:R Nd
 expr:R Nd
 unary:R Nd
 stmt:R Nd
 ifS:R Nd
section
variable (F:fK)
def dt:R Nd:=fun c s=>if oY c s then F.typ c s else .ok cc s
def m8:R Nd:=fun c s=>(F.typ c s).bind fun t s1=>.ok (.mk 8 ⟨#[]⟩ [t] (aD c s)) s1
def dk(p:Int):R Nd:=fun c s=>
 (bV ⟨#[40]⟩ c s).bind fun _ s1=>(bh (m8 F) ⟨#[41]⟩ F.g [] c s1).bind fun l s2=>
 (dt F c s2).bind fun r s3=>.ok (.mk 12 ⟨#[]⟩ [.mk 6 ⟨#[]⟩ l (aD c s),r] p) s3
def fC:R Nd:=fun c s=>(cT c s).bind fun x s1=>(F.typ c s1).bind fun t s2=>.ok (.mk 8 x [t] (aD c s)) s2
def n7(p:Int):R Nd:=fun c s=>
 (bV ⟨#[40]⟩ c s).bind fun _ s1=>(bh (fC F) ⟨#[41]⟩ F.g [] c s1).bind fun l s2=>
 (dt F c s2).bind fun r s3=>.ok (.mk 12 ⟨#[]⟩ [.mk 6 ⟨#[]⟩ l (aD c s),r] p) s3
def uE:R Nd:=fun c s=>
 if aP c s ⟨#[40]⟩then(F.typ c (adv s)).bind fun t s1=>(bV ⟨#[41]⟩ c s1).bind fun _ s2=>.ok t s2
 else if aP c s ⟨#[91]⟩then(bV ⟨#[93]⟩ c (adv s)).bind fun _ s1=>(F.typ c s1).bind fun t s2=>.ok (.mk 11 ⟨#[]⟩ [t] (aD c s)) s2
 else if aP c s ⟨#[102,117,110,99]⟩then dk F (aD c s) c (adv s)
 else(cT c s).bind fun x s1=>
  if aP c s1 ⟨#[91]⟩ && !cY c s1 then
   (bh F.typ ⟨#[93]⟩ F.g [] c (adv s1)).bind fun l s2=>if l.length=0 then .out else .ok (.mk 10 x l (aD c s)) s2
  else .ok (.mk 10 x [] (aD c s)) s1
def ma:R Nd:=fun c s=>
 if aP c s ⟨#[126]⟩then(F.typ c (adv s)).bind fun t s1=>.ok (.mk 15 ⟨#[126]⟩ [t] (aD c s)) s1
 else(F.typ c s).bind fun t s1=>.ok (.mk 15 ⟨#[]⟩ [t] (aD c s)) s1
def eQ(p:Int):Nat->List Nd->R Nd
 |0,_=>fun _ _=>.out
 |g+1,acc=>fun c s=>
  if aP c s ⟨#[124]⟩then(ma F c (adv s)).bind fun t s1=>eQ p g (acc++[t]) c s1
  else .ok (.mk 14 ⟨#[]⟩ acc p) s
def fv(p:Int):R Nd:=fun c s=>(ma F c s).bind fun t s1=>eQ F p F.g [t] c s1
def iJ(p:Int):R Nd:=fun c s=>
 (bV ⟨#[123]⟩ c s).bind fun _ s1=>(fv F p c s1).bind fun n s2=>(bV ⟨#[125]⟩ c (fB c s2)).bind fun _ s3=>.ok n s3
def yN(n:Nd):Option Nd:=
 match n.kids with
 | [t]=>match t.kids with
   |k::_=>if t.text=(⟨#[]⟩:BA)/\k.kind=10 then some k else none
   |[]=>none
 |_=>none
def ez:R Nd:=fun c s=>
 if aP c s ⟨#[105,110,116,101,114,102,97,99,101]⟩then iJ F (aD c s) c (adv s)
 else(fv F (aD c s) c s).bind fun n s1=>.ok ((yN n).getD n) s1
def ev:R Nd:=fun c s=>(cT c s).bind fun x s1=>(ez F c s1).bind fun t s2=>.ok (.mk 7 x [t] (aD c s)) s2
def eR:R Nd:=fun c s=>
 if aP c s ⟨#[91]⟩ && !cY c s then
  (bh (ev F) ⟨#[93]⟩ F.g [] c (adv s)).bind fun l s1=>if l.length=0 then .out else .ok (.mk 6 ⟨#[]⟩ l (aD c s)) s1
 else .ok (.mk 6 ⟨#[]⟩ [] 0) s
def cU(p:Int):Nat->List Nd->R Nd
 |0,_=>fun _ _=>.out
 |g+1,acc=>fun c s=>
  if aP c s ⟨#[125]⟩then .ok (.mk 13 ⟨#[]⟩ acc p) (adv s)else
  (cT c s).bind fun x s1=>(F.typ c s1).bind fun t s2=>
  if d6 c s2 then cU p g (acc++[.mk 9 x [t] (aD c s)]) c (adv s2)
  else if aP c s2 ⟨#[125]⟩then cU p g (acc++[.mk 9 x [t] (aD c s)]) c s2
  else .out
def i8(p:Int):R Nd:=fun c s=>(bV ⟨#[123]⟩ c s).bind fun _ s1=>cU F p F.g [] c s1
def d7:R Nd:=fun c s=>
 (bV ⟨#[118,97,114]⟩ c s).bind fun _ s1=>(cT c s1).bind fun x s2=>
 if aP c s2 ⟨#[61]⟩then(F.expr c (adv s2)).bind fun v s3=>.ok (.mk 5 x [cc,v] (aD c s)) s3
 else(F.typ c s2).bind fun t s3=>
  if aP c s3 ⟨#[61]⟩then(F.expr c (adv s3)).bind fun v s4=>.ok (.mk 5 x [t,v] (aD c s)) s4
  else .ok (.mk 5 x [t,cc] (aD c s)) s3
def lx(p:Int):R Nd:=fun c s=>
 (cT c s).bind fun x s1=>(eR F c s1).bind fun ps s2=>
 if aP c s2 ⟨#[61]⟩then(F.typ c (adv s2)).bind fun t s3=>.ok (.mk 4 x [ps,t] p) s3
 else if aP c s2 ⟨#[115,116,114,117,99,116]⟩then(i8 F (aD c s2) c (adv s2)).bind fun t s3=>.ok (.mk 3 x [ps,t] p) s3
 else if aP c s2 ⟨#[105,110,116,101,114,102,97,99,101]⟩then(iJ F (aD c s2) c (adv s2)).bind fun t s3=>.ok (.mk 3 x [ps,t] p) s3
 else(F.typ c s2).bind fun t s3=>.ok (.mk 3 x [ps,t] p) s3
def cS(p:Int):Nat->List Nd->R Nd
 |0,_=>fun _ _=>.out
 | g+1,acc=>fun c s=>
  if aP c s ⟨#[125]⟩then .ok (.mk 36 ⟨#[]⟩ acc p) (adv s)
  else if d6 c s then cS p g acc c (adv s)
  else(F.stmt c s).bind fun n s1=>
   if d6 c s1 then cS p g (acc++[n]) c (adv s1)
   else if aP c s1 ⟨#[125]⟩then cS p g (acc++[n]) c s1
   else .out
def mR:R Nd:=fun c s=>(bV ⟨#[123]⟩ c s).bind fun _ s1=>cS F (aD c s) F.g [] c s1
def bH:R Nd:=cB (mR F)
def ib:R Nd:=fun c s=>
 if aP c s ⟨#[102,117,110,99]⟩then
  (cT c (adv s)).bind fun x s1=>(eR F c s1).bind fun ps s2=>(n7 F (aD c s) c s2).bind fun sg s3=>(bH F c s3).bind fun b s4=>.ok (.mk 2 x [ps,sg,b] (aD c s)) s4
 else if aP c s ⟨#[116,121,112,101]⟩then lx F (aD c s) c (adv s)
 else d7 F c s
def ic(p:Int)(x:Nd):R Nd:=fun c s=>
 if x.kind=18/\x.text≠(⟨#[95]⟩:BA)/\aP c s ⟨#[58,61]⟩=true then(F.expr c (adv s)).bind fun v s1=>.ok (.mk 26 x.text [v] p) s1
 else if aP c s ⟨#[61]⟩then(F.expr c (adv s)).bind fun v s1=>.ok (.mk 27 ⟨#[]⟩ [x,v] p) s1
 else if aP c s ⟨#[43,43]⟩then .ok (.mk 28 ⟨#[43,43]⟩ [x] p) (adv s)
 else if aP c s ⟨#[45,45]⟩then .ok (.mk 28 ⟨#[45,45]⟩ [x] p) (adv s)
 else if x.kind=21 then .ok (.mk 29 ⟨#[]⟩ [x] p) s
 else .out
def iC:R Nd:=fun c s=>(F.expr c s).bind fun x s1=>ic F (aD c s) x c s1
def I3:R Nd:=fun c s=>
 (bV ⟨#[105,102]⟩ c s).bind fun _ s1=>(db F.expr c s1).bind fun x s2=>(bH F c s2).bind fun b s3=>
 if aP c s3 ⟨#[101,108,115,101]⟩then
  if aP c (adv s3) ⟨#[105,102]⟩then(F.ifS c (adv s3)).bind fun o s4=>.ok (.mk 30 ⟨#[]⟩ [x,b,o] (aD c s)) s4
  else(bH F c (adv s3)).bind fun o s4=>.ok (.mk 30 ⟨#[]⟩ [x,b,o] (aD c s)) s4
 else .ok (.mk 30 ⟨#[]⟩ [x,b,cc] (aD c s)) s3
def dl(l:List ef):ByteArray:=
 if l.any (fun t=>t.kind==5)then(⟨#[]⟩:BA)else
 match l with
 |[]=>(⟨#[]⟩:BA)
 |t::r=>r.foldl (fun a u=>a++(⟨#[32]⟩:BA)++u.text) t.text
def bS(c:Cx)(s:St):Option (ByteArray×St):=
 let l:=c.toks.drop s.at_
 if aP c s ⟨#[114,97,110,103,101]⟩then some ((⟨#[]⟩:BA),adv s)else
 match l with
 |a::b::d::_=>
  if a.kind=1/\a.text≠(⟨#[95]⟩:BA)/\dl [a,b,d]=a.text++(⟨#[32,58,61,32,114,97,110,103,101]⟩:BA)then some (a.text,{ s with at_:=s.at_+3 })
  else if a.kind=1/\d.kind=1/\d.text≠(⟨#[95]⟩:BA)/\dl (l.take 5)=a.text++(⟨#[32,44,32]⟩:BA)++d.text++(⟨#[32,58,61,32,114,97,110,103,101]⟩:BA)then some (a.text++(⟨#[44]⟩:BA)++d.text,{ s with at_:=s.at_+5 })
  else none
 |_=>none
def fD:R Nd:=fun c s=>(F.expr c s).bind fun x s1=>if aP c s1 ⟨#[123]⟩then .ok x s1 else ic F (aD c s) x c s1
def nz:R Nd:=fun c s=>(iC F c s).bind fun x s1=>if x.kind=26 then .out else .ok x s1
def nA:R (Nd×Nd×Nd):=fun c s=>
 let tail:Nd->R (Nd×Nd×Nd):=fun a c s=>
  (bV ⟨#[59]⟩ c s).bind fun _ s1=>
  (if aP c s1 ⟨#[59]⟩then .ok cc s1 else db F.expr c s1).bind fun b s2=>
  (bV ⟨#[59]⟩ c s2).bind fun _ s3=>
  (if aP c s3 ⟨#[123]⟩then .ok cc s3 else db (nz F) c s3).bind fun d s4=>.ok (a,b,d) s4
 if aP c s ⟨#[59]⟩then tail cc c s else
 (db (fD F) c s).bind fun x s1=>
 if x.kind=29 then .out
 else if x.kind<26 then .ok (cc,x,cc) s1
 else tail x c s1
def rj:R Nd:=fun c s=>
 (bV ⟨#[102,111,114]⟩ c s).bind fun _ s1=>
 match bS c s1 with
 |some (x,s2)=>(db F.expr c s2).bind fun e s3=>(bH F c s3).bind fun b s4=>.ok (.mk 32 x [e,b] (aD c s)) s4
 |none=>
  (if aP c s1 ⟨#[123]⟩then .ok (cc,cc,cc) s1 else nA F c s1).bind fun h s2=>
  (bH F c s2).bind fun b s3=>.ok (.mk 31 ⟨#[]⟩ [h.1,h.2.1,h.2.2,b] (aD c s)) s3
def iu:R Nd:=fun c s=>
 if aP c s ⟨#[118,97,114]⟩then d7 F c s
 else if aP c s ⟨#[105,102]⟩then I3 F c s
 else if aP c s ⟨#[102,111,114]⟩then rj F c s
 else if aP c s ⟨#[123]⟩then bH F c s
 else if aP c s ⟨#[114,101,116,117,114,110]⟩then
  if d6 c (adv s)||aP c (adv s) ⟨#[125]⟩then .ok (.mk 33 ⟨#[]⟩ [cc] (aD c s)) (adv s)
  else(F.expr c (adv s)).bind fun x s1=>.ok (.mk 33 ⟨#[]⟩ [x] (aD c s)) s1
 else if aP c s ⟨#[98,114,101,97,107]⟩then .ok (.mk 34 ⟨#[]⟩ [] (aD c s)) (adv s)
 else if aP c s ⟨#[99,111,110,116,105,110,117,101]⟩then .ok (.mk 35 ⟨#[]⟩ [] (aD c s)) (adv s)
 else iC F c s
def iR(c:Cx)(s:St):Bool:=aP c s ⟨#[44]⟩||aP c s ⟨#[93]⟩
def i9(c:Cx)(s:St):Bool:=
 decide (s.at_+2<c.toks.length)&&((az c (s.at_+1)).kind==1 &&
  ((az c (s.at_+2)).kind==1||(aP c { s with at_:=s.at_+2 } (⟨#[102,117,110,99]⟩:BA)||(aP c { s with at_:=s.at_+2 } (⟨#[40]⟩:BA)||cY c { s with at_:=s.at_+2 }))))
def dm(p:Int)(types:Bool):R Nd:=fun c s=>
 if types=true/\i9 c s=false/\s.at_+1<c.toks.length/\(az c (s.at_+1)).text≠(⟨#[41]⟩:BA)then
  (dk F p c s).bind fun t s1=>if iR c s1 then .ok t s1 else .out
 else(n7 F p c s).bind fun sg s1=>
  if types=true/\(sg.kids.headD cc).kids.length=0/\iR c s1=true then .ok sg s1
  else(bH F c s1).bind fun b s2=>.ok (.mk 25 ⟨#[]⟩ [sg,b] p) s2
def dc(t:Nd):R Nd:=fun c s=>
 (bV ⟨#[123]⟩ c s).bind fun _ s1=>(cB (bh F.expr ⟨#[125]⟩ F.g []) c s1).bind fun l s2=>.ok (.mk 24 ⟨#[]⟩ (t::l) t.pos) s2
def iD(types:Bool):R Nd:=fun c s=>
 (F.typ c s).bind fun t s1=>if types&&iR c s1 then .ok t s1 else dc F t c s1
def cX:R Nd:=fun c s=>F.expr c { s with part:=s.at_ }
mutual
def bP:Nd->Option Nd
 | .mk k t l a=>
  if k=10\/k=11\/k=12 then some (.mk k t l a)
  else if k=18 then some (.mk 10 t [] a)
  else if k=22 then
   match l with
   |[]=>none
   | x::r=>match bP x with
     |some (.mk k2 t2 l2 a2)=>if k2=10/\l2.length=0 then(cC r).map fun r'=>.mk k2 t2 r' a2 else none
     |none=>none
  else none
def cC:List Nd->Option (List Nd)
 |[]=>some []
 | x::r=>match bP x with
   |some y=>(cC r).map fun r'=>y::r'
   |none=>none
end
def mb(s:ByteArray):ByteArray:=(lT s).getD ⟨#[]⟩
def cN:R (Nd×Bool):=fun c s=>
 let t:=az c s.at_
 let types:Bool:=decide (s.part=(s.at_:Int))
 let s0:St:={ s with part :=-1 }
 if t.kind=1 then .ok (.mk 18 t.text [] t.pos,true) (adv s0)
 else if t.kind=4 then .ok (.mk 16 t.text [] t.pos,false) (adv s0)
 else if t.kind=5 then .ok (.mk 17 (mb t.text) [] t.pos,false) (adv s0)
 else if aP c s0 ⟨#[40]⟩then(cB F.expr c (adv s0)).bind fun x s1=>(bV ⟨#[41]⟩ c s1).bind fun _ s2=>.ok (x,false) s2
 else if aP c s0 ⟨#[102,117,110,99]⟩then(dm F t.pos types c (adv s0)).bind fun x s1=>.ok (x,false) s1
 else if cY c s0 then(iD F types c s0).bind fun x s1=>.ok (x,false) s1
 else .out
def aK:Nat->Nd->Bool->R Nd
 |0,_,_=>fun _ _=>.out
 | g+1,out,bare=>fun c s=>
  if aP c s ⟨#[40]⟩then(cB (bh F.expr ⟨#[41]⟩ F.g []) c (adv s)).bind fun l s1=>aK g (.mk 21 ⟨#[]⟩ (out::l) out.pos) false c s1
  else if aP c s ⟨#[91]⟩then(cB (bh (cX F) ⟨#[93]⟩ F.g []) c (adv s)).bind fun l s1=>
   if l.length=0 then .out else aK g (.mk 22 ⟨#[]⟩ (out::l) out.pos) bare c s1
  else if aP c s ⟨#[46]⟩then(cT c (adv s)).bind fun x s1=>aK g (.mk 23 x [out] out.pos) false c s1
  else if aP c s ⟨#[123]⟩&&(bare && !s.head)then
   match bP out with
   |none=>.ok out s
   |some t=>(dc F t c s).bind fun n s1=>aK g n false c s1
  else .ok out s
def lU:R Nd:=fun c s=>(cN F c s).bind fun x s1=>aK F F.g x.1 x.2 c s1
def ly:R Nd:=fun c s=>
 if aP c s ⟨#[45]⟩||aP c s ⟨#[33]⟩then(F.unary c (adv s)).bind fun x s1=>.ok (.mk 19 (az c s.at_).text [x] (aD c s)) s1
 else lU F c s
def DO:Nat->List ByteArray
 |5=>[(⟨#[124,124]⟩:BA)]
 |4=>[(⟨#[38,38]⟩:BA)]
 |3=>[(⟨#[61,61]⟩:BA),(⟨#[33,61]⟩:BA),(⟨#[60]⟩:BA),(⟨#[60,61]⟩:BA),(⟨#[62]⟩:BA),(⟨#[62,61]⟩:BA)]
 |2=>[(⟨#[43]⟩:BA),(⟨#[45]⟩:BA)]
 |_=>[(⟨#[42]⟩:BA),(⟨#[47]⟩:BA),(⟨#[37]⟩:BA)]
def Sa(k:Nat)(t:ef):Bool:=t.kind==6&&(DO k).any fun x=>decide (t.text=x)
def lw(k:Nat)(below:R Nd):Nat->Nd->R Nd
 |0,_=>fun _ _=>.out
 |g+1,out=>fun c s=>
  if Sa k (az c s.at_)then(below c (adv s)).bind fun y s1=>lw k below g (.mk 20 (az c s.at_).text [out,y] out.pos) c s1
  else .ok out s
def lz:Nat->R Nd
 |0=>ly F
 |k+1=>fun c s=>(lz k c s).bind fun x s1=>lw (k+1) (lz k) F.g x c s1
def La:R Nd:=lz F 5
def iK(p:Int)(x:ByteArray):Nat->List Nd->R Nd
 |0,_=>fun _ _=>.out
 | g+1,acc=>fun c s=>
  if d6 c s then
   if s.at_+1=c.toks.length then .ok (.mk 1 x acc p) (adv s)
   else if aP c (adv s) ⟨#[102,117,110,99]⟩||(aP c (adv s) ⟨#[116,121,112,101]⟩||aP c (adv s) ⟨#[118,97,114]⟩)then(ib F c (adv s)).bind fun d s1=>iK p x g (acc++[d]) c s1
   else .out
  else .out
def oN:R Nd:=fun c s=>(bV ⟨#[112,97,99,107,97,103,101]⟩ c s).bind fun _ s1=>(cT c s1).bind fun x s2=>iK F (aD c s) x F.g [] c s2
end
def cI:Nat->fK
 |0=>⟨0,fun _ _=>.out,fun _ _=>.out,fun _ _=>.out,fun _ _=>.out,fun _ _=>.out⟩
 |g+1=>⟨g+1,uE (cI g),La (cI g),ly (cI g),iu (cI g),I3 (cI g)⟩
end
end Go.Proofs.YteialcjaiocjdaaGreatDoor
