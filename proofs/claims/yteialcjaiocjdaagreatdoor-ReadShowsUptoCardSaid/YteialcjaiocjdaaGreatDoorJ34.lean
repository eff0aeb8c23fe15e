/-
  Parts of the proof: Ppr Pshift Pwr Ubin Cut Pqg Pout Pqh. By an AI agent.
-/
import Derived.Test.YteialcjaiocjdaaGreatDoorJ33
import Derived.Test.YteialcjaiocjdaaGreatDoorJ02
import Derived.Test.YteialcjaiocjdaaGreatDoorJ17
import Derived.Test.YteialcjaiocjdaaGreatDoorJ30
import Derived.Lib.IndexBytes
import Derived.Lib.IndexAny
import Derived.Lib.IndexMore
namespace Go.Proofs.YteialcjaiocjdaaGreatDoor
section
open Go.Lib
def cK(b:UInt8):It:=.tok 6 [b]
def ow(x:ByteArray):It:=.tok 6 (bytes x)
def f8(x:ByteArray):It:=.tok 2 (bytes x)
def iq(x:ByteArray):It:=.tok 1 (bytes x)
def aY:It:=.gap 32
def cr(s:List It):List (List It)->List It
 |[]=>[]
 |[x]=>x
 |x::y::r=>x++(s++cr s (y::r))
def ch:List It:=[cK 44,aY]
abbrev aW(n:Nd)(i:Nat):Nd:=n.kids.getD i cc
def mP(n:Nat):List It:=List.replicate n (.gap 9)
def yG(n:Nat):UInt8:=UInt8.ofNat (if n<10 then 48+n else 87+n)
def cu(b:UInt8):List UInt8:=
 if b=34 then[92,34]else if b=92 then[92,92]else if b=10 then[92,110]else if b=9 then[92,116]
 else if 32<=b.toNat/\b.toNat<=126 then[b]else[92,120,yG (b.toNat/16),yG (b.toNat%16)]
def dC(s:List UInt8):List UInt8:=34::s.flatMap cu++[34]
def dD(x:ByteArray):List It:=if x=(⟨#[]⟩:BA)then[]else[iq x,aY]
def eg(f:Nd->List It)(n:Nd):List It:=
 cK 40::(cr ch ((aW n 0).kids.map fun p=>dD p.text++f (aW p 0))++(cK 41::(if(aW n 1).kind=0 then[]else aY::f (aW n 1))))
def nh(f:Nd->List It)(l:List Nd):List It:=if l=[]then[]else cK 91::(cr ch (l.map f)++[cK 93])
def ig(x:ByteArray):List It:=if x=(⟨#[]⟩:BA)then[]else[cK 126]
def l7(f:Nd->List It)(n:Nd):List It:=f8 ⟨#[105,110,116,101,114,102,97,99,101]⟩::cK 123::aY::(cr [aY,cK 124,aY] (n.kids.map fun t=>ig t.text++f (aW t 0))++[aY,cK 125])
def ag:Nat->Nd->List It
 |0,_=>[]
 |g+1,n=>
  if n.kind=11 then cK 91::cK 93::ag g (aW n 0)
  else if n.kind=12 then f8 ⟨#[102,117,110,99]⟩::eg (ag g) n
  else if n.kind=14 then l7 (ag g) n
  else iq n.text::nh (ag g) n.kids
structure tZ where
 typ:Nd->List It
 expr:Nd->Nat->Bool->List It
 block:Nd->Nat->List It
 stmt:Nd->Nat->Bool->List It
def b8(x:ByteArray):Nat:=if x=(⟨#[124,124]⟩:BA)then 1 else if x=(⟨#[38,38]⟩:BA)then 2 else if x=(⟨#[43]⟩:BA)\/x=(⟨#[45]⟩:BA)then 4 else if x=(⟨#[42]⟩:BA)\/x=(⟨#[47]⟩:BA)\/x=(⟨#[37]⟩:BA)then 5 else 3
section
variable (F:tZ)
def aN(yes:Bool)(n:Nd)(deep:Nat)(head:Bool):List It:=if yes=true then cK 40::(F.expr n deep false++[cK 41])else F.expr n deep head
def dE(deep:Nat)(x:Nd):List It:=if x.kind=11\/x.kind=12 then F.typ x else F.expr x deep false
def du(n:Nd)(deep:Nat):List It:=cr ch ((n.kids.drop 1).map (dE F deep))
def eT(n x:Nd):Bool:=decide (x.kind=20)||(decide (x.kind=19)&&(decide (n.text=(⟨#[45]⟩:BA))&&decide (x.text=(⟨#[45]⟩:BA))))
def eU(n x:Nd):Bool:=decide (x.kind=20)&&decide (b8 x.text<b8 n.text)
def eG(n x:Nd):Bool:=decide (x.kind=20)&&decide (b8 x.text<=b8 n.text)
def da(x:Nd):Bool:=decide (x.kind=19)||decide (x.kind=20)
def oy(n:Nd)(deep:Nat):List It:=F.typ (aW n 0)++(cK 123::(du F n deep++[cK 125]))
def mQ(n:Nd)(deep:Nat)(head:Bool):List It:=
 if n.kind=16 then[.tok 4 (bytes n.text)]
 else if n.kind=17 then[.tok 5 (dC (bytes n.text))]
 else if n.kind=18 then[iq n.text]
 else if n.kind=19 then ow n.text::aN F (eT n (aW n 0)) (aW n 0) deep head
 else if n.kind=20 then aN F (eU n (aW n 0)) (aW n 0) deep head++(aY::ow n.text::aY::aN F (eG n (aW n 1)) (aW n 1) deep head)
 else if n.kind=21 then aN F (da (aW n 0)) (aW n 0) deep head++(cK 40::(du F n deep++[cK 41]))
 else if n.kind=22 then aN F (da (aW n 0)) (aW n 0) deep head++(cK 91::(du F n deep++[cK 93]))
 else if n.kind=23 then aN F (da (aW n 0)) (aW n 0) deep head++[cK 46,iq n.text]
 else if n.kind=24 then if head=true/\(aW n 0).kind=10 then cK 40::(oy F n deep++[cK 41])else oy F n deep
 else f8 ⟨#[102,117,110,99]⟩::(eg F.typ (aW n 0)++(aY::F.block (aW n 1) deep))
def oT(n:Nd)(deep:Nat):List It:=cK 123::.gap 10::(n.kids.flatMap (fun x=>mP (deep+1)++(F.stmt x (deep+1) false++[.nl]))++(mP deep++[cK 125]))
def pl(n:Nd)(deep:Nat):List It:=
 f8 ⟨#[118,97,114]⟩::aY::iq n.text::((if(aW n 0).kind=0 then[]else aY::F.typ (aW n 0))++(if(aW n 1).kind=0 then[]else aY::cK 61::aY::F.expr (aW n 1) deep false))
def fR(x:ByteArray):List It:=
 if x=(⟨#[]⟩:BA)then[]else
 (if(fx x).2.2=true then[.tok 1 (fx x).1,cK 44,aY,.tok 1 (fx x).2.1]else[.tok 1 (fx x).1])++[aY,ow ⟨#[58,61]⟩,aY]
def eH(n:Nd)(deep:Nat)(head:Bool):List It:=
 if n.kind=26 then iq n.text::aY::ow ⟨#[58,61]⟩::aY::F.expr (aW n 0) deep head
 else if n.kind=27 then F.expr (aW n 0) deep head++(aY::cK 61::aY::F.expr (aW n 1) deep head)
 else if n.kind=28 then F.expr (aW n 0) deep head++[ow n.text]
 else F.expr (aW n 0) deep head
def sr(n:Nd)(deep:Nat):List It:=
 if(aW n 0).kind≠0\/(aW n 2).kind≠0 then
  (if(aW n 0).kind≠0 then eH F (aW n 0) deep true else[])++(cK 59::aY::((if(aW n 1).kind≠0 then F.expr (aW n 1) deep true else[])++(cK 59::aY::(if(aW n 2).kind≠0 then eH F (aW n 2) deep true++[aY]else[]))))
 else if(aW n 1).kind≠0 then F.expr (aW n 1) deep true++[aY]else[]
def cv(n:Nd)(deep:Nat)(head:Bool):List It:=
 if n.kind=5 then pl F n deep
 else if n.kind=26 then iq n.text::aY::ow ⟨#[58,61]⟩::aY::F.expr (aW n 0) deep head
 else if n.kind=27 then F.expr (aW n 0) deep head++(aY::cK 61::aY::F.expr (aW n 1) deep head)
 else if n.kind=28 then F.expr (aW n 0) deep head++[ow n.text]
 else if n.kind=29 then F.expr (aW n 0) deep head
 else if n.kind=30 then f8 ⟨#[105,102]⟩::aY::(F.expr (aW n 0) deep true++(aY::(F.block (aW n 1) deep++(if(aW n 2).kind=0 then[]else aY::f8 ⟨#[101,108,115,101]⟩::aY::F.stmt (aW n 2) deep false))))
 else if n.kind=31 then f8 ⟨#[102,111,114]⟩::aY::(sr F n deep++F.block (aW n 3) deep)
 else if n.kind=32 then f8 ⟨#[102,111,114]⟩::aY::(fR n.text++(f8 ⟨#[114,97,110,103,101]⟩::aY::(F.expr (aW n 0) deep true++(aY::F.block (aW n 1) deep))))
 else if n.kind=33 then f8 ⟨#[114,101,116,117,114,110]⟩::(if(aW n 0).kind=0 then[]else aY::F.expr (aW n 0) deep false)
 else if n.kind=34 then[f8 ⟨#[98,114,101,97,107]⟩]
 else if n.kind=35 then[f8 ⟨#[99,111,110,116,105,110,117,101]⟩]
 else oT F n deep
def fJ(n:Nd):List It:=if n.kind=14 then l7 F.typ n else F.typ n
def dP(p:Nd):List It:=iq p.text::aY::fJ F (aW p 0)
def fq(n:Nd):List It:=nh (dP F) n.kids
def cM(f:Nd):List It:=.gap 9::iq f.text::aY::(F.typ (aW f 0)++[.nl])
def oU(n:Nd):List It:=f8 ⟨#[115,116,114,117,99,116]⟩::aY::cK 123::.gap 10::(n.kids.flatMap (cM F)++[cK 125])
def eN(n:Nd):List It:=
 if n.kind=2 then f8 ⟨#[102,117,110,99]⟩::aY::iq n.text::(fq F (aW n 0)++(eg F.typ (aW n 1)++(aY::F.block (aW n 2) 0)))
 else if n.kind=3 then f8 ⟨#[116,121,112,101]⟩::aY::iq n.text::(fq F (aW n 0)++(aY::(if(aW n 1).kind=13 then oU F (aW n 1)else fJ F (aW n 1))))
 else if n.kind=4 then f8 ⟨#[116,121,112,101]⟩::aY::iq n.text::(fq F (aW n 0)++(aY::cK 61::aY::F.typ (aW n 1)))
 else pl F n 0
def iB(n:Nd):List It:=f8 ⟨#[112,97,99,107,97,103,101]⟩::aY::iq n.text::.nl::n.kids.flatMap fun d=>.gap 10::(eN F d++[.nl])
end
theorem oz(F:tZ){n:Nd}(D:26<=n.kind/\n.kind<=29)(deep:Nat)(head:Bool):cv F n deep head=eH F n deep head:=by
 unfold cv eH;rw[gB (by omega)];split
 ·rfl
 ·split
  ·rfl
  ·split
   ·rfl
   ·rw[gG (by omega)]
def ac:Nat->tZ
 |0=>⟨fun _=>[],fun _ _ _=>[],fun _ _=>[],fun _ _ _=>[]⟩
 |g+1=>⟨ag (g+1),mQ (ac g),oT (ac g),cv (ac g)⟩
def rg(r:List UInt8):Nat:=
 if 3<=r.length/\contains (32::bytes pY++[32]) (32::r.take 3++[32])=true then 3
 else if 2<=r.length/\contains (32::bytes rq++[32]) (32::r.take 2++[32])=true then 2
 else if 1<=r.length/\contains (32::bytes sS++[32]) (32::r.take 1++[32])=true then 1
 else 0
theorem Ex(s:ByteArray)(i:Nat):bytes (s.extract i s.size)=(bytes s).drop i:=by rw[lO];exact gV (by rw[jH,dL];omega)
theorem Bn(s:ByteArray)(i:Nat):mT s i=rg ((bytes s).drop i):=by unfold mT rg;rw[rF,rF,rF,Ex,jH,dL]
section
variable {s s':ByteArray} {k:Nat}
variable {base:List ef} (hb:dU base=false)
include hb
end
theorem pm(s:ByteArray)(i:Nat):aI s i=((bytes s).getD i 0).toNat:=rfl
section
variable {s s':ByteArray} {k:Nat}
end
def dv:List ByteArray:=[(⟨#[43]⟩:BA),(⟨#[45]⟩:BA),(⟨#[42]⟩:BA),(⟨#[47]⟩:BA),(⟨#[37]⟩:BA),(⟨#[61,61]⟩:BA),(⟨#[33,61]⟩:BA),(⟨#[60]⟩:BA),(⟨#[60,61]⟩:BA),(⟨#[62]⟩:BA),(⟨#[62,61]⟩:BA),(⟨#[38,38]⟩:BA),(⟨#[124,124]⟩:BA)]
theorem ED{l sub:List UInt8}{i:Nat}(h:occAt l sub i=true):∃r,l.drop i=sub++r:=by unfold occAt at h;simp at h;exact⟨_,(List.prefix_iff_eq_append.1 h).symm⟩
theorem Bz{l sub:List UInt8}(h:Lib.contains l sub=true):∃i,i<=l.length/\occAt l sub i=true:=by
 unfold Lib.contains at h;rw[gR]at h;rcases index_spec l sub with⟨e,_⟩|⟨i,_,I,D,_⟩
 ·omega
 ·exact⟨i,I,D⟩
theorem yH(l:List UInt8)(c:UInt8):Lib.contains l [c]=l.contains c:=by unfold Lib.contains;rw[index_one,contains_iff_indexByte]
theorem mH{p:UInt8->Bool}:∀{l r:List UInt8}{c:UInt8},(∀x∈l,p x=true)->p c=false->(l++c::r).takeWhile p=l
 |[],r,c,_,D=>by simp[D]
 |x::l,r,c,h,D=>by have I:=h x (by simp);rw[jJ,qG,gG I,mH (fun y hy=>h y (by simp[hy])) D]
theorem EE:∀i,i<=60->(32::iw)[i]? = some 32->(dv.map (·.data.toList)).contains (((32::iw).drop (i+1)).takeWhile (fun c=>c != 32))=true\/((32::iw).drop (i+1)).takeWhile (fun c=>c != 32)=[]:=by decide +kernel
theorem rK(s:ByteArray):eC s=dv.any fun x=>decide (s=x):=by
 rw[kT];constructor
 ·intro h;unfold eC at h;rw[gA,gA,gR,qD]at h;obtain⟨h0,N,h2⟩:=h;rw[yH]at N;obtain⟨i,hi,ho⟩:=Bz h2;obtain⟨r,O⟩:=ED ho;(have M:(32::iw)[i]? = some 32:=by have:=jM (fun l=>l[0]?) O;simpa using this);(have hd:(32::iw).drop (i+1)=s.data.toList++32::r:=by have:=jM (fun l=>l.drop 1) O;simpa[List.drop_drop,Nat.add_comm]using this);(have J:∀x∈s.data.toList,(x != 32)=true:=by intro x D;rw[vc];rintro rfl;rw[List.contains_eq_mem,gK]at N;exact N D);(have U:(32::iw).length<=60:=by decide +kernel);rcases EE i (by omega) M with I|I
  ·rw[hd,mH J (by decide),List.contains_eq_mem,gR,List.mem_map]at I;obtain⟨x,D,e⟩:=I;rw[qK];refine⟨x,D,?_⟩;rw[gR];apply qI;exact Array.toList_inj.1 e.symm
  ·rw[hd,mH J (by decide)]at I;exact absurd (by apply qI;exact Array.toList_inj.1 I) h0
 ·intro h;rw[qK]at h;obtain⟨x,D,e⟩:=h;rw[gR]at e;subst e;(have:∀x∈dv,eC x=true:=by decide +kernel);exact this s D
theorem BI(s:List UInt8)(h:(cut s [44]).2.2=true):s=(cut s [44]).1++44::(cut s [44]).2.1:=by
 unfold cut at h |-;split
 ·rename_i D;rw[index_one]at D |-;obtain⟨o,I⟩:=Int.eq_ofNat_of_zero_le D;have M:=(indexByte_some I).1;rw[I];show s=s.take o++44::s.drop (o+1);obtain⟨N,J⟩:=List.getElem?_eq_some_iff.1 M;rw[<-J,List.getElem_cons_drop,qN]
 ·rename_i D;rw[gB D]at h;cases h
theorem EL(s:List UInt8)(h:(cut s [44]).2.2=false):(cut s [44]).1=s:=by
 unfold cut at h |-;split
 ·rename_i D;rw[gG D]at h;cases h
 ·rfl
def sz:List It->Nat
 |[]=>0
 |a::l=>(TE a).length+sz l
theorem NC:∀l,(fl l).length=sz l
 |[]=>rfl
 |a::l=>by rw[dg,gM,NC l,sz]
theorem dR:∀l m,sz (l++m)=sz l+sz m
 |[],m=>by simp[sz]
 |a::l,m=>by simp[sz,dR l m,Nat.add_assoc]
theorem it:sz []=0:=rfl
theorem mM(b l):sz (cK b::l)=1+sz l:=rfl
theorem lZ(l):sz (aY::l)=1+sz l:=rfl
theorem wZ(b l):sz (.gap b::l)=1+sz l:=rfl
theorem Gk(l):sz (.nl::l)=1+sz l:=rfl
theorem pB(x l):sz (iq x::l)=x.size+sz l:=rfl
theorem ND(x l):sz (ow x::l)=x.size+sz l:=rfl
theorem oP(x l):sz (f8 x::l)=x.size+sz l:=rfl
mutual
def nr:Nd->Nat
 | .mk _ t l _=>ur l+(4*t.size+10000)
def ur:List Nd->Nat
 |[]=>0
 |n::l=>nr n+ur l
end
theorem eO(n:Nd):nr n=ur n.kids+(4*n.text.size+10000):=by obtain⟨k,t,l,a⟩:=n;rw[nr];rfl
theorem ya(s:List It)(f:Nd->List It):∀l:List Nd,(∀x∈l,sz (f x)+sz s<=nr x)->sz (cr s (l.map f))<=ur l
 |[],_=>by simp[cr,sz]
 |[x],h=>by have:=h x (by simp);show sz (f x)<=_;rw[ur];omega
 |x::y::l,h=>by have:=h x (by simp);have ih:=ya s f (y::l) fun z hz=>h z (qn _ hz);show sz (f x++(s++cr s ((y::l).map f)))<=_;rw[dR,dR,ur];omega
theorem ut(f:Nd->List It):∀l:List Nd,(∀x∈l,sz (f x)<=nr x)->sz (l.flatMap f)<=ur l
 |[],_=>by simp[sz]
 |x::l,h=>by have:=h x (by simp);have ih:=ut f l fun z hz=>h z (qn _ hz);rw[jE,dR,ur];omega
theorem uu(n:Nd)(f0 f1 f2 f3:Nd->Nat)(D:f0 cc<=1100/\f1 cc<=1100/\f2 cc<=1100/\f3 cc<=1100)(h:∀x,f0 x<=nr x/\f1 x<=nr x/\f2 x<=nr x/\f3 x<=nr x):
  f0 (aW n 0)+f1 (aW n 1)+f2 (aW n 2)+f3 (aW n 3)<=ur n.kids+4400:=by
 unfold aW;rcases n.kids with _|⟨a,_|⟨b,_|⟨c,_|⟨d,l⟩⟩⟩⟩
 ·show f0 cc+f1 cc+f2 cc+f3 cc<=_;omega
 ·have:=h a;show f0 a+f1 cc+f2 cc+f3 cc<=_;simp only[ur];omega
 ·have:=h a;have:=h b;show f0 a+f1 b+f2 cc+f3 cc<=_;simp only[ur];omega
 ·have:=h a;have:=h b;have:=h c;show f0 a+f1 b+f2 c+f3 cc<=_;simp only[ur];omega
 ·have:=h a;have:=h b;have:=h c;have:=h d;show f0 a+f1 b+f2 c+f3 d<=_;simp only[ur];omega
theorem NE(n:Nd)(f:Nd->Nat)(D:f cc<=1100)(h:∀x,f x<=nr x):f (aW n 0)+ur (n.kids.drop 1)<=ur n.kids+1100:=by
 unfold aW;cases n.kids with
 |nil=>exact jZ (Nat.add_le_add_right D _) (by simp[ur])
 |cons a l=>have:=h a;show f a+ur l<=_;rw[ur];omega
theorem oJ(n:Nd)(f g:Nd->Nat)(I:f cc<=1100)(D:g cc<=1100)(h:∀x,f x<=nr x)(h':∀x,g x<=nr x):f (aW n 0)+g (aW n 1)<=ur n.kids+4400:=by have:=uu n f g (fun _=>0) (fun _=>0) ⟨I,D,by omega,by omega⟩ fun x=>⟨h x,h' x,gQ _,gQ _⟩;omega
theorem BU(n:Nd)(f:Nd->Nat)(D:f cc<=1100)(h:∀x,f x<=nr x):f (aW n 0)<=ur n.kids+4400:=by have:=oJ n f (fun _=>0) D (gQ _) h fun _=>gQ _;omega
theorem BV:∀n,sz (mP n)=n
 |0=>rfl
 |n+1=>by have:=BV n;show 1+sz (mP n)=_;omega
theorem Rd(x:ByteArray):sz (dD x)<=x.size+1:=by
 unfold dD;split
 ·exact gQ _
 ·exact gC _
theorem NF(x:ByteArray):(dC (bytes x)).length<=4*x.size+2:=by
 have:∀l:List UInt8,(l.flatMap cu).length<=4*l.length:=by
  intro l;induction l with
  |nil=>exact gC _
  |cons b l ih=>(have:(cu b).length<=4:=by unfold cu;(repeat' split);all_goals simp);rw[jE,gM,gO];omega
 have:=this (bytes x);rw[dL]at this;unfold dC;show(_++[34]).length+1<=_;rw[gM];show _+1+1<=_;omega
theorem NG(x:ByteArray):sz (fR x)<=x.size+6:=by
 unfold fR;split
 ·exact gQ _
 ·split
  ·rename_i h;have:=jM List.length (BI x.data.toList h);rw[gM,gO,dL x]at this;show(fx x).1.length+(1+(1+((fx x).2.1.length+4)))<=_;unfold fx;omega
  ·rename_i h;have:=EL x.data.toList (by simpa[fx]using h);show(fx x).1.length+4<=_;unfold fx;rw[this];show x.size+4<=_;omega
def TG(f:Nd->List It):Prop:=sz (f cc)=0/\∀n,sz (f n)+100<=nr n
theorem TG.le{f:Nd->List It}(h:TG f)(n:Nd):sz (f (aW n 0))<=ur n.kids+4400:=BU _ (fun x=>sz (f x)) (by rw[h.1];omega) fun x=>by have:=h.2 x;omega
theorem yb{f:Nd->List It}(h:TG f)(n:Nd):sz (eg f n)+5000<=nr n:=by(have D:∀x:Nd,sz (cr ch (x.kids.map fun p=>dD p.text++f (aW p 0)))<=nr x:=fun x=>by(have:=ya ch (fun p=>dD p.text++f (aW p 0)) x.kids fun p _=>by have:=h.le p;have:=Rd p.text;have:=eO p;rw[dR];show _+2<=_;omega);have:=eO x;omega);(have:=oJ n (fun x=>sz (cr ch (x.kids.map fun p=>dD p.text++f (aW p 0)))) (fun x=>sz (f x)) (gQ _) (by rw[h.1];omega) D fun x=>by have:=h.2 x;omega);have:=eO n;unfold eg;split<;>simp only[it,dR,mM,lZ]<;>omega
theorem DA{f:Nd->List It}(h:TG f)(n:Nd):sz (l7 f n)+5000<=nr n:=by(have:=ya [aY,cK 124,aY] (fun t=>ig t.text++f (aW t 0)) n.kids fun p _=>by have:=h.le p;have:=eO p;(have:sz (ig p.text)<=1:=by unfold ig;split<;>simp[sz,TE,cK]);rw[dR];show _+3<=_;omega);have:=eO n;unfold l7;simp only[it,dR,mM,lZ,oP,show((⟨#[105,110,116,101,114,102,97,99,101]⟩:BA).size=9)from rfl];omega
theorem NH{f:Nd->List It}(h:∀n,sz (f n)+100<=nr n)(l:List Nd):sz (nh f l)<=ur l+2:=by
 (have:=ya ch f l fun p _=>by have:=h p;show _+2<=_;omega);unfold nh;split
 ·exact gQ _
 ·simp only[it,dR,mM];omega
theorem NI:∀d,TG (ag d)
 |0=>⟨rfl,fun n=>by have:=eO n;show 0+100<=_;omega⟩
 |d+1=>by have ih:=NI d;refine⟨rfl,fun n=>?_⟩;have:=eO n;have:=ih.le n;have:=yb ih n;have:=DA ih n;have:=NH ih.2 n.kids;unfold ag;(repeat' split);all_goals(try simp only[mM,pB,oP,show((⟨#[102,117,110,99]⟩:BA).size=4)from rfl]);omega
end
section
def sY(x:ByteArray):Nat:=(bytes x).count 32
theorem dp(x y:ByteArray):sY (x++y)=sY x+sY y:=by unfold sY;rw[aV,List.count_append]
theorem nM{t:ef}(h:NB t)(D:t.kind≠5):sY t.text=0:=List.count_eq_zero.2 (h.resolve_left D)
theorem TP{c:Cx}(h:∀t∈c.toks,NB t):∀s x s',bS c s=some (x,s')->s'.at_<=c.toks.length:=by
 intro s x s' J;unfold bS at J;simp only at J;split at J
 ·rename_i he;injection J with J;injection J with _ J;subst J;exact PD he
 ·split at J
  ·rename_i a b d r hl;(have M:(c.toks.drop s.at_).length=r.length+3:=by rw[hl];simp);rw[jH]at M;split at J
   ·injection J with J;injection J with _ J;subst J;show s.at_+3<=_;omega
   ·split at J
    ·rename_i h3;injection J with J;injection J with _ J;subst J;show s.at_+5<=_;obtain⟨ha,hd,-,I⟩:=h3;have O:∀t,t∈a::b::d::r->NB t:=fun t ht=>h t (qA (i:=s.at_) (by rw[hl];exact ht));have ba:=nM (O a (by simp)) (by omega);have bd:=nM (O d (by simp)) (by omega);(have D:sY (a.text++(⟨#[32,44,32]⟩:BA)++d.text++(⟨#[32,58,61,32,114,97,110,103,101]⟩:BA))=4:=by rw[dp,dp,dp,ba,bd];decide);(have N:4<=(a.text++(⟨#[32,44,32]⟩:BA)++d.text++(⟨#[32,58,61,32,114,97,110,103,101]⟩:BA)).size:=by rw[<-dL,<-D];exact List.count_le_length);rw[hl]at I
     match r,M,I,O with
     |[],_,I,O=>
      exfalso;unfold dl at I;split at I
      ·rw[<-I]at N;have:(0:Nat)>=4:=N;omega
      ·rename_i h5;(have U:b.kind≠5:=by intro hb;apply h5;simp[hb]);have bb:=nM (O b (by simp)) U;rw[<-I]at D;simp only[List.take_succ_cons,List.take_nil,vd,List.foldl_nil]at D;rw[dp,dp,dp,dp,ba,bb,bd]at D;revert D;decide
     |[e],_,I,O=>
      exfalso;unfold dl at I;split at I
      ·rw[<-I]at N;have:(0:Nat)>=4:=N;omega
      ·rename_i h5;(have U:b.kind≠5:=by intro hb;apply h5;simp[hb]);(have ga:e.kind≠5:=by intro hb;apply h5;simp[hb]);have bb:=nM (O b (by simp)) U;have be:=nM (O e (by simp)) ga;rw[<-I]at D;simp only[List.take_succ_cons,List.take_nil,vd,List.foldl_nil]at D;rw[dp,dp,dp,dp,dp,dp,ba,bb,bd,be]at D;revert D;decide
     |_::_::_,M,_,_=>simp only[gO]at M;omega
    ·cases J
  ·cases J
theorem uv(d:Nat):TG (ac d).typ:=by have h:=NI d;cases d<;>exact h
theorem NJ(d deep:Nat):sz ((ac d).block cc deep)<=deep+3:=by
 cases d with
 |zero=>exact gQ _
 |succ d=>show sz (cK 123::.gap 10::([]++(mP deep++[cK 125])))<=_;simp only[it,dR,mM,wZ,BV];omega
theorem Tb(d deep:Nat)(head:Bool):sz ((ac d).expr cc deep head)<=deep+10:=by
 have:=NJ (d-1) deep;cases d with
 |zero=>exact gQ _
 |succ d=>show sz (f8 ⟨#[102,117,110,99]⟩::((cK 40::([]++(cK 41::[])))++(aY::(ac d).block cc deep)))<=_;simp only[it,dR,mM,lZ,oP,show((⟨#[102,117,110,99]⟩:BA).size=4)from rfl];rw[Nat.add_sub_cancel]at this;omega
theorem Ub(d deep:Nat)(head:Bool):sz ((ac d).stmt cc deep head)<=deep+3:=by
 cases d with
 |zero=>exact gQ _
 |succ d=>exact NJ (d+1) deep
theorem NK{p:Prop}[Decidable p]{l m:List It}{c k:Nat}(I:sz l+c<=k)(D:sz m+c<=k):sz (if p then l else m)+c<=k:=by split<;>assumption
def Ue(d:Nat):Prop:=∀deep,deep+d<=1000->(∀n head,sz ((ac d).expr n deep head)+100<=nr n)/\(∀n,sz ((ac d).block n deep)+100<=nr n)/\∀n head,sz ((ac d).stmt n deep head)+1100<=nr n
theorem NL{d deep:Nat}(hd:deep+d<=1000)(hE:∀n head,sz ((ac d).expr n deep head)+100<=nr n)(yes head:Bool):sz (aN (ac d) yes cc deep head)<=1100/\∀x,sz (aN (ac d) yes x deep head)<=nr x:=by
 have h:∀x c,(∀head,sz ((ac d).expr x deep head)+2<=c)->sz (aN (ac d) yes x deep head)<=c:=by
  intro x c h;have:=h false;have:=h head;unfold aN;split
  ·simp only[it,dR,mM];omega
  ·omega
 exact⟨h _ _ fun head=>by have:=Tb d deep head;omega,fun x=>h _ _ fun head=>by have:=hE x head;omega⟩
theorem Tc{d deep:Nat}(hd:deep+d<=1000)(hE:∀n head,sz ((ac d).expr n deep head)+100<=nr n)(hB:∀n,sz ((ac d).block n deep)+100<=nr n)(n:Nd)(head:Bool):sz (mQ (ac d) n deep head)+100<=nr n:=by
 have I:=uv d;have hw:=eO n;have D:=NL hd hE;have b0:=NJ d deep;have h:=NF n.text;have U:=BU n (fun x=>sz (aN (ac d) (eT n (aW n 0)) x deep head)) (D _ _).1 (D _ _).2;have O:=oJ n (fun x=>sz (aN (ac d) (eU n (aW n 0)) x deep head)) (fun x=>sz (aN (ac d) (eG n (aW n 1)) x deep head)) (D _ _).1 (D _ _).1 (D _ _).2 (D _ _).2;have N:=NE n (fun x=>sz (aN (ac d) (da (aW n 0)) x deep head)) (D _ _).1 (D _ _).2;(have M:=NE n (fun x=>sz ((ac d).typ x)) (by rw[I.1];omega) fun x=>by have:=I.2 x;omega);(have J:=oJ n (fun x=>sz (eg (ac d).typ x)) (fun x=>sz ((ac d).block x deep)) (by have:=yb I cc;rw[show nr cc=10000 from rfl]at this;show 2<=_;omega) (by omega) (fun x=>by have:=yb I x;omega) fun x=>by have:=hB x;omega);have ho:=ya ch (dE (ac d) deep) (n.kids.drop 1) fun x _=>by
  have:=I.2 x;have:=hE x false;unfold dE;split
  ·show _+2<=_;omega
  ·show _+2<=_;omega
 unfold mQ oy du;(repeat' refine NK ?_ ?_);all_goals(try simp only[it,dR,mM,lZ,pB,ND,oP,show((⟨#[102,117,110,99]⟩:BA).size=4)from rfl]);(try simp only[sz,TE,dL]);omega
theorem NM{d deep:Nat}(hE:∀n head,sz ((ac d).expr n deep head)+100<=nr n)(D:∀head,sz ((ac d).expr cc deep head)<=1100)(n:Nd)(head:Bool):sz (eH (ac d) n deep head)+1100<=nr n:=by have I:=eO n;(have h:=oJ n (fun x=>sz ((ac d).expr x deep head)) (fun x=>sz ((ac d).expr x deep head)) (D _) (D _) (fun x=>by have:=hE x head;omega) fun x=>by have:=hE x head;omega);unfold eH;(repeat' split);all_goals(try simp only[it,dR,mM,lZ,pB,ND,show((⟨#[58,61]⟩:BA).size=2)from rfl]);omega
theorem NN{d deep:Nat}(hd:deep+d+1<=1000)(D:∀n head,sz ((ac d).stmt n (deep+1) head)+1100<=nr n)(n:Nd):sz (oT (ac d) n deep)+1100<=nr n:=by have I:=eO n;(have h:=ut (fun x=>mP (deep+1)++((ac d).stmt x (deep+1) false++[.nl])) n.kids fun x _=>by have:=D x false;simp only[it,dR,BV,Gk];omega);unfold oT;simp only[it,dR,mM,wZ,BV];omega
theorem NO{d deep:Nat}(hE:∀n head,sz ((ac d).expr n deep head)+100<=nr n)(I:∀head,sz ((ac d).expr cc deep head)<=1100)(n:Nd):sz (pl (ac d) n deep)+1100<=nr n:=by have D:=uv d;have J:=eO n;(have h:=oJ n (fun x=>sz ((ac d).typ x)) (fun x=>sz ((ac d).expr x deep false)) (by rw[D.1];omega) (I _) (fun x=>by have:=D.2 x;omega) fun x=>by have:=hE x false;omega);unfold pl;(repeat' split);all_goals simp only[it,dR,mM,lZ,pB,oP,show((⟨#[118,97,114]⟩:BA).size=3)from rfl];omega
theorem Td{d deep:Nat}(hd:deep+d+1<=1000)(H:Ue d)(n:Nd)(head:Bool):sz (cv (ac d) n deep head)+1100<=nr n:=by
 obtain⟨hE,hB,N⟩:=H deep (by omega);(have D:∀head,sz ((ac d).expr cc deep head)<=1100:=fun head=>by have:=Tb d deep head;omega);have b0:=NJ d deep;have s0:=Ub d deep false;have hw:=eO n;have h5:=NO hE D n;have I:=NM hE D n head;have h3:=uu n (fun x=>sz ((ac d).expr x deep true)) (fun x=>sz ((ac d).block x deep)) (fun x=>sz ((ac d).stmt x deep false)) (fun _=>0) ⟨D _,by omega,by omega,by omega⟩ fun x=>⟨by have:=hE x true;omega,by have:=hB x;omega,by have:=N x false;omega,gQ _⟩;have hs:=NM hE D;have J:sz (eH (ac d) cc deep true)<=1100:=D true;have ga:=uu n (fun x=>sz (eH (ac d) x deep true)) (fun x=>sz ((ac d).expr x deep true)) (fun x=>sz (eH (ac d) x deep true)) (fun x=>sz ((ac d).block x deep)) ⟨J,D _,J,by omega⟩ fun x=>⟨by have:=hs x true;omega,by have:=hE x true;omega,by have:=hs x true;omega,by have:=hB x;omega⟩;(have U:=BU n (fun x=>sz ((ac d).expr x deep false)) (D _) fun x=>by have:=hE x false;omega);have h:=NG n.text;have O:=NN hd (H (deep+1) (by omega)).2.2 n;unfold eH at I;(have hf:sz (sr (ac d) n deep)<=sz (eH (ac d) (aW n 0) deep true)+sz ((ac d).expr (aW n 1) deep true)+sz (eH (ac d) (aW n 2) deep true)+5:=by unfold sr;(repeat' split);all_goals simp only[it,dR,mM,lZ];omega);have gb:sz (if(aW n 2).kind=0 then[]else aY::f8 ⟨#[101,108,115,101]⟩::aY::(ac d).stmt (aW n 2) deep false)<=sz ((ac d).stmt (aW n 2) deep false)+6:=by
  split
  ·exact gQ _
  ·simp only[lZ,oP,show((⟨#[101,108,115,101]⟩:BA).size=4)from rfl];omega
 have M:sz (if(aW n 0).kind=0 then[]else aY::(ac d).expr (aW n 0) deep false)<=sz ((ac d).expr (aW n 0) deep false)+1:=by
  split
  ·exact gQ _
  ·simp only[lZ];omega
 (have gd:=oJ n (fun x=>sz ((ac d).expr x deep head)) (fun x=>sz ((ac d).expr x deep head)) (D _) (D _) (fun x=>by have:=hE x head;omega) fun x=>by have:=hE x head;omega);unfold cv;(repeat' refine NK ?_ ?_);all_goals
  first
  |omega
  |(simp only[it,dR,mM,lZ,pB,ND,oP,show((⟨#[105,102]⟩:BA).size=2)from rfl,show((⟨#[102,111,114]⟩:BA).size=3)from rfl,show((⟨#[114,97,110,103,101]⟩:BA).size=5)from rfl,show((⟨#[114,101,116,117,114,110]⟩:BA).size=6)from rfl,show((⟨#[98,114,101,97,107]⟩:BA).size=5)from rfl,show((⟨#[99,111,110,116,105,110,117,101]⟩:BA).size=8)from rfl,show((⟨#[58,61]⟩:BA).size=2)from rfl];omega)
theorem BW:∀d,Ue d
 |0=>fun deep _=>⟨fun n _=>by have:=eO n;show 0+100<=_;omega,fun n=>by have:=eO n;show 0+100<=_;omega,fun n _=>by have:=eO n;show 0+1100<=_;omega⟩
 |d+1=>fun deep hd=>by have H:=BW d;obtain⟨hE,hB,D⟩:=H deep (by omega);exact⟨fun n head=>Tc (by omega) hE hB n head,fun n=>by have:=NN (by omega) (H (deep+1) (by omega)).2.2 n;show sz (oT (ac d) n deep)+100<=_;omega,fun n head=>Td (by omega) H n head⟩
theorem NP(d:Nat):sz (fJ (ac d) cc)=0/\∀n,sz (fJ (ac d) n)+100<=nr n:=by have D:=uv d;refine⟨D.1,fun n=>?_⟩;have:=D.2 n;have:=DA D n;unfold fJ;split<;>omega
theorem Te(d:Nat)(n:Nd):sz (fq (ac d) n)+100<=nr n:=by have I:=eO n;have h:=NH (f:=dP (ac d)) (fun p=>by have D:=NP d;(have:=BU p (fun x=>sz (fJ (ac d) x)) (by rw[D.1];omega) fun x=>by have:=D.2 x;omega);have:=eO p;unfold dP;simp only[lZ,pB];omega) n.kids;unfold fq;omega
theorem Tf{d:Nat}(hd:d<=1000)(n:Nd):sz (eN (ac d) n)+100<=nr n:=by
 have D:=uv d;have M:=NP d;obtain⟨hE,hB,-⟩:=BW d 0 (by omega);(have N:∀head,sz ((ac d).expr cc 0 head)<=1100:=fun head=>by have:=Tb d 0 head;omega);have O:=eO n;have J:=Te d;have I:sz (fq (ac d) cc)<=1100:=gQ _;have h2:=uu n (fun x=>sz (fq (ac d) x)) (fun x=>sz (eg (ac d).typ x)) (fun x=>sz ((ac d).block x 0)) (fun _=>0) ⟨I,by have:=yb D cc;rw[show nr cc=10000 from rfl]at this;show 2<=_;omega,by have:=NJ d 0;omega,by omega⟩ fun x=>⟨by have:=J x;omega,by have:=yb D x;omega,by have:=hB x;omega,gQ _⟩;(have hs:∀x,sz (oU (ac d) x)+100<=nr x:=fun x=>by have:=eO x;(have:=ut (cM (ac d)) x.kids fun f _=>by have:=D.le f;have:=eO f;unfold cM;simp only[it,dR,wZ,lZ,pB,Gk];omega);unfold oU;simp only[it,dR,wZ,lZ,mM,oP,show((⟨#[115,116,114,117,99,116]⟩:BA).size=6)from rfl];omega);(have h3:=oJ n (fun x=>sz (fq (ac d) x)) (fun x=>sz (if x.kind=13 then oU (ac d) x else fJ (ac d) x)) I (by show sz (fJ (ac d) cc)<=_;rw[M.1];omega) (fun x=>by have:=J x;omega) fun x=>by have:=hs x;have:=M.2 x;split<;>omega);(have h:=oJ n (fun x=>sz (fq (ac d) x)) (fun x=>sz ((ac d).typ x)) I (by rw[D.1];omega) (fun x=>by have:=J x;omega) fun x=>by have:=D.2 x;omega);have U:=NO hE N n;unfold eN;split
 ·simp only[dR,lZ,pB,oP,show((⟨#[102,117,110,99]⟩:BA).size=4)from rfl];omega
 ·split
  ·simp only[dR,lZ,pB,oP,show((⟨#[116,121,112,101]⟩:BA).size=4)from rfl];omega
  ·split
   ·simp only[dR,lZ,pB,oP,mM,show((⟨#[116,121,112,101]⟩:BA).size=4)from rfl];omega
   ·omega
theorem Tg{d:Nat}(hd:d<=1000)(n:Nd):(dx (fl (iB (ac d) n))).size<=nr n:=by have D:=eO n;(have:=ut (fun x=>.gap 10::(eN (ac d) x++[.nl])) n.kids fun x _=>by have:=Tf hd x;simp only[it,dR,wZ,Gk];omega);show(fl _).length<=_;rw[NC];unfold iB;simp only[lZ,pB,oP,Gk,show((⟨#[112,97,99,107,97,103,101]⟩:BA).size=7)from rfl];omega
end
end Go.Proofs.YteialcjaiocjdaaGreatDoor
