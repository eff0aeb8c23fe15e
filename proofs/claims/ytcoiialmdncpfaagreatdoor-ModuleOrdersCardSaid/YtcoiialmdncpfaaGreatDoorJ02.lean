/-
  Parts of the proof: Tspec Dplain Zord Pres. By an AI agent.
-/
import Derived.Test.YtcoiialmdncpfaaGreatDoorJ00
import Derived.Test.YtcoiialmdncpfaaGreatDoorJ01
import Derived.Lib.IndexMore
import Derived.OrdersHeld
import Derived.Deep.RegionHeld
namespace Go.Proofs.YtcoiialmdncpfaaGreatDoor
section
theorem gA:type_of% @Nat.le_refl:=@Nat.le_refl
theorem gI:type_of% @List.length_cons:=@List.length_cons
theorem gM:type_of% @Nat.le_trans:=@Nat.le_trans
theorem gR:type_of% @Bool.and_eq_true:=@Bool.and_eq_true
theorem gW:type_of% @ByteArray.size_extract:=@ByteArray.size_extract
theorem jC:type_of% @Nat.le_succ:=@Nat.le_succ
theorem jF:type_of% @List.getElem_mem:=@List.getElem_mem
theorem jG:type_of% @decide_eq_true_eq:=@decide_eq_true_eq
theorem jJ:type_of% @List.getD_eq_getElem?_getD:=@List.getD_eq_getElem?_getD
theorem jU:type_of% @List.take_of_length_le:=@List.take_of_length_le
theorem jV:type_of% @Nat.le_of_lt:=@Nat.le_of_lt
theorem kF:type_of% @Nat.add_zero:=@Nat.add_zero
theorem kI:type_of% @beq_iff_eq:=@beq_iff_eq
theorem kV:type_of% @List.cons_append:=@List.cons_append
theorem vm:type_of% @List.extract_eq_take_drop:=@List.extract_eq_take_drop
theorem vo:type_of% @List.getElem?_eq_none:=@List.getElem?_eq_none
theorem vu:type_of% @List.mem_cons_of_mem:=@List.mem_cons_of_mem
theorem vw:type_of% @Bool.false_and:=@Bool.false_and
theorem vA:type_of% @Nat.le_of_eq:=@Nat.le_of_eq
theorem vI:type_of% @Bool.or_eq_true:=@Bool.or_eq_true
theorem vK:type_of% @Array.toList_extract:=@Array.toList_extract
theorem vN:type_of% @List.drop_succ_cons:=@List.drop_succ_cons
theorem vV:type_of% @List.mem_cons_self:=@List.mem_cons_self
theorem vY:type_of% @Array.getElem?_toList:=@Array.getElem?_toList
theorem xl:type_of% @Option.map_some:=@Option.map_some
def tP(c:UInt8):Bool:=c==95||((decide (97<=c)&&decide (c<=122))||(decide (65<=c)&&decide (c<=90)))
def mW(c:UInt8):Bool:=decide (48<=c)&&decide (c<=57)
def G6:List ByteArray:=[(⟨#[98,114,101,97,107]⟩:BA),(⟨#[99,111,110,116,105,110,117,101]⟩:BA),(⟨#[101,108,115,101]⟩:BA),(⟨#[102,111,114]⟩:BA),(⟨#[102,117,110,99]⟩:BA),(⟨#[105,102]⟩:BA),(⟨#[105,109,112,111,114,116]⟩:BA),(⟨#[105,110,116,101,114,102,97,99,101]⟩:BA),(⟨#[112,97,99,107,97,103,101]⟩:BA),(⟨#[114,97,110,103,101]⟩:BA),(⟨#[114,101,116,117,114,110]⟩:BA),(⟨#[115,116,114,117,99,116]⟩:BA),(⟨#[116,121,112,101]⟩:BA),(⟨#[118,97,114]⟩:BA)]
def G7:List ByteArray:=[(⟨#[99,97,115,101]⟩:BA),(⟨#[99,104,97,110]⟩:BA),(⟨#[99,111,110,115,116]⟩:BA),(⟨#[100,101,102,97,117,108,116]⟩:BA),(⟨#[100,101,102,101,114]⟩:BA),(⟨#[102,97,108,108,116,104,114,111,117,103,104]⟩:BA),(⟨#[103,111]⟩:BA),(⟨#[103,111,116,111]⟩:BA),(⟨#[109,97,112]⟩:BA),(⟨#[115,101,108,101,99,116]⟩:BA),(⟨#[115,119,105,116,99,104]⟩:BA)]
def cr(s:ByteArray):Int:=if G6.any (fun x=>decide (s=x))then 1 else if G7.any (fun x=>decide (s=x))then 2 else 0
def lE:List UInt8->Bool
 |[]=>true
 |c::r=>tP c&&r.all fun c=>tP c||mW c
def oJ(s:ByteArray):Bool:=lE s.data.toList&&(decide (s≠(⟨#[]⟩:BA))&&decide (cr s=0))
def br(s:ByteArray):Bool:=decide (s.size<=100)&&oJ s
def fL(s:ByteArray):Bool:=br s&&decide (s≠(⟨#[95]⟩:BA))
def n4(s:ByteArray):Bool:=s.data.toList.all mW&&(decide (s=(⟨#[48]⟩:BA))||(decide (s≠(⟨#[]⟩:BA))&&(decide (s.size<=200)&&decide (s.data.toList.head? ≠ some 48))))
def aX(n:Nd):Bool:=decide (n.kind=0)&&(decide (n.text=(⟨#[]⟩:BA))&&decide (n.kids.length=0))
def dY:List (Nd->Bool)->List Nd->Bool
 |[],[]=>true
 |p::ps,n::ns=>p n&&dY ps ns
 |_,_=>false
def fi(k:Int)(l:List (Nd->Bool))(n:Nd):Bool:=decide (n.kind=k)&&(decide (n.text=(⟨#[]⟩:BA))&&dY l n.kids)
def aJ(so:ByteArray->Bool)(n:Nd):Nd:=if so n.text then .mk n.kind ⟨#[]⟩ n.kids n.pos else .mk 37 ⟨#[]⟩ [] 0
def n7(so:Nd->Bool)(n:Nd):Bool:=decide (n.kind=6)&&(decide (n.text=(⟨#[]⟩:BA))&&n.kids.all so)
def fD(a b:Nd->Bool)(n:Nd):Bool:=a n||b n
structure eZ where
 typ:Nd->Bool
 expr:Nd->Bool
 block:Nd->Bool
 stmt:Nd->Bool
 ifS:Nd->Bool
section
variable (F:eZ)
def sn(so:ByteArray->Bool)(p:Nd):Bool:=fi 8 [F.typ] (aJ so p)
def Fo(so:ByteArray->Bool)(n:Nd):Bool:=fi 12 [n7 (sn F so),fD aX F.typ] n
def mX(n:Nd):Bool:=Fo F br n
def sp(s:ByteArray):Bool:=decide (s=(⟨#[]⟩:BA))
def AG(n:Nd):Bool:=
 if n.kind=10 then br n.text&&n.kids.all F.typ
 else if n.kind=11 then fi 11 [F.typ] n
 else if n.kind=12 then Fo F sp n
 else false
def py(s:ByteArray):Bool:=decide (s=(⟨#[]⟩:BA))||decide (s=(⟨#[126]⟩:BA))
def ut(t:Nd):Bool:=fi 15 [F.typ] (aJ py t)
def ik(n:Nd):Bool:=decide (n.kind=14)&&(decide (n.text=(⟨#[]⟩:BA))&&(decide (0<n.kids.length)&&n.kids.all (ut F)))
def pz(f:Nd):Bool:=fi 9 [F.typ] (aJ br f)
def iC(n:Nd):Bool:=decide (n.kind=13)&&(decide (n.text=(⟨#[]⟩:BA))&&n.kids.all (pz F))
def ll(c:Nd):Bool:=decide (c.kind=10)&&F.typ c
def ri(p:Nd):Bool:=fi 7 [fD (ll F) (ik F)] (aJ br p)
def fM(n:Nd):Bool:=n7 (ri F) n
def BG(n:Nd):Bool:=fi 5 [fD aX F.typ,fD aX F.expr] (aJ br n)&&(!(aX (n.kids.getD 0 cj)) || !(aX (n.kids.getD 1 cj)))
def mE(n:Nd):Bool:=
 if n.kind=2 then fi 2 [fM F,mX F,F.block] (aJ br n)
 else if n.kind=3 then fi 3 [fM F,fD (fD F.typ (iC F)) (ik F)] (aJ br n)
 else if n.kind=4 then fi 4 [fM F,F.typ] (aJ br n)
 else BG F n
def rj:List UInt8:=((⟨#[43,32,45,32,42,32,47,32,37,32,61,61,32,33,61,32,60,32,60,61,32,62,32,62,61,32,38,38,32,124,124,32]⟩:BA).data.toList)
def mY(s:ByteArray):Bool:=decide (s≠(⟨#[]⟩:BA))&&(!(Lib.contains s.data.toList [32])&&Lib.contains (32::rj) (32::(s.data.toList++[32])))
def pA(s:ByteArray):Bool:=decide (s=(⟨#[45]⟩:BA))||decide (s=(⟨#[33]⟩:BA))
def lK(s:ByteArray):Bool:=decide (s.size<=1000)
def sQ(k:Nd):Bool:=F.expr k||(decide (k.kind≠10)&&F.typ k)
def i8(n:Nd):Bool:=
 if n.kind=16 then fi 16 [] (aJ n4 n)
 else if n.kind=17 then fi 17 [] (aJ lK n)
 else if n.kind=18 then fi 18 [] (aJ br n)
 else if n.kind=19 then fi 19 [F.expr] (aJ pA n)
 else if n.kind=20 then fi 20 [F.expr,F.expr] (aJ mY n)
 else if n.kind=21 then decide (n.text=(⟨#[]⟩:BA))&&(decide (0<n.kids.length)&&n.kids.all F.expr)
 else if n.kind=22 then decide (n.text=(⟨#[]⟩:BA))&&(decide (1<n.kids.length)&&(F.expr (n.kids.getD 0 cj)&&(n.kids.drop 1).all (sQ F)))
 else if n.kind=23 then fi 23 [F.expr] (aJ br n)
 else if n.kind=24 then decide (n.text=(⟨#[]⟩:BA))&&(decide (0<n.kids.length)&&(decide ((n.kids.getD 0 cj).kind≠12)&&(F.typ (n.kids.getD 0 cj)&&(n.kids.drop 1).all F.expr)))
 else fi 25 [mX F,F.block] n
def tJ(s:ByteArray):List UInt8×List UInt8×Bool:=Lib.cut s.data.toList [44]
def mZ(s:ByteArray):Bool:=
 decide (s=(⟨#[]⟩:BA))||(((tJ s).2.2&&(br ⟨(tJ s).1.toArray⟩&&fL ⟨(tJ s).2.1.toArray⟩))||(!(tJ s).2.2&&fL ⟨(tJ s).1.toArray⟩))
def uu(s:ByteArray):Bool:=decide (s=(⟨#[43,43]⟩:BA))||decide (s=(⟨#[45,45]⟩:BA))
def pB(n:Nd):Bool:=fi 28 [F.expr] (aJ uu n)
def pC(n:Nd):Bool:=fi 27 [F.expr,F.expr] n
def sR(x:Nd):Bool:=decide (x.kind=21)&&F.expr x
def pg(n:Nd):Bool:=fi 29 [sR F] n
def me(n:Nd):Bool:=fi 26 [F.expr] (aJ fL n)
def oa(n:Nd):Bool:=decide (n.kind=36)&&(decide (n.text=(⟨#[]⟩:BA))&&n.kids.all F.stmt)
def O2(n:Nd):Bool:=fi 30 [F.expr,F.block,fD (fD aX F.block) F.ifS] n
def iH(n:Nd):Bool:=
 if n.kind=5 then BG F n
 else if n.kind=26 then me F n
 else if n.kind=27 then pC F n
 else if n.kind=28 then pB F n
 else if n.kind=29 then pg F n
 else if n.kind=30 then O2 F n
 else if n.kind=31 then fi 31 [fD (fD aX (me F)) (fD (pC F) (pB F)),fD aX F.expr,fD (fD aX (pC F)) (fD (pB F) (pg F)),F.block] n
 else if n.kind=32 then fi 32 [F.expr,F.block] (aJ mZ n)
 else if n.kind=33 then fi 33 [fD aX F.expr] n
 else if n.kind=34\/n.kind=35 then fi n.kind [] n
 else oa F n
def uw(n:Nd):Bool:=decide (n.kind=1)&&(br n.text&&n.kids.all (mE F))
end
def o4:Nat->eZ
 |0=>⟨fun _=>false,fun _=>false,fun _=>false,fun _=>false,fun _=>false⟩
 |g+1=>⟨AG (o4 g),i8 (o4 g),oa (o4 g),iH (o4 g),O2 (o4 g)⟩
def ie:Nat->Nd->Prop
 |0,_=>False
 |g+1,n=>(n.kids.length<=1000000000/\n.text.size<=1000000000)/\∀k∈n.kids,ie g k
theorem ie.succ:∀{g:Nat}{n:Nd},ie g n->ie (g+1) n
 |0,_,h=>h.elim
 |_+1,_,h=>⟨h.1,fun k hk=>ie.succ (h.2 k hk)⟩
theorem ie.kid{g:Nat}{n k:Nd}(h:ie (g+1) n)(D:k∈n.kids):ie g k:=h.2 k D
theorem ie.len{g:Nat}{n:Nd}(h:ie g n):n.kids.length<=1000000000:=by
 cases g with
 |zero=>exact h.elim
 |succ g=>exact h.1.1
theorem ie.txt{g:Nat}{n:Nd}(h:ie g n):n.text.size<=1000000000:=by
 cases g with
 |zero=>exact h.elim
 |succ g=>exact h.1.2
theorem ie.named{g:Nat}{n:Nd}{so:ByteArray->Bool}(h:ie g n):ie g (aJ so n):=by
 cases g with
 |zero=>exact h.elim
 |succ g=>
  unfold aJ;split
  ·exact⟨⟨h.1.1,by simp[ByteArray.size]⟩,h.2⟩
  ·exact⟨⟨by simp,by simp[ByteArray.size]⟩,fun k hk=>by simp at hk⟩
def tQ:Nat->Nd->Prop
 |0,_=>True
 |g+1,n=>(n.kids.length<=1000000000/\n.text.size<=1000000000)/\∀k∈n.kids,tQ g k
def bi:Nat->Nd->List Nat
 |0,_=>[]
 |l+1,n=>(l+1)::n.kids.flatMap (bi l)
def ER(l:Nat)(n:Nd):Nat:=(bi l n).length
def mf(n:Nd):Nat:=(bi 101 n).foldl (fun d l=>max d (102-l)) 0
theorem ph(l:List Nat):∀d m,l.foldl (fun d l=>max d (102-l)) d<=m↔d<=m/\∀x∈l,102-x<=m:=by
 induction l with
 |nil=>intro d m;simp
 | cons x l ih=>
  intro d m;rw[List.foldl_cons,ih,Nat.max_le];constructor
  ·rintro⟨⟨I,D⟩,J⟩;refine⟨I,fun y hy=>?_⟩;rcases List.mem_cons.1 hy with rfl|hy
   ·exact D
   ·exact J y hy
  ·rintro⟨I,D⟩;exact⟨⟨I,D x vV⟩,fun y hy=>D y (vu _ hy)⟩
theorem yI:∀(g:Nat)(n:Nd),tQ g n->(∀x∈bi (g+1) n,2<=x)->ie g n
 |0,n,_,h=>by have:=h 1 (by simp[bi]);omega
 | g + 1,_,D,h=>⟨D.1,fun k I=>yI g k (D.2 k I) fun x J=>h x (by
     rw[bi];exact vu _ (List.mem_flatMap.2 ⟨k,I,J⟩))⟩
theorem m8{n:Nd}(D:tQ 100 n)(h:mf n<=100):ie 100 n:=by refine yI 100 n D fun x hx=>?_;have:=((ph _ _ _).1 h).2 x hx;omega
def cB(n:Nd):Bool:=decide (mf n<=100)&&(decide (ER 100 n<=65536)&&uw (o4 100) n)
def ai(s:ByteArray)(i:Nat):Nat:=(s.data.toList.getD i 0).toNat
theorem il(s:ByteArray)(i:Nat):ai s i<256:=UInt8.toNat_lt _
theorem uy(s:ByteArray)(j:Nat):(s.get! j).toNat=ai s j:=by obtain⟨bs⟩:=s;show(bs[j]!).toNat=(bs.toList.getD j 0).toNat;rw[Array.getElem!_eq_getD,jJ,Array.getD_eq_getD_getElem?,vY];rfl
def Dv(y0 y1 y2 y3:Nat)(c1 c2 c3:Prop)[Decidable c1][Decidable c2][Decidable c3]:Nat×Nat:=
 if y0<128 then(y0,1)
 else if y0/32=6/\c1/\y1/64=2 then(if 128<=y0%32*64+y1%64 then(y0%32*64+y1%64,2)else(65533,1))
 else if y0/16=14/\(c1/\y1/64=2)/\(c2/\y2/64=2)then(if 2048<=y0%16*4096+y1%64*64+y2%64/\Utf8.valid ((y0%16*4096+y1%64*64+y2%64:Nat):Int)=true then(y0%16*4096+y1%64*64+y2%64,3)else(65533,1))
 else if y0/8=30/\(c1/\y1/64=2)/\(c2/\y2/64=2)/\(c3/\y3/64=2)then(if 65536<=y0%8*262144+y1%64*4096+y2%64*64+y3%64/\Utf8.valid ((y0%8*262144+y1%64*4096+y2%64*64+y3%64:Nat):Int)=true then(y0%8*262144+y1%64*4096+y2%64*64+y3%64,4)else(65533,1))
 else(65533,1)
theorem im(s:ByteArray)(i:Nat):Utf8.decode s i=Dv (ai s i) (ai s (i+1)) (ai s (i+2)) (ai s (i+3)) (i+1<s.size) (i+2<s.size) (i+3<s.size):=by unfold Dv;simp only[Utf8.decode,uy,kF,gR,jG,kI,ge_iff_le,Utf8.runeError,and_assoc]
theorem io(s:ByteArray)(i:Nat)(h:ai s i<128):Utf8.decode s i=(ai s i,1):=by rw[im,Dv,gL h]
theorem eC(s:ByteArray)(i:Nat)(J:i<s.size)(h:128<=ai s i):
  128<=(Utf8.decode s i).1/\1<=(Utf8.decode s i).2/\i+(Utf8.decode s i).2<=s.size/\∀m,m<(Utf8.decode s i).2->128<=ai s (i+m):=by
 (have one:∀m,m<1->128<=ai s (i+m):=fun m D=>by(obtain rfl:m=0:=by omega);exact h);rw[im,Dv,gE (by omega)];split
 ·rename_i I;split
  ·refine⟨by omega,by omega,by simp only;omega,fun m D=>?_⟩;have D:m<2:=D;rcases(by omega:m=0\/m=1)with rfl|rfl
   ·exact h
   ·omega
  ·exact⟨by omega,by omega,by simp only;omega,one⟩
 ·split
  ·rename_i I;split
   ·refine⟨by omega,by omega,by simp only;omega,fun m D=>?_⟩;have D:m<3:=D;rcases(by omega:m=0\/m=1\/m=2)with rfl|rfl|rfl
    ·exact h
    ·omega
    ·omega
   ·exact⟨by omega,by omega,by simp only;omega,one⟩
  ·split
   ·rename_i I;split
    ·refine⟨by omega,by omega,by simp only;omega,fun m D=>?_⟩;have D:m<4:=D;rcases(by omega:m=0\/m=1\/m=2\/m=3)with rfl|rfl|rfl|rfl
     ·exact h
     ·omega
     ·omega
     ·omega
    ·exact⟨by omega,by omega,by simp only;omega,one⟩
   ·exact⟨by omega,by omega,by simp only;omega,one⟩
theorem eD(s:ByteArray)(i j:Nat):ai (s.extract i s.size) j=ai s (i+j):=by unfold ai;rw[ByteArray.data_extract,vK,vm,jU (by rw[jE];exact vA rfl),jJ,vT,<-jJ]
theorem BP(s:ByteArray)(i j:Nat):Utf8.decode (s.extract i s.size) j=Utf8.decode s (i+j):=by(have D:(s.extract i s.size).size=s.size-i:=by rw[gW];omega);rw[im,im,eD,eD,eD,eD,D];(have M:(j+1<s.size-i)=(i+j+1<s.size):=by rw[eq_iff_iff];omega);(have J:(j+2<s.size-i)=(i+j+2<s.size):=by rw[eq_iff_iff];omega);(have I:(j+3<s.size-i)=(i+j+3<s.size):=by rw[eq_iff_iff];omega);simp only[M,J,I,Nat.add_assoc]
def bz(en:Nat):List UInt8->Bool->Nat->Option Nat
 |[],_,_=>none
 |c::r,true,k=>if c.toNat=10 then none else bz en r false (k+1)
 |c::r,false,k=>
  if c.toNat=92/\en=34 then bz en r true (k+1)
  else if c.toNat=en then some k
  else if c.toNat=10/\en≠96 then none
  else bz en r false (k+1)
theorem oe(en:Nat)(I:en<128):∀(n:Nat)(l:List UInt8)(b:Bool)(k:Nat),n<=l.length->(∀m,m<n->128<=(l.getD m 0).toNat)->bz en l b k=bz en (l.drop n) (b&&n==0) (k+n)
 |0,l,b,k,_,_=>by simp
 |n+1,[],b,k,h,_=>by simp at h
 | n+1,c::r,b,k,h,D=>by
  have J:128<=c.toNat:=D 0 (by omega);have ih:=oe en I n r false (k+1) (by simpa using h) (fun m hm=>by simpa using D (m+1) (by omega));have e:bz en (c::r) b k=bz en r false (k+1):=by
   cases b with
   |true=>rw[bz,gE (by omega)]
   |false=>rw[bz,gE (by omega),gE (by omega),gE (by omega)]
  rw[e,ih];simp only[vN,vw];rw[show k+1+n=k+(n+1)by omega,show(b&&(n+1==0))=false by simp]
section
variable {P:Program} {ops:Array Oper} {Q:Exit->Act->World->Prop} {md:Region.Mode} {S:World->Prop} {L:Nat}
def rO(md:Region.Mode)(ops:Array Oper)(listed:Array Bool):Prop:=
 ∀(j:Nat)(o:Oper),ops[j]? = some o->listed.getD j false=true->∀e∈o.after,Region.binds md e=true->listed.getD e.on false=true
def t6(md:Region.Mode)(ops:Array Oper)(listed:Array Bool):Bool:=
 (List.range ops.size).all fun j =>!listed.getD j false||((ops[j]?).map (·.after.all fun e =>!Region.binds md e||listed.getD e.on false)).getD true
theorem Gq{listed:Array Bool}(h:t6 md ops listed=true):rO md ops listed:=by intro j o ho J e he hb;unfold t6 at h;rw[List.all_eq_true]at h;have D:=h j (List.mem_range.2 (Array.getElem?_eq_some_iff.1 ho).1);rw[ho,J]at D;simp only[Bool.not_true,Bool.false_or,xl,Option.getD_some,Array.all_eq_true_iff_forall_mem]at D;have I:=D e he;rw[hb]at I;simpa using I
theorem Em{listed:Array Bool}(h:rO md ops listed){i:Nat}(M:i∈Region.ready md ops listed):rO md ops (listed.setIfInBounds i true):=by
 intro j o ho hj e he hb;by_cases I:i=j
 ·subst I;obtain⟨_,o',D,J⟩:=mem_ready.1 M;rw[ho]at D;injection D with D;subst D;exact getD_set_true (J e he hb)
 ·rw[getD_set_ne false I]at hj;exact getD_set_true (h j o ho hj e he hb)
def Ae(md:Region.Mode)(ops:Array Oper):List Nat->Bool
 |a::b::r=>((ops[b]?).map (·.after.any fun e=>Region.binds md e&&e.on==a)).getD false&&Ae md ops (b::r)
 |_=>true
theorem tw{listed:Array Bool}(z:rO md ops listed)(hL:L∈Region.ready md ops listed):∀(p:List Nat)(a:Nat),Ae md ops (a::p)=true->p.getLast? = some L->listed.getD a false=true
 |[],_,_,h=>by simp at h
 | b::r,a,O,q=>by
  unfold Ae at O;rw[gR]at O;obtain⟨D,hr⟩:=O;cases M:ops[b]? with
  |none=>rw[M]at D;simp at D
  |some o=>
   rw[M]at D;simp only[xl,Option.getD_some]at D;rw[Array.any_eq_true']at D;obtain⟨e,y,D⟩:=D;rw[gR,kI]at D;obtain⟨hb,rfl⟩:=D;cases r with
   |nil=>simp at q;subst q;obtain⟨_,o',I,J⟩:=mem_ready.1 hL;rw[M]at I;injection I with I;subst I;exact J e y hb
   |cons c r'=>have x:=tw z hL (c::r') b hr (by simpa using q);exact z b o M x e y hb
def ir(P:Program)(md:Region.Mode)(ops:Array Oper)(Q:Exit->Act->World->Prop)(S:World->Prop)(L:Nat):Nat->Array Bool->Act->World->Prop
 |0,listed,a,w=>Region.ready md ops listed=[]/\Q .normal a w
 |fuel+1,listed,a,w=>
  (Region.ready md ops listed=[]->Q .normal a w) /\
  ∀i∈Region.ready md ops listed,wpOp P ops Q i (fun a' w'=>(S w'\/i=L)/\ir P md ops Q S L fuel (listed.setIfInBounds i true) a' w') a w
theorem ww:∀(fuel:Nat)(listed:Array Bool)(a:Act)(w:World),ir P md ops Q S L fuel listed a w->wpAny P md ops Q fuel listed a w
 |0,_,_,_,h=>h
 |fuel+1,_,_,_,h=>⟨h.1,fun i hi=>wpOp_mono (fun a' w' h'=>ww fuel _ a' w' h'.2) (h.2 i hi)⟩
theorem Bg{i:Nat}{oi:Oper}{v:Value}(hi:ops[i]? = some oi)(M:∀(j:Nat)(o:Oper)cs b,ops[j]? = some o->o.op≠.select cs b)
  (hQ:∀c a w,Q (.panic c) (a.put oi.dst v) w->Q (.panic c) a w)(p:List Nat)(hp:Ae md ops (i::p)=true)(hl:p.getLast? = some L):
  ∀ (fuel:Nat)(listed:Array Bool)(a:Act)(w:World),rO md ops listed ->
    (∀j oj,ops[j]? = some oj->j≠i->listed.getD j true=false->(∀e∈oj.after,Region.binds md e=true->e.on≠i)->oi.apart ops oj=true) ->
    i∈Region.ready md ops listed->YieldsIf P ops S oi v a->S w ->
    ir P md ops Q S L fuel (listed.setIfInBounds i true) (a.put oi.dst v) w->ir P md ops Q S L (fuel+1) listed a w:=by
 intro fuel;induction fuel with
 |zero=>
  intro listed a w _ _ q hy hS H;refine⟨fun h=>(by rw[h]at q;cases q),fun j hj=>?_⟩;by_cases D:j=i
  ·subst D;exact hy.wpOp hi hS ⟨.inl hS,H⟩
  ·have:=ready_mono hj D;rw[H.1]at this;cases this
 | succ fuel ih=>
  intro listed a w hcl I q hy hS H;refine⟨fun h=>(by rw[h]at q;cases q),fun j hj=>?_⟩;by_cases D:j=i
  ·subst D;exact hy.wpOp hi hS ⟨.inl hS,H⟩
  ·have h1:=H.2 j (ready_mono hj D);obtain⟨O,oj,x,gd⟩:=mem_ready.1 hj;have y:listed.getD i false=false:=by
    have h0:=(mem_ready.1 q).1;rcases kN i listed.size with h'|h'
    ·simp[h']at h0 |-;exact h0
    ·simp[Array.getElem?_eq_none h']
   (have gb:j≠L:=by rintro rfl;rw[tw hcl hj p i hp hl]at y;cases y);(have z:∀e∈oj.after,Region.binds md e=true->e.on≠i:=fun e he hb heq=>by have h1:=gd e he hb;rw[heq,y]at h1;cases h1);have h2:=wpOp_putIf x (I j oj x D O z) (fun cs b=>M i oi cs b hi) (fun cs b=>M j oj cs b x) hQ hy h1;have J:∀k ok,ops[k]? = some ok->k≠i->(listed.setIfInBounds j true).getD k true=false ->
     (∀e∈ok.after,Region.binds md e=true->e.on≠i)->oi.apart ops ok=true:=fun k ok hk hki hun hno=>by
    refine I k ok hk hki ?_ hno;by_cases ga:j=k
    ·subst ga;exact O
    ·rw[getD_set_ne true ga]at hun;exact hun
   refine wpOp_mono (fun a' w' h3=>⟨.inl (h3.2.1.resolve_right gb),ih (listed.setIfInBounds j true) a' w' (Em hcl hj) J (ready_mono q (Ne.symm D)) h3.1 (h3.2.1.resolve_right gb) ?_⟩) h2;rw[Array.setIfInBounds_comm _ _ D];exact h3.2.2
theorem CQ{i:Nat}{oi:Oper}{v:Value}{fuel:Nat}{listed:Array Bool}{a:Act}{w:World}(p:List Nat)(D:ops[i]? = some oi)
  (y:t6 md ops listed=true)(O:Ae md ops (i::p)=true)(q:p.getLast? = some L)
  (J:Region.noSelect ops=true)(x:Region.free md ops listed i=true)(M:(Region.ready md ops listed).contains i=true)
  (hQ:∀c a w,Q (.panic c) (a.put oi.dst v) w->Q (.panic c) a w)(I:YieldsIf P ops S oi v a)(z:S w)
  (h:ir P md ops Q S L fuel (listed.setIfInBounds i true) (a.put oi.dst v) w):ir P md ops Q S L (fuel+1) listed a w:=
 Bg D (Region.noSelect_spec J) hQ p O q fuel listed a w (Gq y) (Region.free_spec D x) (by simpa using M) I z h
theorem yh(i:Nat){oi:Oper}{v:Value}{fuel:Nat}{listed:Array Bool}{a:Act}{w:World}(p:List Nat)(q:S w)
  (h:ir P md ops Q S L fuel (listed.setIfInBounds i true) (a.put oi.dst v) w)(O:ops[i]? = some oi:=by rfl)
  (D:(t6 md ops listed&&(Ae md ops (i::p)&&(Region.noSelect ops&&(Region.free md ops listed i&&(Region.ready md ops listed).contains i))))=true:=by kernel_rfl)(M:p.getLast? = some L:=by rfl)
  (x:∀c a w,Q (.panic c) (a.put oi.dst v) w->Q (.panic c) a w:=by exact fun _ _ _ h=>h)(J:Region.wanted oi (yielded ops a.tmps)=true:=by rfl)
  (I:∀w,S w->(execOp a.eval oi).run P w=.ok (.value v) w:=by intro w hSw;(try dsimp only[SS]at hSw);go_simp;try(with_reducible rfl)):ir P md ops Q S L (fuel+1) listed a w:=by simp only[gR]at D;exact CQ p O D.1 D.2.1 M D.2.2.1 D.2.2.2.1 D.2.2.2.2 x (Or.inl ⟨J,I⟩) q h
def co(P:Program)(md:Region.Mode)(ops:Array Oper)(Q:Exit->Act->World->Prop)(S:World->Prop)(L:Nat)(fuel:Nat)(listed:Array Bool)(a:Act)(w:World)(rs:List Nat):Prop:=
 ∀i∈rs,wpOp P ops Q i (fun a' w'=>(S w'\/i=L)/\ir P md ops Q S L fuel (listed.setIfInBounds i true) a' w') a w
theorem co.nil{fuel:Nat}{listed:Array Bool}{a:Act}{w:World}:co P md ops Q S L fuel listed a w []:=fun _ h=>by cases h
theorem co.cons{fuel:Nat}{listed:Array Bool}{a:Act}{w:World}{i:Nat}{o:Oper}{rs:List Nat}(J:ops[i]? = some o)
  (h:∀K':Act->World->Prop,Shut (∀a w,(S w\/i=L)->(S w\/i=L->ir P md ops Q S L fuel (listed.setIfInBounds i true) a w)->K' a w)->if Region.wanted o (yielded ops a.tmps)=true then Oper.wp P o a w K' Q else K' (a.put o.dst undef) w)
  (I:co P md ops Q S L fuel listed a w rs):co P md ops Q S L fuel listed a w (i::rs):=fun j hj=>by
 rcases List.mem_cons.1 hj with rfl|hj
 ·exact wpOp_step J (fun K' hK=>h K' (fun a w D M=>hK a w ⟨D,M D⟩))
 ·exact I j hj
theorem aP{rs:List Nat}{fuel:Nat}{listed:Array Bool}{a:Act}{w:World}(I:Region.ready md ops listed=rs)(D:rs≠[])
  (h:co P md ops Q S L fuel listed a w rs):ir P md ops Q S L (fuel+1) listed a w:=
 ⟨fun J=>absurd (I▸J) D,I▸h⟩
theorem iO{listed:Array Bool}{a:Act}{w:World}(D:Region.ready md ops listed=[])(h:Q .normal a w):
  ∀fuel,ir P md ops Q S L fuel listed a w
 |0=>⟨D,h⟩
 |_+1=>⟨fun _=>h,by rw[D];simp⟩
theorem iP(L:Nat){id:Nat}{a:Act}{w:World}(D:P.follows .mixedOrders=true)(I:S w.drew)
  (h:S w.drew->ir P .any ops Q S L ops.size (Array.replicate ops.size false) a w.drew):(Code.region id ops true).wp P Q a w:=
 wp_region_any D (ww _ _ _ _ (h I))
end
mutual
def fc:Nd->Nat
 | .mk _ _ l _=>fZ l+1
def fZ:List Nd->Nat
 |[]=>0
 |n::l=>fc n+fZ l
end
theorem aG(k t l a):fc (.mk k t l a)=fZ l+1:=by rw[fc]
theorem aB:fZ []=0:=by rw[fZ]
theorem ap(n l):fZ (n::l)=fc n+fZ l:=by rw[fZ]
theorem iQ:fc cj=1:=by unfold cj;rw[aG,aB]
theorem fB:∀l m:List Nd,fZ (l++m)=fZ l+fZ m
 |[],m=>by rw[aB];simp
 |n::l,m=>by rw[kV,ap,ap,fB l m];omega
theorem wz:∀l:List Nd,l.length<=fZ l
 |[]=>by simp
 | .mk k t m a::l=>by rw[ap,aG,gI];have:=wz l;omega
def o6(n:Nd):Prop:=n.kids=[]/\n.pos=0/\n.text.size=0/\(n.kind=0\/n.kind=6)
theorem eG:o6 cj:=⟨rfl,rfl,rfl,.inl rfl⟩
mutual
def aN(c:Cx)(i j:Nat):Nd->Prop
 | .mk k t l a=>t.size<=1000000000/\(k=22->∃x r,l=x::r/\r≠[]/\x.kind≠10/\x.pos=a)/\∃m,i<=m/\m<j/\a=(aj c m).pos/\an c m j l
def an(c:Cx)(i j:Nat):List Nd->Prop
 |[]=>True
 |x::r=>(o6 x\/aN c i j x)/\an c i j r
end
section
variable {c:Cx} {i i' j j' m:Nat}
theorem ez{k t l a}:aN c i j (.mk k t l a)↔(t.size<=1000000000/\(k=22->∃x r,l=x::r/\r≠[]/\x.kind≠10/\x.pos=a)/\∃m,i<=m/\m<j/\a=(aj c m).pos/\an c m j l):=by rw[aN]
theorem an.nil:an c i j []:=by rw[an];trivial
theorem bH{x r}:an c i j (x::r)↔((o6 x\/aN c i j x)/\an c i j r):=by rw[an]
theorem an.app:∀{l l':List Nd},an c i j l->an c i j l'->an c i j (l++l')
 |[],_,_,h=>h
 |x::r,_,h,h'=>by rw[bH]at h;rw[kV,bH];exact⟨h.1,h.2.app h'⟩
theorem an.cons{x r}(h:aN c i j x)(D:an c i j r):an c i j (x::r):=bH.2 ⟨.inr h,D⟩
theorem an.consZ{x r}(h:o6 x)(D:an c i j r):an c i j (x::r):=bH.2 ⟨.inl h,D⟩
mutual
theorem aN.mono{i i' j j':Nat}(q:i'<=i)(D:j<=j'):∀n:Nd,aN c i j n->aN c i' j' n
 | .mk k t l a,h=>by rw[ez]at h |-;obtain⟨O,M,m,y,x,J,I⟩:=h;exact⟨O,M,m,by omega,by omega,J,an.mono (gA m) D l I⟩
theorem an.mono{i i' j j':Nat}(I:i'<=i)(D:j<=j'):∀l:List Nd,an c i j l->an c i' j' l
 |[],_=>an.nil
 |x::r,h=>by rw[bH]at h |-;exact⟨h.1.imp id (fun h=>aN.mono I D x h),an.mono I D r h.2⟩
end
theorem aN.make{k t l}(m:Nat)(D:t.size<=1000000000)(J:k≠22)(O:i<=m)(M:m<j)(I:an c m j l):aN c i j (.mk k t l (aj c m).pos):=
 ez.2 ⟨D,fun h=>absurd h J,m,O,M,rfl,I⟩
def bF{α:Type}(b:Prop)(Q:α->St->Prop):d5 α->Prop
 | .ok a s=>Q a s
 | .fail _=>True
 | .out=>¬ b
theorem bF.bind{α β:Type}{b b':Prop}{Q:α->St->Prop}{Q':β->St->Prop}{r:d5 α}{f:α->St->d5 β}(h:bF b' Q r)(hb:b->b')(I:∀a s,Q a s->bF b Q' (f a s)):bF b Q' (r.bind f):=by
 cases r with
 |ok a s=>exact I a s h
 |fail p=>trivial
 |out=>exact fun D=>h (hb D)
theorem bF.mono{α:Type}{b b':Prop}{Q Q':α->St->Prop}{r:d5 α}(h:bF b Q r)(hb:b'->b)(I:∀a s,Q a s->Q' a s):bF b' Q' r:=by
 cases r with
 |ok a s=>exact I a s h
 |fail p=>trivial
 |out=>exact fun D=>h (hb D)
theorem bF.ite{α:Type}{b:Prop}{Q:α->St->Prop}{p:Prop}[Decidable p]{x y:d5 α}(I:p->bF b Q x)(D:¬ p->bF b Q y):bF b Q (if p then x else y):=by
 split
 ·exact I ‹_›
 ·exact D ‹_›
theorem rP{i:Nat}(h:c.toks.length<=i):aj c i=⟨0,⟨#[]⟩,c.fin⟩:=by unfold aj;rw[vo h]
theorem wA{i:Nat}(h:i<c.toks.length):aj c i=c.toks[i]:=by unfold aj;rw[gO h]
theorem ny{s:St}{x:ByteArray}(h:aR c s x=true):s.at_<c.toks.length:=by
 rcases kN s.at_ c.toks.length with D|D
 ·exact D
 ·unfold aR NV at h;rw[rP D]at h;simp at h
theorem oR{i:Nat}(h:(aj c i).kind≠0):i<c.toks.length:=by
 rcases kN i c.toks.length with D|D
 ·exact D
 ·rw[rP D]at h;exact absurd rfl h
theorem oy{s:St}(h:dK c s=true):s.at_<c.toks.length:=by unfold dK at h;rw[vI]at h;exact h.elim ny ny
def N3(c:Cx)(s s1:St):Prop:=s1.at_=s.at_+1/\s1.at_<=c.toks.length
theorem N3.lt{s s1:St}(h:N3 c s s1):s.at_<s1.at_:=by have:=h.1;omega
theorem l9{s:St}(h:s.at_<c.toks.length):N3 c s (am s):=⟨rfl,h⟩
theorem bj{s:St}{x:ByteArray}(h:aR c s x=true):N3 c s (am s):=l9 (ny h)
theorem cX{b:Prop}(x:ByteArray)(s:St):bF b (fun _ s1=>N3 c s s1) (need x c s):=by
 unfold need;split
 ·exact bj ‹_›
 ·trivial
structure wB(c:Cx):Prop where
 txt:∀t∈c.toks,t.text.size<=65536
 num:∀t∈c.toks,(mU t.text).size<=1000000000
 str:∀t∈c.toks,(lf t.text).size<=1000000000
 rg:∀s x s',cO c s=some (x,s')->s'.at_<=c.toks.length
theorem wB.at_(h:wB c)(i:Nat):(aj c i).text.size<=65536:=by
 rcases kN i c.toks.length with D|D
 ·rw[wA D];exact h.txt _ (jF D)
 ·rw[rP D];show(0:Nat)<=_;omega
theorem iR{b:Prop}(hT:wB c)(s:St):bF b (fun x s1=>N3 c s s1/\x.size<=65536) (bV c s):=by
 unfold bV;split
 ·rename_i h;exact⟨l9 (oR (by rw[h];decide)),hT.at_ _⟩
 ·trivial
theorem CT{s:St}{x y:ByteArray}(I:aR c s x=true)(D:aR c s y=true):x=y:=by unfold aR NV at I D;rw[gR,jG]at I D;rw[<-I.2,<-D.2]
theorem CU{s:St}(h:(aj c s.at_).kind=1)(x:ByteArray):¬ aR c s x=true:=by unfold aR NV;rw[h];simp
theorem Gt{b:Prop}(hT:wB c)(s:St):bF b (fun x D=>(D.at_=s.at_+1/\D.at_<=c.toks.length/\(aj c s.at_).kind=1)/\x.size<=65536) (bV c s):=by
 unfold bV;split
 ·rename_i h;exact⟨⟨rfl,oR (by rw[h];decide),h⟩,hT.at_ _⟩
 ·trivial
theorem Lu(s:St)(h:s.at_<=c.toks.length):s.at_<=(dL c s).at_/\(dL c s).at_<=c.toks.length:=by
 unfold dL;split
 ·rename_i D;have:=oy D;exact⟨jC _,this⟩
 ·exact⟨gA _,h⟩
structure bJ(c:Cx)(i0 i sl:Nat)(n:Nd)(j:Nat):Prop where
 lt:i<j
 le:j<=c.toks.length
 ok:aN c i0 j n
 cnt:fc n+sl<=8*(j-i)
structure Lv(c:Cx)(i0 i C:Nat)(l:List Nd)(j:Nat):Prop where
 lt:i<j
 le:j<=c.toks.length
 ok:an c i0 j l
 cnt:fZ l+8<=C+8*(j-i)
theorem mM{part:R Nd}{en:ByteArray}{b:Prop}{i0 lo:Nat}(M:∀s,lo<=s.at_->s.at_<=c.toks.length->bF b (fun n D=>bJ c s.at_ s.at_ 0 n D.at_) (part c s)):
  ∀ (g C:Nat)(acc:List Nd)(s:St),lo<=s.at_->i0<=s.at_->s.at_<=c.toks.length->an c i0 s.at_ acc->fZ acc<=C ->
    bF (b/\c.toks.length-s.at_<g) (fun l D=>Lv c i0 s.at_ C l D.at_) (aU part en g acc c s)
 |0,_,_,_,_,_,_,_,_=>fun h=>absurd h.2 (by omega)
 | g+1,C,acc,s,h1,h2,z,O,h5=>by
  unfold aU;refine bF.ite (fun J=>?_) (fun J=>?_)
  ·have:=bj J;exact⟨this.lt,this.2,an.mono (gA _) (jV this.lt) _ O,by have:=this.1;omega⟩
  ·refine(M s h1 z).bind (fun h=>h.1) fun n D hn=>?_;have I:an c i0 D.at_ (acc++[n]):=(an.mono (gA _) (jV hn.lt) _ O).app (an.cons (aN.mono h2 (gA _) _ hn.ok) an.nil);(have x:fZ (acc++[n])=fZ acc+fc n:=by rw[fB,ap,aB];omega);have q:=hn.lt;have y:=hn.cnt;refine bF.ite (fun J=>?_) (fun J=>?_)
   ·have:=bj J;exact⟨by have:=this.1;omega,this.2,an.mono (gA _) (jV this.lt) _ I,by have:=this.1;omega⟩
   ·refine(cX (b:=True) _ D).bind (fun _=>trivial) fun _ s2 ho=>?_;have e1:=ho.1;have e2:=ho.2;refine(mM M g (C+8*(D.at_-s.at_)) (acc++[n]) s2 (by omega) (by omega) e2 (an.mono (gA _) (by omega) _ I) (by omega)).mono (fun h=>⟨h.1,by omega⟩) fun l s3 h=>?_;have e3:=h.lt;have e4:=h.cnt;exact⟨by omega,h.le,h.ok,by omega⟩
structure Lw(c:Cx)(g:Nat)(F:eQ):Prop where
 hg:F.g=g
 typ:∀s,s.at_<=c.toks.length->bF (3*(c.toks.length-s.at_)+1<=g) (fun n s1=>bJ c s.at_ s.at_ 7 n s1.at_/\(n.kind=10\/n.kind=11\/n.kind=12)/\(aR c s ⟨#[91]⟩=true->n.kind≠10)) (F.typ c s)
 expr:∀s,s.at_<=c.toks.length->bF (3*(c.toks.length-s.at_)+2<=g) (fun n s1=>bJ c s.at_ s.at_ 7 n s1.at_/\n.kind≠10/\n.kind<26) (F.expr c s)
 unary:∀s,s.at_<=c.toks.length->bF (3*(c.toks.length-s.at_)+2<=g) (fun n s1=>bJ c s.at_ s.at_ 7 n s1.at_/\n.kind≠10/\n.kind<26) (F.unary c s)
 stmt:∀s,s.at_<=c.toks.length->bF (3*(c.toks.length-s.at_)+3<=g) (fun n s1=>bJ c s.at_ s.at_ 6 n s1.at_) (F.stmt c s)
 ifS:∀s,s.at_<=c.toks.length->bF (3*(c.toks.length-s.at_)+3<=g) (fun n s1=>bJ c s.at_ s.at_ 6 n s1.at_) (F.ifS c s)
end
section
variable {c:Cx} {g:Nat} {F:eQ} (hF:Lw c g F) (hT:wB c)
include hF hT
theorem En(s:St)(I:s.at_<=c.toks.length):bF (3*(c.toks.length-s.at_)+1<=g) (fun n D=>s.at_<=D.at_/\D.at_<=c.toks.length/\(o6 n\/aN c s.at_ D.at_ n)/\fc n<=1+8*(D.at_-s.at_)) (dm F c s):=by
 have _:=hT;unfold dm;refine bF.ite (fun _=>?_) (fun _=>?_)
 ·refine(hF.typ s I).mono id fun n D h=>?_;have:=h.1.cnt;have:=h.1.lt;exact⟨by omega,h.1.le,.inr h.1.ok,by omega⟩
 ·exact⟨gA _,I,.inl eG,by rw[iQ];omega⟩
theorem Eo(s:St)(D:s.at_<=c.toks.length):bF (3*(c.toks.length-s.at_)+1<=g) (fun n s1=>bJ c s.at_ s.at_ 0 n s1.at_) (mb F c s):=by have _:=hT;unfold mb;refine(hF.typ s D).bind id fun n s1 h=>?_;have h:=h.1;refine⟨h.lt,h.le,aN.make _ (by show(0:Nat)<=_;omega) (by decide) (gA _) h.lt (an.cons h.ok an.nil),?_⟩;rw[aG,ap,aB];have:=h.cnt;omega
theorem CV(s:St)(D:s.at_<=c.toks.length):bF (3*(c.toks.length-s.at_)+1<=g) (fun n s1=>bJ c s.at_ s.at_ 0 n s1.at_) (eI F c s):=by have _:=D;unfold eI;refine(iR (b:=True) hT s).bind (fun _=>trivial) fun x s0 h0=>?_;have J:=h0.1.1;refine(hF.typ s0 h0.1.2).bind (fun h=>by omega) fun n s1 h=>?_;have h:=h.1;have I:=h.lt;refine⟨by omega,h.le,aN.make _ (gM h0.2 (by decide)) (by decide) (gA _) (by omega) (an.cons (aN.mono (by omega) (gA _) _ h.ok) an.nil),?_⟩;rw[aG,ap,aB];have:=h.cnt;omega
theorem tz{part:R Nd}(I:∀s,s.at_<=c.toks.length->bF (3*(c.toks.length-s.at_)+1<=g) (fun n s1=>bJ c s.at_ s.at_ 0 n s1.at_) (part c s))(i0:Nat)(s:St)(D:s.at_<=c.toks.length)(M:i0<=s.at_):
  bF (3*(c.toks.length-s.at_)<=g) (fun n s1=>bJ c i0 s.at_ 7 n s1.at_/\n.kind=12)
   ((need ⟨#[40]⟩ c s).bind fun _ s1=>(aU part ⟨#[41]⟩ F.g [] c s1).bind fun l s2=>(dm F c s2).bind fun r s3=>.ok (.mk 12 ⟨#[]⟩ [.mk 6 ⟨#[]⟩ l (ar c s),r] (aj c i0).pos) s3):=by have _:=D;refine(cX (b:=True) _ s).bind (fun _=>trivial) fun _ s1 h1=>?_;have e1:=h1.1;have y:=h1.2;rw[hF.hg];refine(mM (i0:=s.at_) (lo:=s1.at_) (b:=3*(c.toks.length-s1.at_)+1<=g) (fun s' hlo hs'=>(I s' hs').mono (fun h=>by omega) fun _ _ h=>h) g 0 [] s1 (gA _) (by omega) h1.2 an.nil (by rw[aB];omega)).bind (fun h=>⟨by omega,by omega⟩) fun l s2 h2=>?_;have e2:=h2.lt;have e3:=h2.cnt;refine(En hF hT s2 h2.le).bind (fun h=>by omega) fun r s3 h3=>?_;obtain⟨x,q,O,z⟩:=h3;have J:aN c i0 s3.at_ (.mk 6 ⟨#[]⟩ l (ar c s)):=aN.make s.at_ (by show(0:Nat)<=_;omega) (by decide) M (by omega) (an.mono (gA _) x _ h2.ok);refine⟨⟨by omega,q,aN.make _ (by show(0:Nat)<=_;omega) (by decide) (gA _) (by omega) (an.cons J (bH.2 ⟨O.imp id fun h=>aN.mono (by omega) (gA _) _ h,an.nil⟩)),?_⟩,rfl⟩;rw[aG,ap,ap,aB,aG];omega
theorem rQ(i0:Nat)(s:St)(D:s.at_<=c.toks.length)(I:i0<=s.at_):
 bF (3*(c.toks.length-s.at_)<=g) (fun n s1=>bJ c i0 s.at_ 7 n s1.at_/\n.kind=12) (cN F (aj c i0).pos c s):=tz hF hT (Eo hF hT) i0 s D I
theorem Fa(i0:Nat)(s:St)(D:s.at_<=c.toks.length)(I:i0<=s.at_):
 bF (3*(c.toks.length-s.at_)<=g) (fun n s1=>bJ c i0 s.at_ 7 n s1.at_/\n.kind=12) (nX F (aj c i0).pos c s):=tz hF hT (CV hF hT) i0 s D I
theorem Nx(s:St)(hs:s.at_<=c.toks.length):bF (3*(c.toks.length-s.at_)+1<=g+1) (fun n s1=>bJ c s.at_ s.at_ 7 n s1.at_/\(n.kind=10\/n.kind=11\/n.kind=12)/\(aR c s ⟨#[91]⟩=true->n.kind≠10)) (AD F c s):=by
 have _:=hs;unfold AD;refine bF.ite (fun J=>?_) (fun _=>bF.ite (fun J=>?_) (fun _=>bF.ite (fun J=>?_) (fun _=>?_)))
 ·have D:=bj J;generalize am s=s0 at D |-;have z:=D.1;have O:=D.2;refine(hF.typ s0 D.2).bind (fun h=>by omega) fun n s1 h=>?_;refine(cX (b:=True) _ s1).bind (fun _=>trivial) fun _ s2 M=>?_;have e2:=M.1;have y:=h.1.lt;have:=h.1.cnt;exact⟨⟨by omega,M.2,aN.mono (by omega) (by omega) _ h.1.ok,by omega⟩,h.2.1,fun hb=>absurd (CT J hb) (by decide)⟩
 ·have D:=bj J;generalize am s=s0 at D |-;have z:=D.1;have O:=D.2;refine(cX (b:=True) _ s0).bind (fun _=>trivial) fun _ s1 I=>?_;have y:=I.1;have q:=I.2;refine(hF.typ s1 I.2).bind (fun h=>by omega) fun n s2 h=>?_;have h:=h.1;have e2:=h.lt;have:=h.cnt;refine⟨⟨by omega,h.le,aN.make s.at_ (by show(0:Nat)<=_;omega) (by decide) (gA _) (by omega) (an.cons (aN.mono (by omega) (gA _) _ h.ok) an.nil),?_⟩,.inr (.inl rfl),fun _=>by show(11:Int)≠10;decide⟩;rw[aG,ap,aB];omega
 ·have D:=bj J;generalize am s=s0 at D |-;have z:=D.1;have O:=D.2;refine(rQ hF hT s.at_ s0 D.2 (by omega)).mono (fun h=>by omega) fun n s1 h=>?_;have y:=h.1.lt;have:=h.1.cnt;exact⟨⟨by omega,h.1.le,h.1.ok,by omega⟩,.inr (.inr h.2),fun hb=>absurd (CT J hb) (by decide)⟩
 ·refine(Gt (b:=True) hT s).bind (fun _=>trivial) fun x s1 I=>?_;have y:=I.1.1;have q:=I.1.2.1;refine bF.ite (fun J=>?_) (fun _=>?_)
  ·have D:=bj (show aR c s1 ⟨#[91]⟩=true by rw[gR]at J;exact J.1);generalize am s1=s0 at D |-;have z:=D.1;have O:=D.2;rw[hF.hg];refine(mM (i0:=s.at_) (lo:=s0.at_) (b:=3*(c.toks.length-s0.at_)+1<=g) (fun s' hlo hs'=>(hF.typ s' hs').mono (fun h=>by omega) fun _ _ h=>⟨h.1.lt,h.1.le,h.1.ok,by have:=h.1.cnt;omega⟩) g 0 [] s0 (gA _) (by omega) D.2 an.nil (by rw[aB];omega)).bind (fun h=>⟨by omega,by omega⟩) fun l s2 M=>?_;have e2:=M.lt;have e3:=M.cnt;refine bF.ite (fun _=>trivial) (fun _=>?_);refine⟨⟨by omega,M.le,aN.make s.at_ (gM I.2 (by decide)) (by decide) (gA _) (by omega) M.ok,?_⟩,.inl rfl,fun hb=>absurd hb (CU I.1.2.2 _)⟩;rw[aG];omega
  ·refine⟨⟨by omega,I.1.2.1,aN.make s.at_ (gM I.2 (by decide)) (by decide) (gA _) (by omega) an.nil,?_⟩,.inl rfl,fun hb=>absurd hb (CU I.1.2.2 _)⟩;rw[aG,aB];omega
theorem CW(s:St)(I:s.at_<=c.toks.length):bF (3*(c.toks.length-s.at_)+1<=g) (fun n s1=>bJ c s.at_ s.at_ 6 n s1.at_/\∃k,n.kids=[k]) (lH F c s):=by
 have _:=hT;unfold lH;refine bF.ite (fun J=>?_) (fun _=>?_)
 ·have D:=bj J;generalize am s=s0 at D |-;have q:=D.1;have O:=D.2;refine(hF.typ s0 D.2).bind (fun h=>by omega) fun n s1 h=>?_;have h:=h.1;have M:=h.lt;have:=h.cnt;refine⟨⟨by omega,h.le,aN.make s.at_ (by show(1:Nat)<=_;omega) (by decide) (gA _) (by omega) (an.cons (aN.mono (by omega) (gA _) _ h.ok) an.nil),?_⟩,n,rfl⟩;rw[aG,ap,aB];omega
 ·refine(hF.typ s I).bind id fun n s1 h=>?_;have h:=h.1;have M:=h.lt;have:=h.cnt;refine⟨⟨by omega,h.le,aN.make s.at_ (by show(0:Nat)<=_;omega) (by decide) (gA _) (by omega) (an.cons h.ok an.nil),?_⟩,n,rfl⟩;rw[aG,ap,aB];omega
theorem tA(i0 C:Nat)(M:i0<=C):∀(f:Nat)(acc:List Nd)(s:St),s.at_<=c.toks.length->an c i0 s.at_ acc->fZ acc+6<=8*(s.at_-C) ->
  bF (3*(c.toks.length-s.at_)+1<=g/\c.toks.length-s.at_<f) (fun n s1=>bJ c i0 C 5 n s1.at_) (et F (aj c i0).pos f acc c s)
 |0,_,_,_,_,_=>fun h=>absurd h.2 (by omega)
 |f+1,acc,s,O,I,x=>by
  unfold et;refine bF.ite (fun J=>?_) (fun _=>?_)
  ·have D:=bj J;generalize am s=s0 at D |-;have e0:=D.1;have q:=D.2;refine(CW hF hT s0 D.2).bind (fun h=>by omega) fun n s1 h=>?_;have h:=h.1;have z:=h.lt;have y:=h.cnt;exact(tA i0 C M f (acc++[n]) s1 h.le ((an.mono (gA _) (by omega) _ I).app (an.cons (aN.mono (by omega) (gA _) _ h.ok) an.nil)) (by rw[fB,ap,aB];omega)).mono (fun h=>⟨by omega,by omega⟩) fun m s2 h'=>h'
  ·refine⟨by omega,O,aN.make i0 (by show(0:Nat)<=_;omega) (by decide) (gA _) (by omega) I,?_⟩;rw[aG];omega
theorem Ah(i0:Nat)(s:St)(I:s.at_<=c.toks.length)(D:i0<=s.at_):bF (3*(c.toks.length-s.at_)+1<=g) (fun n s1=>bJ c i0 s.at_ 5 n s1.at_) (dS F (aj c i0).pos c s):=by unfold dS;refine(CW hF hT s I).bind id fun n s1 h=>?_;have h:=h.1;have M:=h.lt;have J:=h.cnt;have:=h.le;rw[hF.hg];exact(tA hF hT i0 s.at_ D g [n] s1 h.le (an.cons (aN.mono D (gA _) _ h.ok) an.nil) (by rw[ap,aB];omega)).mono (fun h=>⟨by omega,by omega⟩) fun m s2 h'=>h'
theorem Ai(i0:Nat)(s:St)(I:s.at_<=c.toks.length)(O:i0<=s.at_):bF (3*(c.toks.length-s.at_)<=g) (fun n s1=>bJ c i0 s.at_ 5 n s1.at_) (fl F (aj c i0).pos c s):=by have _:=I;unfold fl;refine(cX (b:=True) _ s).bind (fun _=>trivial) fun _ s1 h1=>?_;have z:=h1.1;have J:=h1.2;refine(Ah hF hT i0 s1 h1.2 (by omega)).bind (fun h=>by omega) fun n s2 h2=>?_;have y:=h2.lt;have x:=h2.cnt;have M:=Lu s2 h2.le;refine(cX (b:=True) _ _).bind (fun _=>trivial) fun _ s3 D=>?_;have q:=D.1;exact⟨by omega,D.2,aN.mono (gA _) (by omega) _ h2.ok,by omega⟩
omit hF hT in
theorem Lx{n k:Nd}{i j sl:Nat}(h:bJ c i i sl n j)(hb:rb n=some k):bJ c i i sl k j:=by
 obtain⟨kk,t,l,a⟩:=n;unfold rb at hb;rw[Nd.kids_mk]at hb;cases l with
 |nil=>cases hb
 | cons x r=>cases r with
   |cons y r=>cases hb
   | nil=>
    obtain⟨kx,tx,lx,ax⟩:=x;simp only[Nd.kids_mk]at hb;cases lx with
    |nil=>cases hb
    |cons z r=>
     simp only at hb;split at hb
     ·rename_i q;injection hb with hb;subst hb;have O:=h.cnt;rw[aG,ap,aG,ap]at O;obtain⟨-,-,m,m1,m2,-,J⟩:=ez.1 h.ok;rw[bH]at J;have M:=J.1.resolve_left (fun D=>by have:=D.1;cases this);obtain⟨-,-,m',m5,m6,-,I⟩:=ez.1 M;rw[bH]at I;have D:=I.1.resolve_left (fun D=>by have:=D.2.2.2;rw[q.2]at this;omega);exact⟨h.lt,h.le,aN.mono (by omega) (gA _) _ D,by omega⟩
     ·cases hb
theorem wC(s:St)(I:s.at_<=c.toks.length):bF (3*(c.toks.length-s.at_)+1<=g) (fun n s1=>bJ c s.at_ s.at_ 5 n s1.at_) (dv F c s):=by
 unfold dv;refine bF.ite (fun J=>?_) (fun _=>?_)
 ·have D:=bj J;generalize am s=s0 at D |-;have q:=D.1;have M:=D.2;refine(Ai hF hT s.at_ s0 D.2 (by omega)).mono (fun h=>by omega) fun n s1 h=>?_;have O:=h.lt;have:=h.cnt;exact⟨by omega,h.le,h.ok,by omega⟩
 ·refine(Ah hF hT s.at_ s I (gA _)).bind id fun n s1 h=>?_;show bJ c s.at_ s.at_ 5 ((rb n).getD n) s1.at_;cases hb:rb n with
  |none=>exact h
  |some k=>exact Lx h hb
theorem yB(s:St)(D:s.at_<=c.toks.length):bF (3*(c.toks.length-s.at_)+1<=g) (fun n s1=>bJ c s.at_ s.at_ 0 n s1.at_) (de F c s):=by have _:=D;unfold de;refine(iR (b:=True) hT s).bind (fun _=>trivial) fun x s0 h0=>?_;have J:=h0.1.1;refine(wC hF hT s0 h0.1.2).bind (fun h=>by omega) fun n s1 h=>?_;have I:=h.lt;refine⟨by omega,h.le,aN.make s.at_ (gM h0.2 (by decide)) (by decide) (gA _) (by omega) (an.cons (aN.mono (by omega) (gA _) _ h.ok) an.nil),?_⟩;rw[aG,ap,aB];have:=h.cnt;omega
theorem wD(s:St)(O:s.at_<=c.toks.length):bF (3*(c.toks.length-s.at_)<=g) (fun n D=>s.at_<=D.at_/\D.at_<=c.toks.length/\(o6 n\/aN c s.at_ D.at_ n)/\fc n<=1+8*(D.at_-s.at_)) (d6 F c s):=by
 unfold d6;refine bF.ite (fun M=>?_) (fun _=>?_)
 ·have J:=bj (show aR c s ⟨#[91]⟩=true by rw[gR]at M;exact M.1);generalize am s=s0 at J |-;have z:=J.1;have q:=J.2;rw[hF.hg];refine(mM (i0:=s.at_) (lo:=s0.at_) (b:=3*(c.toks.length-s0.at_)+1<=g) (fun s' hlo hs'=>(yB hF hT s' hs').mono (fun h=>by omega) fun _ _ h=>h) g 0 [] s0 (gA _) (by omega) J.2 an.nil (by rw[aB];omega)).bind (fun h=>⟨by omega,by omega⟩) fun l s2 I=>?_;have y:=I.lt;have x:=I.cnt;refine bF.ite (fun _=>trivial) (fun _=>?_);refine⟨by omega,I.le,.inr (aN.make s.at_ (by show(0:Nat)<=_;omega) (by decide) (gA _) (by omega) I.ok),?_⟩;rw[aG];omega
 ·refine⟨gA _,O,.inl ⟨rfl,rfl,rfl,.inr rfl⟩,?_⟩;rw[aG,aB];omega
theorem nz(i0 C:Nat)(M:i0<=C):∀(f:Nat)(acc:List Nd)(s:St),s.at_<=c.toks.length->an c i0 s.at_ acc->fZ acc<=8*(s.at_-C)->C<=s.at_ ->
  bF (3*(c.toks.length-s.at_)<=g/\c.toks.length-s.at_<f) (fun n s1=>bJ c i0 C 7 n s1.at_) (cw F (aj c i0).pos f acc c s)
 |0,_,_,_,_,_,_=>fun h=>absurd h.2 (by omega)
 | f+1,acc,s,h2,O,h4,z=>by
  unfold cw;refine bF.ite (fun J=>?_) (fun _=>?_)
  ·have D:=bj J;have e0:=D.1;refine⟨by omega,D.2,aN.make i0 (by show(0:Nat)<=_;omega) (by decide) (gA _) (by omega) (an.mono (gA _) (by omega) _ O),?_⟩;rw[aG];omega
  ·refine(iR (b:=True) hT s).bind (fun _=>trivial) fun x s1 h1=>?_;have e1:=h1.1.1;have y:=h1.1.2;refine(hF.typ s1 h1.1.2).bind (fun h=>by omega) fun n s2 h=>?_;have h:=h.1;have e2:=h.lt;have e3:=h.cnt;have I:an c i0 s2.at_ (acc++[.mk 9 x [n] (ar c s)]):=(an.mono (gA _) (by omega) _ O).app (an.cons (aN.make s.at_ (gM h1.2 (by decide)) (by decide) (by omega) (by omega) (an.cons (aN.mono (by omega) (gA _) _ h.ok) an.nil)) an.nil);(have q:fZ (acc++[.mk 9 x [n] (ar c s)])=fZ acc+fc n+1:=by rw[fB,ap,aB,aG,ap,aB];omega);refine bF.ite (fun J=>?_) (fun _=>bF.ite (fun _=>?_) fun _=>trivial)
   ·have D:=l9 (oy J);generalize am s2=s0 at D |-;have e4:=D.1;have e5:=D.2;exact(nz i0 C M f _ s0 D.2 (an.mono (gA _) (by omega) _ I) (by omega) (by omega)).mono (fun h=>⟨by omega,by omega⟩) fun m s2 h'=>h'
   ·exact(nz i0 C M f _ s2 h.le I (by omega) (by omega)).mono (fun h=>⟨by omega,by omega⟩) fun m s2 h'=>h'
theorem Ep(i0:Nat)(s:St)(D:s.at_<=c.toks.length)(I:i0<=s.at_):bF (3*(c.toks.length-s.at_)<=g) (fun n s1=>bJ c i0 s.at_ 7 n s1.at_) (fF F (aj c i0).pos c s):=by have _:=D;unfold fF;refine(cX (b:=True) _ s).bind (fun _=>trivial) fun _ s1 h1=>?_;have M:=h1.1;have J:=h1.2;rw[hF.hg];exact(nz hF hT i0 s.at_ I g [] s1 h1.2 an.nil (by rw[aB];omega) (by omega)).mono (fun h=>⟨by omega,by omega⟩) fun m s2 h'=>h'
theorem rR(s:St)(J:s.at_<=c.toks.length):bF (3*(c.toks.length-s.at_)<=g) (fun n s1=>bJ c s.at_ s.at_ 6 n s1.at_) (dT F c s):=by
 have _:=J;unfold dT;refine(cX (b:=True) _ s).bind (fun _=>trivial) fun _ s1 h1=>?_;have e1:=h1.1;have ga:=h1.2;refine(iR (b:=True) hT s1).bind (fun _=>trivial) fun x s2 h2=>?_;have e2:=h2.1.1;have z:=h2.1.2;refine bF.ite (fun I=>?_) (fun _=>?_)
 ·have D:=bj I;generalize am s2=s0 at D |-;have e3:=D.1;have y:=D.2;refine(hF.expr s0 D.2).bind (fun h=>by omega) fun n s3 h=>?_;have h:=h.1;have q:=h.lt;have O:=h.cnt;refine⟨by omega,h.le,aN.make s.at_ (gM h2.2 (by decide)) (by decide) (gA _) (by omega) (an.consZ eG (an.cons (aN.mono (by omega) (gA _) _ h.ok) an.nil)),?_⟩;rw[aG,ap,ap,aB,iQ];omega
 ·refine(hF.typ s2 h2.1.2).bind (fun h=>by omega) fun t s3 h=>?_;have h:=h.1;have q:=h.lt;have O:=h.cnt;refine bF.ite (fun I=>?_) (fun _=>?_)
  ·have D:=bj I;generalize am s3=s0 at D |-;have e6:=D.1;have M:=D.2;refine(hF.expr s0 D.2).bind (fun h=>by omega) fun n s4 h'=>?_;have h':=h'.1;have e7:=h'.lt;have e8:=h'.cnt;refine⟨by omega,h'.le,aN.make s.at_ (gM h2.2 (by decide)) (by decide) (gA _) (by omega) (an.cons (aN.mono (by omega) (by omega) _ h.ok) (an.cons (aN.mono (by omega) (gA _) _ h'.ok) an.nil)),?_⟩;rw[aG,ap,ap,aB];omega
  ·refine⟨by omega,h.le,aN.make s.at_ (gM h2.2 (by decide)) (by decide) (gA _) (by omega) (an.cons (aN.mono (by omega) (by omega) _ h.ok) (an.consZ eG an.nil)),?_⟩;rw[aG,ap,ap,aB,iQ];omega
end
end
end Go.Proofs.YtcoiialmdncpfaaGreatDoor
