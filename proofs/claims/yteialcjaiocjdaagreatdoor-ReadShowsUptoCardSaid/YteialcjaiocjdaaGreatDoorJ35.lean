/-
  Parts of the proof: Gopen Pfile Pexpr Pwc Pawk Pawake Pnt Pit. By an AI agent.
-/
import Derived.Test.YteialcjaiocjdaaGreatDoorRows
import Derived.Test.YteialcjaiocjdaaGreatDoorJ08
import Derived.Test.YteialcjaiocjdaaGreatDoorJ00
import Derived.Test.YteialcjaiocjdaaGreatDoorJ27
import Derived.Test.YteialcjaiocjdaaGreatDoorJ33
import Derived.Test.YteialcjaiocjdaaGreatDoorJ34
import Derived.Test.YteialcjaiocjdaaGreatDoorJ28
import Derived.Test.YteialcjaiocjdaaGreatDoorJ09
import Derived.Lib.SmallJoins
open Go.Proofs.Tryz
set_option maxRecDepth 100000
set_option maxHeartbeats 8000000
namespace Go.Proofs.YteialcjaiocjdaaGreatDoor
section
open Go.RowKit Go.ChangeShapes Go.WideShapes Go.Deep Go.Joins
theorem gE:type_of% @ByteArray.size_append:=@ByteArray.size_append
theorem vq:type_of% @List.flatMap_nil:=@List.flatMap_nil
mutual
def lE:Nd->Nat
 | .mk _ t l _=>t.size+nf l+1
def nf:List Nd->Nat
 |[]=>0
 |n::l=>lE n+nf l
end
theorem Bl(n:Nd):lE n=n.text.size+nf n.kids+1:=by cases n;unfold lE;rfl
theorem CZ:∀l:List Nd,l.length<=nf l
 |[]=>by simp
 |n::l=>by have:=CZ l;have:=Bl n;unfold nf;rw[gO];omega
theorem C1:∀{l:List Nd}{n:Nd},n∈l->lE n<=nf l
 |m::l,n,h=>by
  unfold nf;rcases List.mem_cons.1 h with rfl|h
  ·omega
  ·have:=C1 h;omega
theorem mq:∀(g:Nat)(n:Nd),(aO g n).length<=lE n
 |0,n=>by simp[aO]
 | g+1,n=>by
  have key:∀l:List Nd,(l.flatMap (aO g)).length<=nf l:=by
   intro l;induction l with
   |nil=>simp
   |cons m l ih=>have:=mq g m;rw[jE,gM];unfold nf;omega
  have:=key n.kids;unfold aO;rw[gO,Bl];omega
theorem rG:∀(g:Nat)(n:Nd),lE n<=1000000000->rn g n
 |0,n,_=>by unfold rn;trivial
 |g+1,n,h=>by have e:=Bl n;have:=CZ n.kids;unfold rn;refine⟨⟨by omega,by omega⟩,fun k hk=>rG g k ?_⟩;have:=C1 hk;omega
def Mu(p:Nd×Value×Value×Value×Value):List Value:=[p.2.1,p.2.2.1,p.2.2.2.1,p.2.2.2.2]
theorem ah.of_rows{X:Nat->Prop}{w:World}:∀l:List (Nd×Value×Value×Value×Value),(∀p∈l,bG X w p.1 (Mu p)) ->
  ah X w (l.map (·.1)) (l.flatMap Mu)
 |[],_=>ah.nil
 |p::l,h=>by rw[jT,jE];exact ah.cons (h p (by simp)) (ah.of_rows l fun q hq=>h q (by simp[hq]))
section
variable {H:Type} {enc:TypeId×Value->H} {w:World} {base:Nat} {spare:Nat->Bool} {held:Bool}
theorem Ah:∀(l:List Nd)(m:List (DataW H)),l.length=m.length->(∀i(h:i<l.length)(h':i<m.length),lE l[i]<=Rows.uptoBulk m[i])->nf l<=Rows.uptoBulkAll m
 |[],_,_,_=>by unfold nf;exact gQ _
 |n::l,[],h,_=>by simp at h
 |n::l,d::m,h,D=>by have I:=D 0 (by simp) (by simp);(have J:=Ah l m (by simpa using h) fun i h h'=>by have:=D (i+1) (by simpa using h) (by simpa using h');simpa using this);unfold nf Rows.uptoBulkAll;simp at I;omega
theorem FM:prog.cellsOf 24=4:=by kernel_rfl
theorem C2:prog.cellsOf 3=1:=by kernel_rfl
theorem Mv:prog.cellsOf 9=1:=by kernel_rfl
theorem Mw:prog.cellsOf 22=1:=by kernel_rfl
theorem Et{A:Option Addr}{B n sz:Nat}{xs:List Value}(h:co w B sz A n xs)(hs:0<sz):fh (fun _=>True) w sz A n xs:=by
 refine⟨h.1,fun J=>?_⟩;obtain⟨ad,O,hb,M⟩:=h.2 J;(have N:0<xs.length:=by rw[h.1];exact Nat.mul_pos J hs);have U:=M 0 xs[0] (gT N);have D:=nY (show w.cell? ad=some xs[0]from U);obtain⟨b,o,s⟩:=ad;(have I:s=none:=by simpa using D);subst I;refine⟨b,o,O,trivial,fun j u hu=>?_⟩;have:=M j u hu
 rwa [oX]at this
theorem R1{α:Type}:∀{l:List α},l.length=4->∃a b c d,l=[a,b,c,d]
 |[a,b,c,d],_=>⟨a,b,c,d,rfl⟩
theorem Ib:∀(N fuel:Nat),fuel<=N->∀(cs:List Value)(x:DataW H×List MemPlace),DataW.trod enc prog w base spare held fuel 22 cs=some x ->
  ∃(A:Option Addr)(len cap:Nat)(l:List Nd)(xs:List Value),cs=[.slice A len cap]/\l.length=len/\len<=cap/\fh (fun _=>True) w 4 A len xs/\ah (fun _=>True) w l xs/\nf l<=Rows.uptoBulk x.1:=by
 intro N;induction N with
 |zero=>
  intro fuel hN cs x h;rcases DataW.trod_slice underlying22 h with⟨rfl,rfl⟩|⟨a,len,cap,elems,rest,n,hf,_⟩
  ·exact⟨none,0,0,[],[],rfl,rfl,gC _,⟨rfl,fun h=>absurd h (by simp)⟩,ah.nil,by unfold nf;exact gQ _⟩
  ·omega
 | succ N ih=>
  intro fuel hN cs x h;rcases DataW.trod_slice underlying22 h with⟨rfl,rfl⟩|⟨a,len,cap,elems,rest,n,hf,rfl,rfl,hb,hl,hm,M,gi,-,-⟩
  ·exact⟨none,0,0,[],[],rfl,rfl,gC _,⟨rfl,fun h=>absurd h (by simp)⟩,ah.nil,by unfold nf;exact gQ _⟩
  ·have key:∀i,i<len->∃p:Nd×Value×Value×Value×Value,bG (fun _=>True) w p.1 (Mu p)/\(∀j u,(Mu p)[j]? = some u->w.cell? (a.add (i*4+j))=some u)/\∃e,elems[i]? = some e/\lE p.1<=Rows.uptoBulk e.1:=by
    intro i hi;have h1:=gi i hi;(have U:i<elems.length:=by omega);rw[gT U,Option.bind_eq_some_iff,FM]at h1;obtain⟨cs',hc,ht⟩:=h1;obtain⟨-,gj,gk⟩:=World.cells?_some hc;obtain⟨ys,n',gm,hy,-,gb,D⟩:=DataW.trod_struct underlying24 ht;obtain⟨c0,c1,c2,c3,rfl⟩:=R1 gj;obtain⟨y0,y1,y2,y3,rfl⟩:=R1 (show ys.length=4 from gb);(have t0:DataW.trod enc prog w base spare held n' 3 [c0]=some y0:=by have this:DataW.trod enc prog w base spare held n' 3 (([c0,c1,c2,c3].drop 0).take (prog.cellsOf 3))=some y0:=D 0 _ rfl;rw[C2]at this;exact this);(have t1:DataW.trod enc prog w base spare held n' 9 [c1]=some y1:=by have this:DataW.trod enc prog w base spare held n' 9 (([c0,c1,c2,c3].drop 1).take (prog.cellsOf 9))=some y1:=D 1 _ rfl;rw[Mv]at this;exact this);(have t2:DataW.trod enc prog w base spare held n' 22 [c2]=some y2:=by have this:DataW.trod enc prog w base spare held n' 22 (([c0,c1,c2,c3].drop 2).take (prog.cellsOf 22))=some y2:=D 2 _ rfl;rw[Mw]at this;exact this);(have t3:DataW.trod enc prog w base spare held n' 3 [c3]=some y3:=by have this:DataW.trod enc prog w base spare held n' 3 (([c0,c1,c2,c3].drop 3).take (prog.cellsOf 3))=some y3:=D 3 _ rfl;rw[C2]at this;exact this);obtain⟨z0,e0,f0,-⟩:=DataW.trod_int underlying3 t0;obtain⟨s1,e1,f1,-⟩:=DataW.trod_string underlying9 t1;obtain⟨A2,gl,I,l2,ga,e2,gg,O,gd,ge,gn⟩:=ih n' (by omega) _ _ t2;obtain⟨z3,e3,f3,-⟩:=DataW.trod_int underlying3 t3;simp only[qx,vy]at e0 e1 e2 e3;subst e0 e1 e2 e3 f0 f1 f3 gg;refine⟨(.mk z0 s1 l2 z3,.int .i64 z0,.string s1,.slice A2 l2.length I,.int .i64 z3),?_,?_,_,gT U,?_⟩
    ·unfold bG;exact⟨A2,I,ga,rfl,O,gd,ge⟩
    ·intro j u hu;have hj:j<4:=(List.getElem?_eq_some_iff.1 hu).1;have:=gk j hj;rw[Go.Deep.add_add]at this;rw[this];exact hu
    ·rw[hy];unfold lE;simp[Rows.uptoBulk,Rows.uptoBulkAll];omega
   obtain⟨l,J,hp⟩:=tF len key;refine⟨some a,len,cap,l.map (·.1),l.flatMap Mu,rfl,by simpa using J,hl,Et (uC (fun _=>rfl) (by omega) J (fun i h j u hu=>(hp i h).2.1 j u hu)) (by omega),ah.of_rows l (fun p hpm=>?_),?_⟩
   ·obtain⟨i,hi,rfl⟩:=List.mem_iff_getElem.1 hpm;exact(hp i hi).1
   ·have:=Ah (l.map (·.1)) (elems.map (·.1)) (by simp[J,M]) (fun i h h'=>by(have hi:i<l.length:=by simpa using h);obtain⟨e,he,hb⟩:=(hp i hi).2.2;(have gh:i<elems.length:=by simpa using h');rw[gT gh]at he;injection he with he;subst he;simpa using hb);unfold Rows.uptoBulk;omega
theorem wi{r:Reach}{b0:Nat}{v:Value}{d:DataW H}{p:List MemPlace}(hv:Value.okWide prog w r b0 24 v)(h:DataW.Trod enc prog w base spare held 24 v d p):
  ∃n:Nd,aF w v n/\lE n<=Rows.uptoBulk d:=by obtain⟨v0,v1,v2,v3,y0,y1,y2,y3,m,rfl,rfl,-,t0,t1,t2,t3⟩:=open_agg4 underlying24 (by kernel_rfl) FM hv h;obtain⟨z0,e0,f0,-⟩:=DataW.trod_int underlying3 t0;obtain⟨s1,e1,f1,-⟩:=DataW.trod_string underlying9 t1;obtain⟨A2,U,I,l2,J,e2,O,D,M,N,ga⟩:=Ib m m (gC _) _ _ t2;obtain⟨z3,e3,f3,-⟩:=DataW.trod_int underlying3 t3;simp only[qx,vy]at e0 e1 e2 e3;subst e0 e1 e2 e3 f0 f1 f3 O;refine⟨.mk z0 s1 l2 z3,⟨A2,I,J,rfl,D,M,N⟩,?_⟩;unfold lE;simp[Rows.uptoBulk,Rows.uptoBulkAll];omega
end
end
section
open Go.RowKit Go.Lib Go.Proofs
def fG:fK:=cI 200000
theorem R2{s:ByteArray}{L:List ef}(I:bZ s=.toks L)(E:cw)(w:World)(D:yV E w s L):nE E fG:=by have J:Mb E:=TP (by rw[D.c];exact fun t h=>PF (List.all_eq_true.1 (Ft I).2 t h));exact Uc E (Ia E D.tab D.base (by rw[D.c];exact D.good)) (G9 D.small) J 200000 (by omega)
def PG(s:ByteArray)(m:R Nd)(r:Nd->Bool):Prop:=bZ s≠.out/\∀L,bZ s=.toks L->∃n s1,m ⟨L,(s.size:Int)⟩ ⟨0,false,-1⟩=.ok n s1/\s1.at_=L.length/\r n=true/\lE n<=1048576
def Mx(s:ByteArray)(m:R Nd)(r:Nd->Bool):Bool:=match bZ s with
 | .toks L=>match m ⟨L,(s.size:Int)⟩ ⟨0,false,-1⟩with
   | .ok n s1=>decide (s1.at_=L.length)&&(r n&&decide (lE n<=1048576))
   | .out=>false
 | .err _ _=>true
 | .out=>false
theorem FN{s:ByteArray}{m:R Nd}{r:Nd->Bool}(h:Mx s m r=true):PG s m r:=by
 refine⟨fun I=>?_,fun L hL=>?_⟩
 ·unfold Mx at h;rw[I]at h;cases h
 unfold Mx at h;rw[hL]at h;simp only at h;cases D:m ⟨L,(s.size:Int)⟩ ⟨0,false,-1⟩with
 |out=>rw[D]at h;cases h
 |ok n s1=>rw[D]at h;simp only[gA,gD]at h;exact⟨n,s1,rfl,h.1,h.2.1,h.2.2⟩
theorem C3{s:ByteArray}{m:R Nd}{r:Nd->Bool}(h:PG s m r):∀L,bZ s=.toks L->∃n D,m ⟨L,(s.size:Int)⟩ ⟨0,false,-1⟩=.ok n D/\D.at_=L.length/\r n=true/\rn 101 n/\(aO 100 n).length<=1000000000:=by intro L hL;obtain⟨n,D,M,J,I,N⟩:=h.2 L hL;exact⟨n,D,M,J,I,rG 101 n (by omega),by have:=mq 100 n;omega⟩
theorem wm(A0:Option Addr)(c:Nat)(s:ByteArray)(w:World)(I:eK w A0 c s)(J:iY w)(D:s.size<=10000000000000000)(h:PG s (oN fG) bc):
  Calls prog 7 #[.slice A0 s.size c] w (fb w (pb fG s)):=
 Bb A0 c s w I J D fG h.1 (fun _ E w' ht hfr=>R2 ht E w' hfr) (C3 h)
theorem wn(s:ByteArray)(w:World)(I:iY w)(D:s.size<=10000000000000000)(h:PG s (fp fG.expr) bA):
  Calls prog 10 #[s] w (fb w (pc fG s)):=
 Bd s w I D fG h.1 (fun _ E w' ht hfr=>R2 ht E w' hfr) (C3 h)
def tx(l:List It):ByteArray:=dx (fl l)
theorem pU(l:List It):bytes (tx l)=fl l:=bX _
theorem Ff:tx []=(⟨#[]⟩:BA):=rfl
theorem bD(l m:List It):tx (l++m)=tx l++tx m:=by apply cQ;rw[aV,pU,pU,pU,iF]
theorem ay(a:It)(l:List It):tx (a::l)=tx [a]++tx l:=bD [a] l
theorem yh(k:Int)(x:ByteArray):tx [.tok k (bytes x)]=x:=by apply cQ;rw[pU];exact kE _
theorem oQ(x:ByteArray):tx [iq x]=x:=yh _ x
theorem Ok(x:ByteArray):tx [ow x]=x:=yh _ x
theorem DG(x:ByteArray):tx [f8 x]=x:=yh _ x
theorem Gm(b:UInt8):tx [cK b]=⟨#[b]⟩:=rfl
theorem yi:tx [aY]=(⟨#[32]⟩:BA):=rfl
theorem tw:tx ch=(⟨#[44,32]⟩:BA):=rfl
theorem Gn(x:ByteArray)(h:x≠(⟨#[]⟩:BA)):tx (dD x)=x++(⟨#[32]⟩:BA):=by unfold dD;rw[gB h,ay,oQ,yi]
theorem DH:tx (dD ⟨#[]⟩)=(⟨#[]⟩:BA):=rfl
theorem Ti{x:ByteArray}(h:x=(⟨#[]⟩:BA)\/x=(⟨#[126]⟩:BA)):tx (ig x)=x:=by
 rcases h with rfl|rfl
 ·rfl
 ·rfl
theorem DI(s:List It):∀(l:List (List It))(x:List It),l≠[]->cr s (l++[x])=cr s l++(s++x)
 |[],_,h=>absurd rfl h
 |[y],x,_=>rfl
 |y::z::l,x,_=>by have ih:=DI s (z::l) x (by simp);show y++(s++cr s (z::(l++[x])))=(y++(s++cr s (z::l)))++(s++x);rw[show z::(l++[x])=(z::l)++[x]from rfl,ih];simp only[gL]
def IQ(s:List It)(i:Nat):List It:=if i=0 then[]else s
theorem rR(s:List It){i:Nat}(h:i=0):tx (IQ s i)=(⟨#[]⟩:BA):=by unfold IQ;rw[gG h];rfl
theorem rS(s:List It){i:Nat}(h:0<i):tx (IQ s i)=tx s:=by unfold IQ;rw[gB (by omega)]
theorem tz{α:Type}(s:List It)(f:α->List It)(l:List α)(i:Nat)(h:i<l.length):
  tx (cr s ((l.take (i+1)).map f))=tx (cr s ((l.take i).map f))++(tx (IQ s i)++tx (f l[i])):=by
 rw[gU h,kS];unfold IQ;by_cases I:i=0
 ·subst I;rfl
 ·rw[gB I,jT,List.map_nil,DI _ _ _ (by
   intro D;rw[List.map_eq_nil_iff,List.take_eq_nil_iff]at D;rcases D with D|D
   ·exact I D
   ·rw[D]at h;exact absurd h (by simp)),bD,bD]
theorem ar(x y z:ByteArray):x++y++z=x++(y++z):=ByteArray.append_assoc
theorem oM(x:ByteArray):x++(⟨#[]⟩:BA)=x:=ByteArray.append_empty
theorem lR(x:ByteArray):(⟨#[]⟩:BA)++x=x:=ByteArray.empty_append
theorem Ol{α:Type}(s:List It)(f:α->List It)(l:List α)(i:Nat):∀j,i<=j->j<=l.length->(tx (cr s ((l.take i).map f))).size<=(tx (cr s ((l.take j).map f))).size
 |0,D,_=>by(obtain rfl:i=0:=by omega);exact gC _
 |j+1,D,I=>by
  rcases Nat.lt_or_eq_of_le D with h|rfl
  ·have:=Ol s f l i j (by omega) (by omega);rw[tz s f l j (by omega),gE];omega
  ·exact gC _
theorem lS{α:Type}(s:List It)(f:α->List It)(l:List α)(i:Nat)(h:i<=l.length):(tx (cr s ((l.take i).map f))).size<=(tx (cr s (l.map f))).size:=by
 have:=Ol s f l i l.length h (gC _)
 rwa [List.take_length]at this
theorem BZ{α:Type}(f:α->List It)(l:List α)(i:Nat)(h:i<l.length):tx ((l.take (i+1)).flatMap f)=tx ((l.take i).flatMap f)++tx (f l[i]):=by rw[gU h,kI,bD,jE,vq,kE]
theorem pV{α:Type}(f:α->List It)(l:List α)(i:Nat):(tx ((l.take i).flatMap f)).size<=(tx (l.flatMap f)).size:=by(conv=>rhs;rw[<-qN i l,kI,bD,gE]);exact Nat.le_add_right _ _
theorem pW{α:Type}(s:List It)(hs:1<=(tx s).size)(f:α->List It):∀l:List α,l.length<=(tx (cr s (l.map f))).size+1
 |[]=>gQ _
 |[x]=>Nat.le_add_left _ _
 |x::y::l=>by have ih:=pW s hs f (y::l);show l.length+1+1<=(tx (f x++(s++cr s ((y::l).map f)))).size+1;rw[bD,bD,gE,gE];rw[gO]at ih;omega
theorem ux{α:Type}(f:α->List It)(D:∀x,1<=(tx (f x)).size):∀l:List α,l.length<=(tx (l.flatMap f)).size
 |[]=>gQ _
 |x::l=>by have ih:=ux f D l;have:=D x;rw[jE,bD,gE,gO];omega
def K4(w:World)(b o:Nat)(x:Nd)(A:Option Addr)(c:Nat):Prop:=
 w.cell? ⟨b,o,none⟩=some (.int .i64 x.kind)/\w.cell? ⟨b,o+1,none⟩=some (.string x.text)/\w.cell? ⟨b,o+2,none⟩=some (.slice A x.kids.length c)/\w.cell? ⟨b,o+3,none⟩=some (.int .i64 x.pos) /\
  aF w (.agg #[x.kind,x.text,.slice A x.kids.length c,x.pos]) x
theorem K4.below{w w':World}{b o:Nat}{x:Nd}{A:Option Addr}{c:Nat}(h:K4 w b o x A c)(hb:Below w w w'):K4 w' b o x A c:=by obtain⟨M,J,I,D,N⟩:=h;exact⟨(hb.cell (jD w _ M)).trans M,(hb.cell (jD w _ J)).trans J,(hb.cell (jD w _ I)).trans I,(hb.cell (jD w _ D)).trans D,af.below N hb⟩
theorem ep{w:World}{A:Option Addr}{k p:Int}{t:ByteArray}{m cp:Nat}{n:Nd}(h:aF w (.agg #[k,t,.slice A m cp,p]) n)(i:Nat)(J:i<n.kids.length):
  ∃b off I D,A=some ⟨b,off,none⟩/\K4 w b (off+i*4) n.kids[i] I D:=by obtain⟨b,off,I,D,e,_,_,h0,U,O,N,M⟩:=(af.kidsV h).kid i J;exact⟨b,off,I,D,e,h0,U,O,N,M⟩
theorem TV{w:World}{A:Option Addr}{x y z:Nd}{k:Int}{t:ByteArray}{p:Int}{cp:Nat}(h:aF w (.agg #[k,t,.slice A 3 cp,p]) (.mk k t [x,y,z] p)):
  ∃b o O c1 N c2 M c3,A=some ⟨b,o,none⟩/\K4 w b o x O c1/\K4 w b (o+4) y N c2/\K4 w b (o+8) z M c3:=by obtain⟨bp,op,O,c1,rfl,J⟩:=ep h 0 (by simp);obtain⟨_,_,N,c2,e,I⟩:=ep h 1 (by simp);injection e with e;injection e with e1 e2;subst e1 e2;obtain⟨_,_,M,c3,e,D⟩:=ep h 2 (by simp);injection e with e;injection e with e1 e2;subst e1 e2;simp only[Nd.kids_mk,gN,kC,jF,gZ,qe,Nat.reduceMul]at J I D;exact⟨_,_,_,_,_,_,_,_,rfl,J,I,D⟩
theorem Fg{w:World}{A:Option Addr}{x y:Nd}{k:Int}{t:ByteArray}{p:Int}{cp:Nat}(h:aF w (.agg #[k,t,.slice A 2 cp,p]) (.mk k t [x,y] p)):
  ∃b o M c1 J c2,A=some ⟨b,o,none⟩/\K4 w b o x M c1/\K4 w b (o+4) y J c2:=by obtain⟨bp,op,M,c1,rfl,I⟩:=ep h 0 (by simp);obtain⟨_,_,J,c2,e,D⟩:=ep h 1 (by simp);injection e with e;injection e with e1 e2;subst e1 e2;simp only[Nd.kids_mk,gN,kC,jF,gZ,qe]at I D;exact⟨_,_,_,_,_,_,rfl,I,D⟩
def Ro(f:FuncId)(P:Nd->Bool)(I:Nd->List It):Prop:=
 ∀(v:Value)(n:Nd)(w:World),aF w v n->P n=true->(tx (I n)).size<=10000000000000000->Calls prog f #[v] w fun e w'=>e=.returned (.string (tx (I n)))/\Below w w w'
theorem Tj{F:cm}{so:ByteArray->Bool}{n:Nd}(h:d4 F so n=true):∃t x p,n=.mk 8 t [x] p/\so t=true/\F.typ x=true:=by obtain⟨t,l,a,rfl,hs,I⟩:=aJ (by decide) h;obtain⟨x,rfl,D⟩:=dW I;exact⟨t,x,a,rfl,hs,D⟩
end
section
def rH:ByteArray:=(⟨#[112,97,99,107,97,103,101,32,112,59,32,102,117,110,99,32,102,40,97,32,105,110,116,41,32,105,110,116,32,123,32,114,101,116,117,114,110,32,45,97,32,42,32,50,32,125]⟩:BA)
def Bm:ByteArray:=(⟨#[120,91,105,110,116,93,40,49,41]⟩:BA)
def TQ(r:uT):Bool:=match r with
 | .tree n=>decide (n.text=(⟨#[112]⟩:BA))&&match n.kids with
   |[k]=>decide (k.kind=2)
   |_=>false
 |_=>false
def TR(r:uT):Bool:=match r with
 | .tree n=>decide (n.kind=21)&&match n.kids with
   |k::_=>decide (k.kind=22)
   |_=>false
 |_=>false
theorem Ic:TR (pc fG Bm)=true:=by decide +kernel
theorem Id:TQ (pb fG rH)=true:=by decide +kernel
theorem C5:∃k b l a r,pb fG rH=.tree (.mk k ⟨#[112]⟩ [.mk 2 b l a] r):=by
 have h:=Id;cases I:pb fG rH with
 |bad p e=>rw[I]at h;exact absurd h Bool.false_ne_true
 |out=>rw[I]at h;exact absurd h Bool.false_ne_true
 |tree n=>
  rw[I]at h;obtain⟨k,t,l,r⟩:=n;unfold TQ at h;simp only[Nd.text_mk,Nd.kids_mk,gA]at h;obtain⟨J,D⟩:=h;have J:=of_decide_eq_true J;subst J;split at D
  ·rename_i q;obtain⟨N,b,M,a⟩:=q;have D:=of_decide_eq_true D;have D:N=2:=D;subst D;exact⟨k,b,M,a,r,rfl⟩
  ·cases D
theorem C6:∃t b l a q r,pc fG Bm=.tree (.mk 21 t (.mk 22 b l a::q) r):=by
 have h:=Ic;cases I:pc fG Bm with
 |bad p e=>rw[I]at h;exact absurd h Bool.false_ne_true
 |out=>rw[I]at h;exact absurd h Bool.false_ne_true
 |tree n=>
  rw[I]at h;obtain⟨k,t,l,r⟩:=n;unfold TR at h;simp only[Nd.kind_mk,Nd.kids_mk,gA]at h;obtain⟨J,D⟩:=h;have J:=of_decide_eq_true J;subst J;split at D
  ·rename_i q rest;obtain⟨N,b,M,a⟩:=q;have D:=of_decide_eq_true D;have D:N=22:=D;subst D;exact⟨t,b,M,a,rest,r,rfl⟩
  ·cases D
end
section
open Go.RowKit Go.Lib Go.Proofs Go.Joins
attribute [local go_sem ↓] Go.wp_at_zero Go.wp_at_succ
attribute [local go_sem] bu bv bw bz
def C7:Array Value:=#[.int .u8 112,.int .u8 97,.int .u8 99,.int .u8 107,.int .u8 97,.int .u8 103,.int .u8 101,.int .u8 32,.int .u8 112,.int .u8 59,.int .u8 32,.int .u8 102,.int .u8 117,.int .u8 110,.int .u8 99,.int .u8 32,.int .u8 102,.int .u8 40,.int .u8 97,.int .u8 32,.int .u8 105,.int .u8 110,.int .u8 116,.int .u8 41,.int .u8 32,.int .u8 105,.int .u8 110,.int .u8 116,.int .u8 32,.int .u8 123,.int .u8 32,.int .u8 114,.int .u8 101,.int .u8 116,.int .u8 117,.int .u8 114,.int .u8 110,.int .u8 32,.int .u8 45,.int .u8 97,.int .u8 32,.int .u8 42,.int .u8 32,.int .u8 50,.int .u8 32,.int .u8 125]
theorem Ie:C7=rH.data.map fun b=>.int .u8 (b.toNat:Int):=by kernel_rfl
theorem Eu(w:World):eK (w.alloc (.cells C7 5 (46,47))) (some ⟨w,0,none⟩) 46 rH:=by refine .inr ⟨w.heap.size,0,rfl,by decide +kernel,by simp,fun i hi=>?_⟩;have h:=World.cell?_alloc_mark w C7 5 (46,47) (0+i);rw[h,Ie,kR,Array.getElem?_map,Array.getElem?_eq_getElem (xs:=rH.data) hi];rfl
theorem Ev(w:World)(hT:iY w):Calls prog 11 #[] w fun e w'=>e=.returned (.bool true)/\Below w w w':=by have ge:Below w w (w.alloc (.cells C7 5 (46,47))):=(gH _ _).alloc (gC _) _;have HF:=wm (some ⟨w,0,none⟩) 46 rH (w.alloc (.cells C7 5 (46,47))) (Eu w) (hT.below ge) (by decide +kernel) (FN (by decide +kernel));obtain⟨k0,b0,l0,a0,r0,hf⟩:=C5;obtain⟨t1,b1,l1,a1,q1,r1,hx⟩:=C6;rw[hf]at HF;have HF:Calls prog 7 #[.slice (some ⟨w,0,none⟩) 46 46] (w.alloc (.cells C7 5 (46,47))) _:=HF;have HF:=hid HF;have HX:=hid (fun W(hW:iY W)=>wn Bm W hW (by decide +kernel) (FN (by decide +kernel)));rw[hx]at HX;have gn:=hid hT;have gg:=run_convert_bytes_const_at (P:=prog) w 27 5 C7 46 46 w.heap.size rfl underlying27 underlying5;unfold C7 at gg;clear hf hx hT;(go_enter func11,ntmps11);go_wp2_with fail;refine HF.out.mono ?_;rintro e w1⟨v,rfl,hv,gh⟩;have gd:=au ge gh;obtain⟨A,cp,rfl,hC⟩:=hv.toC;obtain⟨h,D,A2,gq,rfl,-,U,q0,-,-,-,-⟩:=hv.kidsV.kid 0 (by simp);simp only[Nd.kids_mk,gN,Nd.kind_mk,jF,gZ]at q0;simp only[Nd.kids_mk,Nd.kind_mk,Nd.text_mk,Nd.pos_mk,gO,qd,kR];have gb:=gd.alloc gd.size (.cells #[.int .i64 k0,.string ⟨#[112]⟩,.slice (some ⟨h,D,none⟩) 1 cp,.int .i64 r0] 24);have gk:=(aj w1 #[.int .i64 k0,.string ⟨#[112]⟩,.slice (some ⟨h,D,none⟩) 1 cp,.int .i64 r0]).2;have q2:=(((gH _ w1).alloc (gC _) (.cells #[.int .i64 k0,.string ⟨#[112]⟩,.slice (some ⟨h,D,none⟩) 1 cp,.int .i64 r0] 24)).cell (p:=⟨h,D,none⟩) U).trans q0;(have J:h<(w1.alloc (.cells #[.int .i64 k0,.string ⟨#[112]⟩,.slice (some ⟨h,D,none⟩) 1 cp,.int .i64 r0] 24)).heap.size:=by simp;omega);have gl:=hid (HX.out _ (gn.out.below gb));clear gh HF ge gd hC gg hv q0 HX U;go_wp2_with fail;refine gl.out.mono ?_;rintro e w2⟨v,rfl,hv,M⟩;clear gl;have ga:=au gb M;obtain⟨A,N,rfl,hC⟩:=hv.toC;obtain⟨b4,I,A4,gp,rfl,-,O,q4,-,-,-,-⟩:=hv.kidsV.kid 0 (by simp);simp only[Nd.kids_mk,gN,Nd.kind_mk,jF,gZ]at q4;simp only[Nd.kids_mk,Nd.kind_mk,Nd.text_mk,Nd.pos_mk,gO];have gj:=(gk.bl M).alloc (.cells #[.int .i64 21,.string t1,.slice (some ⟨b4,I,none⟩) (q1.length+1) N,.int .i64 r1] 24);have gi:=(aj w2 #[.int .i64 21,.string t1,.slice (some ⟨b4,I,none⟩) (q1.length+1) N,.int .i64 r1]).2;have hA:Below w2 w2 (w2.alloc (.cells #[.int .i64 21,.string t1,.slice (some ⟨b4,I,none⟩) (q1.length+1) N,.int .i64 r1] 24)):=(gH _ w2).alloc (gC _) _;have q3:=(hA.cell (p:=⟨h,D,none⟩) (kK J M.size)).trans ((M.cell (p:=⟨h,D,none⟩) J).trans q2);have q5:=(hA.cell (p:=⟨b4,I,none⟩) O).trans q4;have gm:=ga.alloc ga.size (.cells #[.int .i64 21,.string t1,.slice (some ⟨b4,I,none⟩) (q1.length+1) N,.int .i64 r1] 24);obtain⟨x0,x1,x2,x3,-,-,-,-⟩:=ab gj;obtain⟨y0,y1,y2,y3,-,-,-,-⟩:=ab gi;clear gb ga gk gj gi hA hC hv q2 q4 M J O;go_wp2_with fail;go_ret;exact⟨rfl,gm⟩
def SD(w:World):Prop:=∀w',Below w w w'->Calls prog 11 #[] w' fun e w''=>e=.returned (.bool true)/\Below w' w' w''
theorem SE(w:World)(D:iY w):SD w:=fun _ hb=>Ev _ (D.below hb)
theorem If(W1:World)(t:ByteArray):∃(W2:World)(A2:Option Addr)(c2:Nat),(Go.convert 9 27 (.string t)).run prog W1=.ok (.slice A2 t.size c2) W2/\eK W2 A2 c2 t/\Below W1 W1 W2/\W2.heap.size=W1.heap.size+1:=
 ⟨_,_,_,run_bytes_of_string (P:=prog) W1 9 27 5 t underlying9 underlying27 underlying5,rv t _,((gH _ _).drew.alloc (gC _) _),by show(W1.heap.push _).size=_;simp⟩
end
section
open Go.Lib
theorem Ao(p:Int):o6 ⟨6,⟨#[10]⟩,p⟩=false:=by show o6 ⟨6,⟨#[10]⟩,0⟩=false;decide +kernel
theorem nj(l:List ef)(t:ef):dU (l++[t])=o6 t:=by unfold dU;rw[List.getLast?_concat]
theorem De{l:List ef}(h:dU l=false)(p:Int):lk l p=l:=by unfold lk;rw[h];rfl
theorem sZ{s:ByteArray}{g i j:Nat}{l l':List ef}(D:i<s.size)(h:fN s i l=.go j l'):fO s (g+1) i l=fO s g j l':=by rw[fO,gG D,h]
theorem Ap{s:ByteArray}{i:Nat}{l:List ef}(D:aI s i=10):fN s i l=.go (i+1) (lk l i):=by unfold fN;rw[gG D]
theorem EA{s:ByteArray}{i:Nat}{l:List ef}(D:aI s i=32):fN s i l=.go (i+1) l:=by unfold fN;rw[gB (by omega),gG (.inl D)]
section
variable {c:UInt8} (s:ByteArray)
variable (hs:s.size<=1500) (h9:0<s.size->aI s 0≠239)
include hs h9
end
def oV(k:Int)(x:List UInt8):Bool:=o6 ⟨k,dx x,0⟩
def mE:List UInt8->Bool
 |[]=>false
 |a::r=>aL (a.toNat:Int)&&r.all fun c=>a7 (c.toNat:Int)
def SG:List UInt8->Bool
 |[]=>false
 |a::r=>aC (a.toNat:Int)&&r.all fun c=>a7 (c.toNat:Int)
def tR:List UInt8->Bool
 |[]=>true
 |b::_ =>!(a7 (b.toNat:Int))
def po:List UInt8->Bool
 |[]=>false
 |b::_ =>!(a7 (b.toNat:Int))&&(b != 10&&(b != 32&&(b != 9&&(b != 13&&(b != 34&&b != 96)))))
inductive ii(r:List UInt8):Int->List UInt8->Prop where
 |word {x:List UInt8} (h:mE x=true) (hr:tR r=true):ii r (bW (dx x)+1) x
 |num {x:List UInt8} (h:SG x=true) (hr:tR r=true):ii r 4 x
 |text {y:List UInt8} (h:∀r,dj (y++34::r) false 0=some y.length):ii r 5 (34::y++[34])
 |sign {x:List UInt8} (h:po x=true) (hl:rg (x++r)=x.length) (h1:hasPrefix (x++r) [47,47]=false) (h2:hasPrefix (x++r) [47,42]=false):ii r 6 x
def bg:Bool->List It->List UInt8->Prop
 |_,[],_=>True
 |e,.nl::z,r=>e=true/\bg false z r
 |e,.gap b::z,r=>(b=32\/b=9\/(b=10/\e=false))/\bg e z r
 |_,.tok k x::z,r=>ii (fl z++r) k x/\bg (oV k x) z r
def dQ:Nat->List It->List ef
 |_,[]=>[]
 |i,.tok k x::z=>⟨k,dx x,(i:Int)⟩::dQ (i+x.length) z
 |i,.gap _::z=>dQ (i+1) z
 |i,.nl::z=>⟨6,⟨#[10]⟩,(i:Int)⟩::dQ (i+1) z
theorem rh{p:UInt8->Bool}:∀(x r:List UInt8),x.all p=true->(∀b q,r=b::q->p b=false)->(x++r).takeWhile p=x
 |[],r,_,h=>by
  cases r with
  |nil=>rfl
  |cons b q=>rw[qR,qG,h b q rfl];rfl
 |a::x,r,D,h=>by rw[jX,gA]at D;rw[jJ,qG,gG D.1,rh x r D.2 h]
theorem ws{x r:List UInt8}(I:x.all (fun c=>a7 (c.toNat:Int))=true)(D:tR r=true):d5 (x++r)=x.length:=by unfold d5;rw[rh x r I];rintro b q rfl;unfold tR at D;simpa using D
section
variable {t:ByteArray} {i:Nat}
theorem iV:aI t i=(((bytes t).drop i).getD 0 0).toNat:=by rw[pm,jB,jB,List.getElem?_drop,gZ]
theorem mr{a:UInt8}{r:List UInt8}(h:(bytes t).drop i=a::r):i<t.size:=by
 rcases kL i t.size with D|D
 ·exact D
 ·rw[kz (by rw[dL];exact D)]at h;cases h
theorem Bt{x r:List UInt8}(h:(bytes t).drop i=x++r){j:Nat}(D:j=i+x.length):t.extract i j=dx x:=by subst D;apply cQ;rw[lO,bX,h,Nat.add_sub_cancel_left,List.take_left]
theorem PJ{x r:List UInt8}(h:(bytes t).drop i=x++r):(bytes t).drop (i+x.length)=r:=by rw[<-List.drop_drop,h,List.drop_left]
theorem Ig{b:UInt8}(h:aL (b.toNat:Int)=true):65<=b.toNat/\b.toNat≠96:=by unfold aL at h;simp only[gI,gA,kO,gD]at h;omega
theorem Ih{b:UInt8}(h:aC (b.toNat:Int)=true):48<=b.toNat/\b.toNat<=57/\aL (b.toNat:Int)=false:=by unfold aC at h;simp only[gA,gD]at h;refine⟨by omega,by omega,?_⟩;unfold aL;(have J:((b.toNat:Int)==95)=false:=by rw[gF];omega);(have I:decide (97<=(b.toNat:Int))=false:=by rw[gK];omega);(have D:decide (65<=(b.toNat:Int))=false:=by rw[gK];omega);rw[J,I,D];rfl
theorem nN{b:UInt8}{n:Nat}(D:n<256)(h:b≠UInt8.ofNat n):b.toNat≠n:=by intro e;apply h;apply UInt8.toNat_inj.1;rw[e,UInt8.toNat_ofNat'];omega
theorem uk(I:hasPrefix ((bytes t).drop i) [47,47]=false)(D:hasPrefix ((bytes t).drop i) [47,42]=false):¬ tI t i=true:=by unfold tI;rw[show hasPrefix (t.data.toList.drop i) [47,47]=false from I,show hasPrefix (t.data.toList.drop i) [47,42]=false from D];decide
theorem ul{a:Nat}(J:a≠13)(I:a≠96)(D:¬ tI t i=true):¬ (a=13\/a=96\/tI t i=true):=fun h=>h.elim J fun h=>h.elim I D
theorem iW{a b:UInt8}{p r:List UInt8}(h:a.toNat≠b.toNat):hasPrefix (a::r) (b::p)=false:=by unfold hasPrefix;rw[List.isPrefixOf,show(b==a)=false from beq_eq_false_iff_ne.2 fun e=>h (by rw[e])];rfl
theorem MF{l:List ef}{k:Int}{x r:List UInt8}(hd:(bytes t).drop i=x++r)(h:ii r k x):
  i<t.size/\fN t i l=.go (i+x.length) (l++[⟨k,dx x,(i:Int)⟩]):=by
 unfold fN;cases h with
 |word D hr=>
  cases x with
  |nil=>cases D
  |cons a y=>have ga:=D;unfold mE at D;rw[gA]at D;(have hb:aI t i=a.toNat:=by rw[iV,hd];rfl);have N:=Ig D.1;(have I:d5 (t.data.toList.drop i)=(a::y).length:=by rw[show t.data.toList.drop i=a::y++r from hd];refine ws ?_ hr;rw[jX,D.2];unfold a7;rw[D.1];rfl);refine⟨mr hd,?_⟩;rw[hb,gB (by omega),gB (by omega),gB (ul (by omega) (by omega) (uk (by rw[hd];exact iW (by show a.toNat≠47;omega)) (by rw[hd];exact iW (by show a.toNat≠47;omega))))];rw[gG D.1,I,Bt hd rfl]
 |num D hr=>
  cases x with
  |nil=>cases D
  |cons a y=>unfold SG at D;rw[gA]at D;(have hb:aI t i=a.toNat:=by rw[iV,hd];rfl);have N:=Ih D.1;(have I:d5 (t.data.toList.drop i)=(a::y).length:=by rw[show t.data.toList.drop i=a::y++r from hd];refine ws ?_ hr;rw[jX,D.2];unfold a7;rw[D.1];simp);refine⟨mr hd,?_⟩;rw[hb,gB (by omega),gB (by omega),gB (ul (by omega) (by omega) (uk (by rw[hd];exact iW (by show a.toNat≠47;omega)) (by rw[hd];exact iW (by show a.toNat≠47;omega))))];rw[gB (by rw[N.2.2];decide),gG D.1,I,Bt hd rfl]
 |@text y hq=>have J:(bytes t).drop i=34::(y++[34]++r):=hd;(have hb:aI t i=34:=by rw[iV,J];rfl);refine⟨mr J,?_⟩;rw[hb,gB (by decide),gB (by decide),gB (ul (by decide) (by decide) (uk (by rw[J];exact iW (by decide)) (by rw[J];exact iW (by decide)))),gB (by decide),gB (by decide),gG rfl];unfold Fr;rw[show t.data.toList.drop (i+1)=y++34::r by show(bytes t).drop (i+1)=_;rw[<-List.drop_drop,J];simp,hq];simp only;(have I:(34::y++[34]).length=y.length+2:=by simp);rw[Bt hd (by rw[I];omega),I];rfl
 |sign D hl h1 h2=>
  cases x with
  |nil=>cases D
  |cons a y=>unfold po at D;simp only[gA,qD,vc,ne_eq]at D;obtain⟨M,n1,U,O,n4,n5,n6⟩:=D;(have hb:aI t i=a.toNat:=by rw[iV,hd];rfl);have m1:a.toNat≠10:=nN (n:=10) (by decide) n1;have m2:a.toNat≠32:=nN (n:=32) (by decide) U;have m3:a.toNat≠9:=nN (n:=9) (by decide) O;have m4:a.toNat≠13:=nN (n:=13) (by decide) n4;have m5:a.toNat≠34:=nN (n:=34) (by decide) n5;have m6:a.toNat≠96:=nN (n:=96) (by decide) n6;unfold a7 at M;rw[kZ]at M;refine⟨mr hd,?_⟩;rw[hb,gB m1,gB (by omega),gB (ul m4 m6 (uk (by rw[hd];exact h1) (by rw[hd];exact h2))),gB (by rw[M.1];decide),gB (by rw[M.2];decide),gB (by omega)];unfold Fq;rw[Bn,hd,hl,gB (by simp),Bt hd rfl]
end
theorem MG(k:Int)(x:ByteArray)(p q:Int):o6 ⟨k,x,p⟩=o6 ⟨k,x,q⟩:=rfl
theorem su{t:ByteArray}:∀(z:List It)(e:Bool)(i:Nat)(l:List ef)(r:List UInt8),(bytes t).drop i=fl z++r->dU l=e->bg e z r->∀g,
  fO t (g+z.length) i l=fO t g (i+(fl z).length) (l++dQ i z)
 |[],e,i,l,r,_,_,_,g=>by show fO t g i l=fO t g (i+0) (l++[]);rw[kE,gZ]
 | a::z,e,i,l,r,hd,U,O,g=>by
  rw[dg,gL]at hd;have N:=PJ hd;rw[show g+(a::z).length=g+z.length+1 from rfl,dg,gM,<-Nat.add_assoc];cases a with
  |tok k x=>obtain⟨J,D⟩:=O;obtain⟨h1,h2⟩:=MF (l:=l) hd J;rw[sZ h1 h2,su z (oV k x) _ _ r N (by rw[nj];exact MG _ _ _ _) D,gL];rfl
  | gap b=>
   obtain⟨J,D⟩:=O;have I:(bytes t).drop i=b::(fl z++r):=hd;(have hb:aI t i=b.toNat:=by rw[iV,I];rfl);have M:fN t i l=.go (i+1) l:=by
    rcases J with rfl|rfl|⟨rfl,rfl⟩
    ·exact EA hb
    ·unfold fN;rw[gB (by rw[hb];decide),gG (by rw[hb];decide)]
    ·rw[Ap hb,De U]
   rw[sZ (mr I) M];exact su z e _ _ r N U D g
  |nl=>obtain⟨rfl,D⟩:=O;have I:(bytes t).drop i=10::(fl z++r):=hd;(have hb:aI t i=10:=by rw[iV,I];rfl);(have M:fN t i l=.go (i+1) (l++[⟨6,⟨#[10]⟩,(i:Int)⟩]):=by rw[Ap hb];unfold lk;rw[U,gG rfl]);have h:=su z false (i+1) (l++[⟨6,⟨#[10]⟩,(i:Int)⟩]) r N (by rw[nj];exact Ao _) D g;rw[sZ (mr I) M,h,gL];rfl
theorem Df{t:ByteArray}{z:List It}(hb:bytes t=fl z)(O:t.size<=65536)(U:d8 (bytes t)=true)(M:bg false z []):ll t=.toks (lk (dQ 0 z) (t.size:Int)):=by
 have J:∀(z:List It)(e:Bool)(r:List UInt8),bg e z r->z.length<=(fl z).length:=by
  intro z;induction z with
  |nil=>intro e r _;simp
  | cons a z ih=>
   intro e r h;rw[dg,gM,gO];cases a with
   | tok k x=>
    have N:=ih _ _ h.2;have h1:0<x.length:=by
     cases h.1 with
     | word D _=>cases x with
       |nil=>cases D
       |cons _ _=>simp
     | num D _=>cases x with
       |nil=>cases D
       |cons _ _=>simp
     |text _=>simp
     | sign D _ _ _=>cases x with
       |nil=>cases D
       |cons _ _=>simp
    show z.length+1<=x.length+_;omega
   |gap b=>have N:=ih _ _ h.2;show z.length+1<=1+_;omega
   |nl=>have N:=ih _ _ h.2;show z.length+1<=1+_;omega
 have hl:=J z false [] M;(have I:(fl z).length=t.size:=by rw[<-hb,dL]);unfold ll;rw[gB (by omega),gG U,show t.size+1=t.size-z.length+1+z.length by omega,su z false 0 [] [] (by rw[qu,kE];exact hb) rfl M,I,kR,fO,gB (Nat.lt_irrefl _)];rfl
end
end Go.Proofs.YteialcjaiocjdaaGreatDoor
