/-
  Parts of the proof: Gopen Pfile Pexpr Pwc Pawk Pawake Pnt. By an AI agent.
-/
import Derived.Test.YtiebcdeafofgdaaGreatDoorRows
import Derived.Test.YtiebcdeafofgdaaGreatDoorJ07
import Derived.Test.YtiebcdeafofgdaaGreatDoorJ00
import Derived.Test.YtiebcdeafofgdaaGreatDoorJ32
import Derived.Test.YtiebcdeafofgdaaGreatDoorJ33
import Derived.Test.YtiebcdeafofgdaaGreatDoorJ34
import Derived.Test.YtiebcdeafofgdaaGreatDoorJ09
import Derived.Lib.SmallJoins
open Go.Proofs.Tryz
set_option maxRecDepth 100000
set_option maxHeartbeats 8000000
namespace Go.Proofs.YtiebcdeafofgdaaGreatDoor
section
open Go.RowKit Go.ChangeShapes Go.WideShapes Go.Deep Go.Joins
theorem gD:type_of% @ByteArray.size_append:=@ByteArray.size_append
mutual
def mn:Nd->Nat
 | .mk _ t l _=>t.size+m7 l+1
def m7:List Nd->Nat
 |[]=>0
 |n::l=>mn n+m7 l
end
theorem AK(n:Nd):mn n=n.text.size+m7 n.kids+1:=by cases n;unfold mn;rfl
theorem Cz:∀l:List Nd,l.length<=m7 l
 |[]=>by simp
 |n::l=>by have:=Cz l;have:=AK n;unfold m7;rw[gS];omega
theorem CA:∀{l:List Nd}{n:Nd},n∈l->mn n<=m7 l
 |m::l,n,h=>by
  unfold m7;rcases List.mem_cons.1 h with rfl|h
  ·omega
  ·have:=CA h;omega
theorem pD:∀(g:Nat)(n:Nd),(aP g n).length<=mn n
 |0,n=>by simp[aP]
 | g+1,n=>by
  have key:∀l:List Nd,(l.flatMap (aP g)).length<=m7 l:=by
   intro l;induction l with
   |nil=>simp
   |cons m l ih=>have:=pD g m;rw[jH,gL];unfold m7;omega
  have:=key n.kids;unfold aP;rw[gS,AK];omega
theorem uT:∀(g:Nat)(n:Nd),mn n<=1000000000->sF g n
 |0,n,_=>by unfold sF;trivial
 |g+1,n,h=>by have e:=AK n;have:=Cz n.kids;unfold sF;refine⟨⟨by omega,by omega⟩,fun k hk=>uT g k ?_⟩;have:=CA hk;omega
def L8(p:Nd×Value×Value×Value×Value):List Value:=[p.2.1,p.2.2.1,p.2.2.2.1,p.2.2.2.2]
theorem ag.of_rows{X:Nat->Prop}{w:World}:∀l:List (Nd×Value×Value×Value×Value),(∀p∈l,bo X w p.1 (L8 p)) ->
  ag X w (l.map (·.1)) (l.flatMap L8)
 |[],_=>ag.nil
 |p::l,h=>by rw[kE,jH];exact ag.cons (h p (by simp)) (ag.of_rows l fun q hq=>h q (by simp[hq]))
section
variable {H:Type} {enc:TypeId×Value->H} {w:World} {base:Nat} {spare:Nat->Bool} {held:Bool}
theorem yK:∀(l:List Nd)(m:List (DataW H)),l.length=m.length->(∀i(h:i<l.length)(h':i<m.length),mn l[i]<=Rows.uptoBulk m[i])->m7 l<=Rows.uptoBulkAll m
 |[],_,_,_=>by unfold m7;exact gP _
 |n::l,[],h,_=>by simp at h
 |n::l,d::m,h,D=>by have I:=D 0 (by simp) (by simp);(have J:=yK l m (by simpa using h) fun i h h'=>by have:=D (i+1) (by simpa using h) (by simpa using h');simpa using this);unfold m7 Rows.uptoBulkAll;simp at I;omega
theorem Fa:prog.cellsOf 24=4:=by kernel_rfl
theorem CC:prog.cellsOf 3=1:=by kernel_rfl
theorem L9:prog.cellsOf 9=1:=by kernel_rfl
theorem Ma:prog.cellsOf 22=1:=by kernel_rfl
theorem D8{A:Option Addr}{B n sz:Nat}{xs:List Value}(h:bZ w B sz A n xs)(hs:0<sz):eW (fun _=>True) w sz A n xs:=by
 refine⟨h.1,fun J=>?_⟩;obtain⟨ad,O,hb,M⟩:=h.2 J;(have N:0<xs.length:=by rw[h.1];exact Nat.mul_pos J hs);have U:=M 0 xs[0] (gN N);have D:=nM (show w.cell? ad=some xs[0]from U);obtain⟨b,o,s⟩:=ad;(have I:s=none:=by simpa using D);subst I;refine⟨b,o,O,trivial,fun j u hu=>?_⟩;have:=M j u hu
 rwa [oI]at this
theorem Rs{α:Type}:∀{l:List α},l.length=4->∃a b c d,l=[a,b,c,d]
 |[a,b,c,d],_=>⟨a,b,c,d,rfl⟩
theorem GP:∀(N fuel:Nat),fuel<=N->∀(cs:List Value)(x:DataW H×List MemPlace),DataW.trod enc prog w base spare held fuel 22 cs=some x ->
  ∃(A:Option Addr)(len cap:Nat)(l:List Nd)(xs:List Value),cs=[.slice A len cap]/\l.length=len/\len<=cap/\eW (fun _=>True) w 4 A len xs/\ag (fun _=>True) w l xs/\m7 l<=Rows.uptoBulk x.1:=by
 intro N;induction N with
 |zero=>
  intro fuel hN cs x h;rcases DataW.trod_slice underlying22 h with⟨rfl,rfl⟩|⟨a,len,cap,elems,rest,n,hf,_⟩
  ·exact⟨none,0,0,[],[],rfl,rfl,gA _,⟨rfl,fun h=>absurd h (by simp)⟩,ag.nil,by unfold m7;exact gP _⟩
  ·omega
 | succ N ih=>
  intro fuel hN cs x h;rcases DataW.trod_slice underlying22 h with⟨rfl,rfl⟩|⟨a,len,cap,elems,rest,n,hf,rfl,rfl,hb,hl,hm,M,gi,-,-⟩
  ·exact⟨none,0,0,[],[],rfl,rfl,gA _,⟨rfl,fun h=>absurd h (by simp)⟩,ag.nil,by unfold m7;exact gP _⟩
  ·have key:∀i,i<len->∃p:Nd×Value×Value×Value×Value,bo (fun _=>True) w p.1 (L8 p)/\(∀j u,(L8 p)[j]? = some u->w.cell? (a.add (i*4+j))=some u)/\∃e,elems[i]? = some e/\mn p.1<=Rows.uptoBulk e.1:=by
    intro i hi;have h1:=gi i hi;(have U:i<elems.length:=by omega);rw[gN U,Option.bind_eq_some_iff,Fa]at h1;obtain⟨cs',hc,ht⟩:=h1;obtain⟨-,gj,gk⟩:=World.cells?_some hc;obtain⟨ys,n',gm,hy,-,gb,D⟩:=DataW.trod_struct underlying24 ht;obtain⟨c0,c1,c2,c3,rfl⟩:=Rs gj;obtain⟨y0,y1,y2,y3,rfl⟩:=Rs (show ys.length=4 from gb);(have t0:DataW.trod enc prog w base spare held n' 3 [c0]=some y0:=by have this:DataW.trod enc prog w base spare held n' 3 (([c0,c1,c2,c3].drop 0).take (prog.cellsOf 3))=some y0:=D 0 _ rfl;rw[CC]at this;exact this);(have t1:DataW.trod enc prog w base spare held n' 9 [c1]=some y1:=by have this:DataW.trod enc prog w base spare held n' 9 (([c0,c1,c2,c3].drop 1).take (prog.cellsOf 9))=some y1:=D 1 _ rfl;rw[L9]at this;exact this);(have t2:DataW.trod enc prog w base spare held n' 22 [c2]=some y2:=by have this:DataW.trod enc prog w base spare held n' 22 (([c0,c1,c2,c3].drop 2).take (prog.cellsOf 22))=some y2:=D 2 _ rfl;rw[Ma]at this;exact this);(have t3:DataW.trod enc prog w base spare held n' 3 [c3]=some y3:=by have this:DataW.trod enc prog w base spare held n' 3 (([c0,c1,c2,c3].drop 3).take (prog.cellsOf 3))=some y3:=D 3 _ rfl;rw[CC]at this;exact this);obtain⟨z0,e0,f0,-⟩:=DataW.trod_int underlying3 t0;obtain⟨s1,e1,f1,-⟩:=DataW.trod_string underlying9 t1;obtain⟨A2,gl,I,l2,ga,e2,gg,O,gd,ge,gn⟩:=ih n' (by omega) _ _ t2;obtain⟨z3,e3,f3,-⟩:=DataW.trod_int underlying3 t3;simp only[qD,vD]at e0 e1 e2 e3;subst e0 e1 e2 e3 f0 f1 f3 gg;refine⟨(.mk z0 s1 l2 z3,.int .i64 z0,.string s1,.slice A2 l2.length I,.int .i64 z3),?_,?_,_,gN U,?_⟩
    ·unfold bo;exact⟨A2,I,ga,rfl,O,gd,ge⟩
    ·intro j u hu;have hj:j<4:=(List.getElem?_eq_some_iff.1 hu).1;have:=gk j hj;rw[Go.Deep.add_add]at this;rw[this];exact hu
    ·rw[hy];unfold mn;simp[Rows.uptoBulk,Rows.uptoBulkAll];omega
   obtain⟨l,J,hp⟩:=tn len key;refine⟨some a,len,cap,l.map (·.1),l.flatMap L8,rfl,by simpa using J,hl,D8 (ui (fun _=>rfl) (by omega) J (fun i h j u hu=>(hp i h).2.1 j u hu)) (by omega),ag.of_rows l (fun p hpm=>?_),?_⟩
   ·obtain⟨i,hi,rfl⟩:=List.mem_iff_getElem.1 hpm;exact(hp i hi).1
   ·have:=yK (l.map (·.1)) (elems.map (·.1)) (by simp[J,M]) (fun i h h'=>by(have hi:i<l.length:=by simpa using h);obtain⟨e,he,hb⟩:=(hp i hi).2.2;(have gh:i<elems.length:=by simpa using h');rw[gN gh]at he;injection he with he;subst he;simpa using hb);unfold Rows.uptoBulk;omega
theorem Ea{r:Reach}{b0:Nat}{v:Value}{d:DataW H}{p:List MemPlace}(hv:Value.okWide prog w r b0 24 v)(h:DataW.Trod enc prog w base spare held 24 v d p):
  ∃n:Nd,aF w v n/\mn n<=Rows.uptoBulk d:=by obtain⟨v0,v1,v2,v3,y0,y1,y2,y3,m,rfl,rfl,-,t0,t1,t2,t3⟩:=open_agg4 underlying24 (by kernel_rfl) Fa hv h;obtain⟨z0,e0,f0,-⟩:=DataW.trod_int underlying3 t0;obtain⟨s1,e1,f1,-⟩:=DataW.trod_string underlying9 t1;obtain⟨A2,U,I,l2,J,e2,O,D,M,N,ga⟩:=GP m m (gA _) _ _ t2;obtain⟨z3,e3,f3,-⟩:=DataW.trod_int underlying3 t3;simp only[qD,vD]at e0 e1 e2 e3;subst e0 e1 e2 e3 f0 f1 f3 O;refine⟨.mk z0 s1 l2 z3,⟨A2,I,J,rfl,D,M,N⟩,?_⟩;unfold mn;simp[Rows.uptoBulk,Rows.uptoBulkAll];omega
end
end
section
open Go.RowKit Go.Lib Go.Proofs
def fG:iE:=di 200000
theorem Pk{s:ByteArray}{L:List cO}(h:cV s=.toks L):fy s=.toks L:=by
 unfold cV at h;cases hs:fy s with
 |err p n=>rw[hs]at h;cases h
 |toks L'=>
  rw[hs]at h;simp only at h;split at h
  ·cases h
  ·injection h with h;rw[h]
theorem Mb{s:ByteArray}{L:List cO}(h:fy s=.toks L):s.size<=65536/\L.length<=65537/\∀t∈L,t.text.size<=65536:=by
 refine⟨?_,?_,tz h⟩
 ·unfold fy at h;split at h
  ·cases h
  ·omega
 ·unfold fy at h;split at h
  ·cases h
  ·split at h
   ·cases h
   ·cases hs:dG s (s.size+1) 0 []with
    |bad p=>rw[hs]at h;cases h
    | ok l=>
     rw [hs]at h;injection h with h;subst h;have key:∀(g i:Nat)(l r:List cO),i<=s.size->lR i l->dG s g i l=.ok r->r.length<=s.size+1:=by
      intro g;induction g with
      |zero=>intro i l r _ _ h;cases h
      | succ g ih=>
       intro i l r hi hv h;unfold dG at h;split at h
       ·rename_i I;cases D:ey s i l with
        |bad p=>rw[D]at h;cases h
        |go j l'=>rw[D]at h;obtain⟨N,M,J⟩:=rP s i l (by omega) I hv j l' D;exact ih j l' r M J h
       ·injection h with h;subst h;have:=hv.1;unfold dY;split
        ·rw[gL];simp;omega
        ·omega
     have:=key _ _ _ _ (gP _) ⟨by simp,fun t ht=>by simp at ht⟩ hs;omega
theorem Rt{s:ByteArray}{L:List cO}(I:cV s=.toks L)(E:cy)(w:World)(D:yA E w s L):pw E fG:=by have J:Ln E:=Tp (by rw[D.c];exact(GO (Pk I)).nb);exact TU E (Gx E D.tab D.base D.small) (GM D.small) J 200000 (by omega)
def Pl(s:ByteArray)(m:R Nd)(r:Nd->Bool):Prop:=∀L,cV s=.toks L->∃n s1,m ⟨L,(s.size:Int)⟩ ⟨0,false,-1⟩=.ok n s1/\s1.at_=L.length/\r n=true/\mn n<=1048576
def Ru(s:ByteArray)(m:R Nd)(r:Nd->Bool):Bool:=match cV s with
 | .toks L=>match m ⟨L,(s.size:Int)⟩ ⟨0,false,-1⟩with
   | .ok n s1=>decide (s1.at_=L.length)&&(r n&&decide (mn n<=1048576))
   | .out=>false
 | .err _ _=>true
theorem Fb{s:ByteArray}{m:R Nd}{r:Nd->Bool}(h:Ru s m r=true):Pl s m r:=by
 intro L hL;unfold Ru at h;rw[hL]at h;simp only at h;cases D:m ⟨L,(s.size:Int)⟩ ⟨0,false,-1⟩with
 |out=>rw[D]at h;cases h
 |ok n s1=>rw[D]at h;simp only[gB,gE]at h;exact⟨n,s1,rfl,h.1,h.2.1,h.2.2⟩
theorem CD{s:ByteArray}{m:R Nd}{r:Nd->Bool}(h:Pl s m r):∀L,cV s=.toks L->∃n D,m ⟨L,(s.size:Int)⟩ ⟨0,false,-1⟩=.ok n D/\D.at_=L.length/\r n=true/\sF 101 n/\(aP 100 n).length<=1000000000:=by intro L hL;obtain⟨n,D,M,J,I,N⟩:=h L hL;exact⟨n,D,M,J,I,uT 101 n (by omega),by have:=pD 100 n;omega⟩
theorem Mc(A0:Option Addr)(c:Nat)(s:ByteArray)(w:World)(I:fT w A0 c s)(J:lF w)(D:s.size<=1000000000)(h:Pl s (rG fG) eO):
  Calls prog 13 #[.slice A0 s.size c] w (nx w (tD fG s)):=
 AD A0 c s w I J D fG (fun _ E w' ht hfr=>Rt ht E w' hfr) (CD h)
theorem CE(s:ByteArray)(w:World)(I:lF w)(D:s.size<=1000000000)(h:Pl s (fe fG.expr) bG):
  Calls prog 16 #[s] w (nx w (pV fG s)):=
 AF s w I D fG (fun _ E w' ht hfr=>Rt ht E w' hfr) (CD h)
def tx(l:List It):ByteArray:=d7 (fX l)
theorem pH(l:List It):bytes (tx l)=fX l:=bH _
theorem Nn:tx []=(⟨#[]⟩:BA):=rfl
theorem bE(l m:List It):tx (l++m)=tx l++tx m:=by apply cg;rw[aO,pH,pH,pH,iR]
theorem aI(a:It)(l:List It):tx (a::l)=tx [a]++tx l:=bE [a] l
theorem wK(k:Int)(x:ByteArray):tx [.tok k (bytes x)]=x:=by apply cg;rw[pH];exact kG _
theorem wL(x:ByteArray):tx [mK x]=x:=wK _ x
theorem Di(x:ByteArray):tx [iV x]=x:=wK _ x
theorem FO(x:ByteArray):tx [lJ x]=x:=wK _ x
theorem sx(b:UInt8):tx [bS b]=⟨#[b]⟩:=rfl
theorem y6:tx [bu]=(⟨#[32]⟩:BA):=rfl
theorem SL(b:UInt8):tx [.gap b]=⟨#[b]⟩:=rfl
theorem wM:tx cG=(⟨#[44,32]⟩:BA):=rfl
theorem FP(x:ByteArray)(h:x≠(⟨#[]⟩:BA)):tx (dx x)=x++(⟨#[32]⟩:BA):=by unfold dx;rw[d5 h,aI,wL,y6]
theorem Dj:tx (dx ⟨#[]⟩)=(⟨#[]⟩:BA):=rfl
theorem Dk(s:List It):∀(l:List (List It))(x:List It),l≠[]->dk s (l++[x])=dk s l++(s++x)
 |[],_,h=>absurd rfl h
 |[y],x,_=>rfl
 |y::z::l,x,_=>by have ih:=Dk s (z::l) x (by simp);show y++(s++dk s (z::(l++[x])))=(y++(s++dk s (z::l)))++(s++x);rw[show z::(l++[x])=(z::l)++[x]from rfl,ih];simp only[gO]
def Ik(s:List It)(i:Nat):List It:=if i=0 then[]else s
theorem wN(s:List It){i:Nat}(h:i=0):tx (Ik s i)=(⟨#[]⟩:BA):=by unfold Ik;rw[gF h];rfl
theorem wO(s:List It){i:Nat}(h:0<i):tx (Ik s i)=tx s:=by unfold Ik;rw[d5 (by omega)]
theorem Bs{α:Type}(s:List It)(f:α->List It)(l:List α)(i:Nat)(h:i<l.length):
  tx (dk s ((l.take (i+1)).map f))=tx (dk s ((l.take i).map f))++(tx (Ik s i)++tx (f l[i])):=by
 rw[gZ h,kT];unfold Ik;by_cases I:i=0
 ·subst I;rfl
 ·rw[d5 I,kE,List.map_nil,Dk _ _ _ (by
   intro D;rw[List.map_eq_nil_iff,List.take_eq_nil_iff]at D;rcases D with D|D
   ·exact I D
   ·rw[D]at h;exact absurd h (by simp)),bE,bE]
theorem az(x y z:ByteArray):x++y++z=x++(y++z):=ByteArray.append_assoc
theorem pi(x:ByteArray):x++(⟨#[]⟩:BA)=x:=ByteArray.append_empty
theorem mQ(x:ByteArray):(⟨#[]⟩:BA)++x=x:=ByteArray.empty_append
theorem No{α:Type}(s:List It)(f:α->List It)(l:List α)(i:Nat):∀j,i<=j->j<=l.length->(tx (dk s ((l.take i).map f))).size<=(tx (dk s ((l.take j).map f))).size
 |0,D,_=>by(obtain rfl:i=0:=by omega);exact gA _
 |j+1,D,I=>by
  rcases Nat.lt_or_eq_of_le D with h|rfl
  ·have:=No s f l i j (by omega) (by omega);rw[Bs s f l j (by omega),gD];omega
  ·exact gA _
theorem pI{α:Type}(s:List It)(f:α->List It)(l:List α)(i:Nat)(h:i<=l.length):(tx (dk s ((l.take i).map f))).size<=(tx (dk s (l.map f))).size:=by
 have:=No s f l i l.length h (gA _)
 rwa [List.take_length]at this
theorem FQ{α:Type}(f:α->List It)(l:List α)(i:Nat)(h:i<l.length):tx ((l.take (i+1)).flatMap f)=tx ((l.take i).flatMap f)++tx (f l[i]):=by rw[gZ h,kJ,bE,jH,List.flatMap_nil,kG]
theorem uc{α:Type}(f:α->List It)(l:List α)(i:Nat):(tx ((l.take i).flatMap f)).size<=(tx (l.flatMap f)).size:=by(conv=>rhs;rw[<-va i l,kJ,bE,gD]);exact Nat.le_add_right _ _
theorem ud{α:Type}(s:List It)(hs:1<=(tx s).size)(f:α->List It):∀l:List α,l.length<=(tx (dk s (l.map f))).size+1
 |[]=>gP _
 |[x]=>Nat.le_add_left _ _
 |x::y::l=>by have ih:=ud s hs f (y::l);show l.length+1+1<=(tx (f x++(s++dk s ((y::l).map f)))).size+1;rw[bE,bE,gD,gD];rw[gS]at ih;omega
theorem Bt{α:Type}(f:α->List It)(D:∀x,1<=(tx (f x)).size):∀l:List α,l.length<=(tx (l.flatMap f)).size
 |[]=>gP _
 |x::l=>by have ih:=Bt f D l;have:=D x;rw[jH,bE,gD,gS];omega
def K4(w:World)(b o:Nat)(x:Nd)(A:Option Addr)(c:Nat):Prop:=
 w.cell? ⟨b,o,none⟩=some (.int .i64 x.kind)/\w.cell? ⟨b,o+1,none⟩=some (.string x.text)/\w.cell? ⟨b,o+2,none⟩=some (.slice A x.kids.length c)/\w.cell? ⟨b,o+3,none⟩=some (.int .i64 x.pos) /\
  aF w (.agg #[x.kind,x.text,.slice A x.kids.length c,x.pos]) x
theorem K4.below{w w':World}{b o:Nat}{x:Nd}{A:Option Addr}{c:Nat}(h:K4 w b o x A c)(hb:Below w w w'):K4 w' b o x A c:=by obtain⟨M,J,I,D,N⟩:=h;exact⟨(hb.cell (jB w _ M)).trans M,(hb.cell (jB w _ J)).trans J,(hb.cell (jB w _ I)).trans I,(hb.cell (jB w _ D)).trans D,af.below N hb⟩
theorem eV{w:World}{A:Option Addr}{k p:Int}{t:ByteArray}{m cp:Nat}{n:Nd}(h:aF w (.agg #[k,t,.slice A m cp,p]) n)(i:Nat)(J:i<n.kids.length):
  ∃b off I D,A=some ⟨b,off,none⟩/\K4 w b (off+i*4) n.kids[i] I D:=by obtain⟨b,off,I,D,e,_,_,h0,U,O,N,M⟩:=(af.kidsV h).kid i J;exact⟨b,off,I,D,e,h0,U,O,N,M⟩
theorem TR{w:World}{A:Option Addr}{x y z:Nd}{k:Int}{t:ByteArray}{p:Int}{cp:Nat}(h:aF w (.agg #[k,t,.slice A 3 cp,p]) (.mk k t [x,y,z] p)):
  ∃b o O c1 N c2 M c3,A=some ⟨b,o,none⟩/\K4 w b o x O c1/\K4 w b (o+4) y N c2/\K4 w b (o+8) z M c3:=by obtain⟨bp,op,O,c1,rfl,J⟩:=eV h 0 (by simp);obtain⟨_,_,N,c2,e,I⟩:=eV h 1 (by simp);injection e with e;injection e with e1 e2;subst e1 e2;obtain⟨_,_,M,c3,e,D⟩:=eV h 2 (by simp);injection e with e;injection e with e1 e2;subst e1 e2;simp only[Nd.kids_mk,gT,kL,jK,jD,qC,Nat.reduceMul]at J I D;exact⟨_,_,_,_,_,_,_,_,rfl,J,I,D⟩
theorem Il{w:World}{A:Option Addr}{x y:Nd}{k:Int}{t:ByteArray}{p:Int}{cp:Nat}(h:aF w (.agg #[k,t,.slice A 2 cp,p]) (.mk k t [x,y] p)):
  ∃b o M c1 J c2,A=some ⟨b,o,none⟩/\K4 w b o x M c1/\K4 w b (o+4) y J c2:=by obtain⟨bp,op,M,c1,rfl,I⟩:=eV h 0 (by simp);obtain⟨_,_,J,c2,e,D⟩:=eV h 1 (by simp);injection e with e;injection e with e1 e2;subst e1 e2;simp only[Nd.kids_mk,gT,kL,jK,jD,qC]at I D;exact⟨_,_,_,_,_,_,rfl,I,D⟩
def TS(f:FuncId)(P:Nd->Bool)(I:Nd->List It):Prop:=
 ∀(v:Value)(n:Nd)(w:World),aF w v n->P n=true->(tx (I n)).size<=10000000000000000->Calls prog f #[v] w fun e w'=>e=.returned (.string (tx (I n)))/\Below w w w'
theorem SM{F:cQ}{so:ByteArray->Bool}{n:Nd}(h:dQ F so n=true):∃t x p,n=.mk 8 t [x] p/\so t=true/\F.typ x=true:=by obtain⟨t,l,a,rfl,hs,I⟩:=aN (by decide) h;obtain⟨x,rfl,D⟩:=d8 I;exact⟨t,x,a,rfl,hs,D⟩
end
section
def ro:ByteArray:=(⟨#[112,97,99,107,97,103,101,32,112,59,32,102,117,110,99,32,102,40,97,32,105,110,116,41,32,105,110,116,32,123,32,114,101,116,117,114,110,32,45,97,32,42,32,50,32,125]⟩:BA)
def AM:ByteArray:=(⟨#[120,91,105,110,116,93,40,49,41]⟩:BA)
def Tq(r:uN):Bool:=match r with
 | .tree n=>decide (n.text=(⟨#[112]⟩:BA))&&match n.kids with
   |[k]=>decide (k.kind=2)
   |_=>false
 |_=>false
def Tr(r:uN):Bool:=match r with
 | .tree n=>decide (n.kind=21)&&match n.kids with
   |k::_=>decide (k.kind=22)
   |_=>false
 |_=>false
theorem GQ:Tr (pV fG AM)=true:=by decide +kernel
theorem GR:Tq (tD fG ro)=true:=by decide +kernel
theorem CF:∃k b l a r,tD fG ro=.tree (.mk k ⟨#[112]⟩ [.mk 2 b l a] r):=by
 have h:=GR;cases I:tD fG ro with
 |bad p e=>rw[I]at h;exact absurd h Bool.false_ne_true
 |out=>rw[I]at h;exact absurd h Bool.false_ne_true
 |tree n=>
  rw[I]at h;obtain⟨k,t,l,r⟩:=n;unfold Tq at h;simp only[Nd.text_mk,Nd.kids_mk,gB]at h;obtain⟨J,D⟩:=h;have J:=of_decide_eq_true J;subst J;split at D
  ·rename_i q;obtain⟨N,b,M,a⟩:=q;have D:=of_decide_eq_true D;have D:N=2:=D;subst D;exact⟨k,b,M,a,r,rfl⟩
  ·cases D
theorem CG:∃t b l a q r,pV fG AM=.tree (.mk 21 t (.mk 22 b l a::q) r):=by
 have h:=GQ;cases I:pV fG AM with
 |bad p e=>rw[I]at h;exact absurd h Bool.false_ne_true
 |out=>rw[I]at h;exact absurd h Bool.false_ne_true
 |tree n=>
  rw[I]at h;obtain⟨k,t,l,r⟩:=n;unfold Tr at h;simp only[Nd.kind_mk,Nd.kids_mk,gB]at h;obtain⟨J,D⟩:=h;have J:=of_decide_eq_true J;subst J;split at D
  ·rename_i q rest;obtain⟨N,b,M,a⟩:=q;have D:=of_decide_eq_true D;have D:N=22:=D;subst D;exact⟨t,b,M,a,rest,r,rfl⟩
  ·cases D
end
section
open Go.RowKit Go.Lib Go.Proofs Go.Joins
attribute [local go_sem ↓] Go.wp_at_zero Go.wp_at_succ
attribute [local go_sem] bv bw bz bA
def CH:Array Value:=#[.int .u8 112,.int .u8 97,.int .u8 99,.int .u8 107,.int .u8 97,.int .u8 103,.int .u8 101,.int .u8 32,.int .u8 112,.int .u8 59,.int .u8 32,.int .u8 102,.int .u8 117,.int .u8 110,.int .u8 99,.int .u8 32,.int .u8 102,.int .u8 40,.int .u8 97,.int .u8 32,.int .u8 105,.int .u8 110,.int .u8 116,.int .u8 41,.int .u8 32,.int .u8 105,.int .u8 110,.int .u8 116,.int .u8 32,.int .u8 123,.int .u8 32,.int .u8 114,.int .u8 101,.int .u8 116,.int .u8 117,.int .u8 114,.int .u8 110,.int .u8 32,.int .u8 45,.int .u8 97,.int .u8 32,.int .u8 42,.int .u8 32,.int .u8 50,.int .u8 32,.int .u8 125]
theorem GS:CH=ro.data.map fun b=>.int .u8 (b.toNat:Int):=by kernel_rfl
theorem Eb(w:World):fT (w.alloc (.cells CH 5 (46,47))) (some ⟨w,0,none⟩) 46 ro:=by refine .inr ⟨w.heap.size,0,rfl,by decide +kernel,by simp,fun i hi=>?_⟩;have h:=World.cell?_alloc_mark w CH 5 (46,47) (0+i);rw[h,GS,kS,Array.getElem?_map,Array.getElem?_eq_getElem (xs:=ro.data) hi];rfl
theorem Ec(w:World)(hT:lF w):Calls prog 17 #[] w fun e w'=>e=.returned (.bool true)/\Below w w w':=by have ge:Below w w (w.alloc (.cells CH 5 (46,47))):=(gG _ _).alloc (gA _) _;have HF:=Mc (some ⟨w,0,none⟩) 46 ro (w.alloc (.cells CH 5 (46,47))) (Eb w) (hT.below ge) (by decide +kernel) (Fb (by decide +kernel));obtain⟨k0,b0,l0,a0,r0,hf⟩:=CF;obtain⟨t1,b1,l1,a1,q1,r1,hx⟩:=CG;rw[hf]at HF;have HF:Calls prog 13 #[.slice (some ⟨w,0,none⟩) 46 46] (w.alloc (.cells CH 5 (46,47))) _:=HF;have HF:=hid HF;have HX:=hid (fun W(hW:lF W)=>CE AM W hW (by decide +kernel) (Fb (by decide +kernel)));rw[hx]at HX;have gn:=hid hT;have gg:=run_convert_bytes_const_at (P:=prog) w 27 5 CH 46 46 w.heap.size rfl underlying27 underlying5;unfold CH at gg;clear hf hx hT;(go_enter func17,ntmps17);go_wp2_with fail;refine HF.out.mono ?_;rintro e w1⟨v,rfl,hv,gh⟩;have gd:=aD ge gh;obtain⟨A,cp,rfl,hC⟩:=hv.toC;obtain⟨h,D,A2,gq,rfl,-,U,q0,-,-,-,-⟩:=hv.kidsV.kid 0 (by simp);simp only[Nd.kids_mk,gT,Nd.kind_mk,jK,jD]at q0;simp only[Nd.kids_mk,Nd.kind_mk,Nd.text_mk,Nd.pos_mk,gS,qa,kS];have gb:=gd.alloc gd.size (.cells #[.int .i64 k0,.string ⟨#[112]⟩,.slice (some ⟨h,D,none⟩) 1 cp,.int .i64 r0] 24);have gk:=(aj w1 #[.int .i64 k0,.string ⟨#[112]⟩,.slice (some ⟨h,D,none⟩) 1 cp,.int .i64 r0]).2;have q2:=(((gG _ w1).alloc (gA _) (.cells #[.int .i64 k0,.string ⟨#[112]⟩,.slice (some ⟨h,D,none⟩) 1 cp,.int .i64 r0] 24)).cell (p:=⟨h,D,none⟩) U).trans q0;(have J:h<(w1.alloc (.cells #[.int .i64 k0,.string ⟨#[112]⟩,.slice (some ⟨h,D,none⟩) 1 cp,.int .i64 r0] 24)).heap.size:=by simp;omega);have gl:=hid (HX.out _ (gn.out.below gb));clear gh HF ge gd hC gg hv q0 HX U;go_wp2_with fail;refine gl.out.mono ?_;rintro e w2⟨v,rfl,hv,M⟩;clear gl;have ga:=aD gb M;obtain⟨A,N,rfl,hC⟩:=hv.toC;obtain⟨b4,I,A4,gp,rfl,-,O,q4,-,-,-,-⟩:=hv.kidsV.kid 0 (by simp);simp only[Nd.kids_mk,gT,Nd.kind_mk,jK,jD]at q4;simp only[Nd.kids_mk,Nd.kind_mk,Nd.text_mk,Nd.pos_mk,gS];have gj:=(gk.bl M).alloc (.cells #[.int .i64 21,.string t1,.slice (some ⟨b4,I,none⟩) (q1.length+1) N,.int .i64 r1] 24);have gi:=(aj w2 #[.int .i64 21,.string t1,.slice (some ⟨b4,I,none⟩) (q1.length+1) N,.int .i64 r1]).2;have hA:Below w2 w2 (w2.alloc (.cells #[.int .i64 21,.string t1,.slice (some ⟨b4,I,none⟩) (q1.length+1) N,.int .i64 r1] 24)):=(gG _ w2).alloc (gA _) _;have q3:=(hA.cell (p:=⟨h,D,none⟩) (kH J M.size)).trans ((M.cell (p:=⟨h,D,none⟩) J).trans q2);have q5:=(hA.cell (p:=⟨b4,I,none⟩) O).trans q4;have gm:=ga.alloc ga.size (.cells #[.int .i64 21,.string t1,.slice (some ⟨b4,I,none⟩) (q1.length+1) N,.int .i64 r1] 24);obtain⟨x0,x1,x2,x3,-,-,-,-⟩:=ab gj;obtain⟨y0,y1,y2,y3,-,-,-,-⟩:=ab gi;clear gb ga gk gj gi hA hC hv q2 q4 M J O;go_wp2_with fail;go_ret;exact⟨rfl,gm⟩
def Sb(w:World):Prop:=∀w',Below w w w'->Calls prog 17 #[] w' fun e w''=>e=.returned (.bool true)/\Below w' w' w''
theorem Sc(w:World)(D:lF w):Sb w:=fun _ hb=>Ec _ (D.below hb)
end
section
open Go.Lib
theorem GT(p:Int):oN ⟨6,⟨#[10]⟩,p⟩=false:=by show oN ⟨6,⟨#[10]⟩,0⟩=false;decide +kernel
theorem pY(l:List cO)(t:cO):eg (l++[t])=oN t:=by unfold eg;rw[List.getLast?_concat]
theorem Mk{l:List cO}(h:eg l=false)(p:Int):dY l p=l:=by unfold dY;rw[h];rfl
theorem sV{s:ByteArray}{g i j:Nat}{l l':List cO}(D:i<s.size)(h:ey s i l=.go j l'):dG s (g+1) i l=dG s g j l':=by rw[dG,gF D,h]
theorem yQ{s:ByteArray}{i:Nat}{l:List cO}(I:¬ (i=0/\hasPrefix (bytes s) [239,187,191]=true))(D:ac s i=10):ey s i l=.go (i+1) (dY l i):=by unfold ey;rw[d5 I,gF D]
theorem Ei{s:ByteArray}{i:Nat}{l:List cO}(I:¬ (i=0/\hasPrefix (bytes s) [239,187,191]=true))(D:ac s i=32):ey s i l=.go (i+1) l:=by unfold ey;rw[d5 I,d5 (by omega),gF (.inl D)]
section
variable {c:UInt8} (s:ByteArray)
variable (hs:s.size<=1500) (h9:0<s.size->ac s 0≠239)
include hs h9
end
end
end Go.Proofs.YtiebcdeafofgdaaGreatDoor
