/-
  Parts of the proof: Ppq Pval Ppa Ppt. By an AI agent.
-/
import Derived.Test.YteialcjaiocjdaaGreatDoorJ34
import Derived.Test.YteialcjaiocjdaaGreatDoorJ35
import Derived.Test.YteialcjaiocjdaaGreatDoorJ33
import Derived.Test.YteialcjaiocjdaaGreatDoorJ02
import Derived.Test.YteialcjaiocjdaaGreatDoorJ13
import Derived.Sort.Walk0
import Derived.Shelf.SlSortCmp.Insertion
import Derived.Lib.SlicesCompact
import Derived.Laws.StructEq
namespace Go.Proofs.YteialcjaiocjdaaGreatDoor
section
open Go.Lib
theorem Dl(b:UInt8):(∃y v,cu b=[92,y]/\eP y.toNat=some v/\UInt8.ofNat v=b)\/(cu b=[b]/\b.toNat≠92/\b.toNat≠34/\b.toNat≠10)\/(∃I D v,cu b=[92,120,I,D]/\fA 16 [I,D] 0=some v/\UInt8.ofNat v=b):=by
 unfold cu;by_cases I:b=34
 ·rw[gG I,I];exact .inl ⟨34,34,rfl,rfl,rfl⟩
 rw[gB I];by_cases D:b=92
 ·rw[gG D,D];exact .inl ⟨92,92,rfl,rfl,rfl⟩
 rw[gB D];by_cases J:b=10
 ·rw[gG J,J];exact .inl ⟨110,10,rfl,rfl,rfl⟩
 rw[gB J];by_cases M:b=9
 ·rw[gG M,M];exact .inl ⟨116,9,rfl,rfl,rfl⟩
 rw[gB M];split
 ·exact .inr (.inl ⟨rfl,fun e=>D (UInt8.toNat_inj.1 e),fun e=>I (UInt8.toNat_inj.1 e),fun e=>J (UInt8.toNat_inj.1 e)⟩)
 ·refine .inr (.inr ⟨_,_,b.toNat,rfl,?_,qU⟩);(have key:∀n:Fin 256,fA 16 [yG (n.val/16),yG (n.val%16)] 0=some n.val:=by decide +kernel);exact key ⟨b.toNat,vw b⟩
theorem tT:∀(l:List UInt8)(g:Nat),l.length<g->cZ g (l.flatMap cu)=some l
 |[],g,h=>by obtain⟨g,rfl⟩:∃g',g=g'+1:=⟨g-1,by simp at h;omega⟩;rfl
 |b::l,g,h=>by
  obtain⟨g,rfl⟩:∃g',g=g'+1:=⟨g-1,by simp at h;omega⟩;have ih:=tT l g (by simpa using h);rw[jE];rcases Dl b with⟨y,v,e,D,I⟩|⟨e,D,I,N⟩|⟨M,J,v,e,D,I⟩
  ·rw[e];show cZ (g+1) (92::y::l.flatMap cu)=_;rw[cZ,gG (by decide),l9,D];simp only[kW];rw[show(y::l.flatMap cu).drop 1=l.flatMap cu from rfl,ih,I];rfl
  ·rw[e];show cZ (g+1) (b::l.flatMap cu)=_;rw[cZ,gB D,gB (by omega),ih];rfl
  ·rw[e];show cZ (g+1) (92::120::M::J::l.flatMap cu)=_;(have hd:cA (M::J::l.flatMap cu) 2 16=some v:=by unfold cA;rw[gG (by simp)];exact D);rw[cZ,gG (by decide),l9,show eP (120:UInt8).toNat=none from rfl];simp only;rw[gG (by decide),hd];simp only[qf,kW];rw[show(120::M::J::l.flatMap cu).drop 3=l.flatMap cu from rfl,ih,I];rfl
theorem tU(l:List UInt8):d8 (dC l)=true:=by(have key:∀n:Fin 256,d8 (cu (UInt8.ofNat n.val))=true:=by decide +kernel);unfold dC d8;rw[jJ,jX,kU];refine Bool.and_eq_true_iff.2 ⟨by decide,Bool.and_eq_true_iff.2 ⟨?_,by decide⟩⟩;rw[List.all_flatMap,qo];intro b _;have:=key ⟨b.toNat,vw b⟩;simp only[qU]at this;exact this
theorem Ip(l:List UInt8):(dC l).length<=4*l.length+2/\l.length+2<=(dC l).length:=by
 (have key:∀n:Fin 256,(cu (UInt8.ofNat n.val)).length<=4/\1<=(cu (UInt8.ofNat n.val)).length:=by decide +kernel);have h:∀l:List UInt8,(l.flatMap cu).length<=4*l.length/\l.length<=(l.flatMap cu).length:=by
  intro l;induction l with
  |nil=>exact⟨gC _,gC _⟩
  |cons b l ih=>have:=key ⟨b.toNat,vw b⟩;simp only[qU]at this;rw[jE,gM,gO];omega
 have:=h l;unfold dC;simp only[jJ,gO,gM,qd];omega
theorem tV{x:ByteArray}(h:x.size<=1000):lT (dx (dC (bytes x)))=some x:=by
 have I:=Ip (bytes x);rw[dL]at I;(have D:(dx (dC (bytes x))).size=(dC (bytes x)).length:=by rw[<-dL,bX]);have hb:(dx (dC (bytes x))).data.toList=dC (bytes x):=bX _;unfold lT;rw[gG,hb]
 ·(have e:(dC (bytes x)).extract 1 ((dx (dC (bytes x))).size-1)=(bytes x).flatMap cu:=by rw[D];unfold dC;rw[qO];simp);rw[e,tT _ _ (by rw[dL];omega)];exact jM some (cQ (bX _))
 ·refine⟨by omega,by omega,by rw[hb];exact tU _,?_,?_⟩
  ·rw[pm,bX];rfl
  ·rw[pm,bX,D];unfold dC;rw[jB,<-List.getLast?_eq_getElem?,List.getLast?_append];rfl
theorem EJ{x:ByteArray}(h:x.size<=1000):mb (dx (dC (bytes x)))=x:=by unfold mb;rw[tV h];rfl
def F7:List UInt8:=32::bytes pY++[32]
def R6:List UInt8:=32::bytes rq++[32]
def TU:List UInt8:=32::bytes sS++[32]
def F8(a b:UInt8):Bool:=(a==60&&b==60)||((a==62&&b==62)||((a==38&&b==94)||(a==46&&b==46)))
theorem Dw{a b c:UInt8}(h:F8 a b=false):contains F7 (32::[a,b,c]++[32])=false:=by
 cases N:contains F7 (32::[a,b,c]++[32])with
 |false=>rfl
 |true=>exfalso;obtain⟨k,D,M⟩:=Es N;have J:=yF M;(have D:k<18:=by rw[Mt.1]at D;omega);(have key:(List.range 18).all (fun k=>let w:=(F7.drop k).take 5;!(decide (w.length=5)&&(w.getD 0 0==32&&w.getD 4 0==32))||F8 (w.getD 1 0) (w.getD 2 0))=true:=by decide +kernel);have I:=List.all_eq_true.1 key k (List.mem_range.2 D);rw[show(F7.drop k).take 5=[32,a,b,c,32]from J]at I;simp[h]at I
def I7(a b:UInt8):Bool :=!(F8 a b)&&(!(contains R6 [32,a,b,32])&&contains TU [32,a,32])
def TZ(a b:UInt8):Bool :=!(F8 a b)&&contains R6 [32,a,b,32]
theorem IF{a b:UInt8}(h:I7 a b=true)(r:List UInt8):rg (a::b::r)=1:=by
 unfold I7 at h;simp only[gA,qD]at h;obtain⟨M,J,I⟩:=h;unfold rg;rw[gB,gB,gG]
 ·exact⟨by simp,I⟩
 ·rintro⟨-,h⟩;rw[show contains (32::bytes rq++[32]) (32::(a::b::r).take 2++[32])=false from J]at h;cases h
 ·rintro⟨D,h⟩;cases r with
  |nil=>simp at D
  |cons c r=>rw[show contains (32::bytes pY++[32]) (32::(a::b::c::r).take 3++[32])=false from Dw M]at h;cases h
theorem IG{a b:UInt8}(h:TZ a b=true)(r:List UInt8):rg (a::b::r)=2:=by
 unfold TZ at h;simp only[gA,qD]at h;obtain⟨J,I⟩:=h;unfold rg;rw[gB,gG]
 ·exact⟨by simp,I⟩
 ·rintro⟨D,h⟩;cases r with
  |nil=>simp at D
  |cons c r=>rw[show contains (32::bytes pY++[32]) (32::(a::b::c::r).take 3++[32])=false from Dw J]at h;cases h
theorem ii.one{a b:UInt8}{r:List UInt8}(h:I7 a b=true)(J:po [a]=true)(I:a=47->b≠47/\b≠42):ii (b::r) 6 [a]:=by
 refine .sign J (IF h r) ?_ ?_
 ·show([47,47]:List UInt8).isPrefixOf (a::b::r)=false;by_cases D:a=47
  ·simp[List.isPrefixOf,Ne.symm (I D).1]
  ·simp[List.isPrefixOf,Ne.symm D]
 ·show([47,42]:List UInt8).isPrefixOf (a::b::r)=false;by_cases D:a=47
  ·simp[List.isPrefixOf,Ne.symm (I D).2]
  ·simp[List.isPrefixOf,Ne.symm D]
theorem ii.two{a b:UInt8}{r:List UInt8}(h:TZ a b=true)(I:po [a]=true)(D:a≠47):ii r 6 [a,b]:=by
 refine .sign I (IG h r) ?_ ?_
 ·exact iW (fun e=>D (UInt8.toNat_inj.1 e))
 ·exact iW (fun e=>D (UInt8.toNat_inj.1 e))
theorem ii.wordK{k:Int}{x r:List UInt8}(I:k=bW (dx x)+1)(h:mE x=true)(D:tR r=true):ii r k x:=by subst I;exact .word h D
theorem Ng:∀(g:Nat)(n:Nd),df g (ng n)->df g n
 |0,_,h=>h
 |g+1,n,h=>by refine⟨by have D:=h.1;rw[eW,iG,jR]at D;exact D,fun k I=>Ng g k (h.2 _ ?_)⟩;rw[eW];exact List.mem_map.2 ⟨k,I,rfl⟩
theorem Nh:∀(g:Nat)(n:Nd),df g n->df g (ng n)
 |0,_,h=>h
 |g+1,n,h=>by refine⟨by rw[eW,iG,jR];exact h.1,fun k hk=>?_⟩;rw[eW]at hk;obtain⟨y,D,rfl⟩:=List.mem_map.1 hk;exact Nh g y (h.2 _ D)
theorem ci.dle{n m:Nd}{g:Nat}(h:ci n m)(hd:df g n):df g m:=Ng g m (by rw[<-show ng n=ng m from h];exact Nh g n hd)
theorem Dx{n:Nd}{g:Nat}(h:df g n):∀k,df (g+k) n
 |0=>h
 |k+1=>(Dx h k).succ
end
section
abbrev TK:=Int×ByteArray
def I5(t:ef):TK:=(t.kind,t.text)
def aG:List It->List TK
 |[]=>[]
 | .tok k x::l=>(k,dx x)::aG l
 | .gap _::l=>aG l
 | .nl::l=>(6,⟨#[10]⟩)::aG l
theorem aX:∀a b:List It,aG (a++b)=aG a++aG b
 |[],_=>rfl
 | .tok k x::a,b=>by rw[jJ,aG,aG,aX a b];rfl
 | .gap _::a,b=>by rw[jJ,aG,aG,aX a b]
 | .nl::a,b=>by rw[jJ,aG,aG,aX a b];rfl
def At(c:Cx)(s:St)(l:List TK):Prop:=s.at_<=c.toks.length/\(c.toks.drop s.at_).map I5=l
def dS:List TK->TK
 |[]=>(0,⟨#[]⟩)
 |t::_=>t
def cD(t:TK)(x:ByteArray):Bool:=(t.1==2||t.1==6)&&decide (t.2=x)
section
variable {c:Cx} {s:St} {l r:List TK} {t:TK}
theorem At.len(h:At c s l):s.at_+l.length=c.toks.length:=by rw[<-h.2,jR,jH];have:=h.1;omega
theorem At.tok(h:At c s l):((az c s.at_).kind,(az c s.at_).text)=dS l:=by
 obtain⟨J,I⟩:=h;rcases kL s.at_ c.toks.length with D|D
 ·rw[CX D,<-I,kF D];rfl
 ·rw[CW D,<-I,kz D];rfl
theorem At.kind(h:At c s l):(az c s.at_).kind=(dS l).1:=by rw[<-h.tok]
theorem At.text(h:At c s l):(az c s.at_).text=(dS l).2:=by rw[<-h.tok]
theorem At.is(h:At c s l)(x:ByteArray):aP c s x=cD (dS l) x:=by unfold aP TD cD;rw[h.kind,h.text]
theorem At.adv(h:At c s (t::l)):At c (adv s) l:=by
 obtain⟨J,D⟩:=h;rcases kL s.at_ c.toks.length with I|I
 ·rw[kF I,jT]at D;injection D with _ D;exact⟨I,D⟩
 ·rw[kz I]at D;cases D
theorem At.hd(h:At c s l)(b:Bool):At c { s with head:=b } l:=h
theorem At.pt(h:At c s l)(p:Int):At c { s with part:=p } l:=h
theorem At.next(h:At c s (t::l)):c.toks[s.at_+1]? = (l.head?).bind fun _=>c.toks[s.at_+1]? :=by
 cases l with
 |nil=>have:=h.len;rw[qy (by simp at this;omega)];rfl
 |cons u l=>rfl
theorem At.slice(h:At c s l):cY c s=(cD (dS l) ⟨#[91]⟩&&((dS l.tail).1==6&&decide ((dS l.tail).2=(⟨#[93]⟩:BA)))):=by
 unfold cY;rw[h.is];congr 1;cases l with
 |nil=>have:=h.len;rw[qy (by simp at this;omega)];rfl
 |cons t l=>
  have J:=h.adv;cases l with
  |nil=>have:=h.len;rw[qy (by simp at this;omega)];rfl
  |cons u l=>(have I:s.at_+1<c.toks.length:=by have:=h.len;simp at this;omega);have D:=J.tok;rw[show(Go.Proofs.YteialcjaiocjdaaGreatDoor.adv s).at_=s.at_+1 from rfl,CX I]at D;rw[gT I];show(c.toks[s.at_+1].kind==6&&decide (c.toks[s.at_+1].text=(⟨#[93]⟩:BA)))=(u.1==6&&decide (u.2=(⟨#[93]⟩:BA)));have D:(c.toks[s.at_+1].kind,c.toks[s.at_+1].text)=u:=D;rw[<-D]
theorem At.yes(h:At c s (t::l)){x:ByteArray}(D:cD t x=true):aP c s x=true:=by rw[h.is];exact D
theorem At.no(h:At c s (t::l)){x:ByteArray}(D:cD t x=false):¬ aP c s x=true:=by rw[h.is];show ¬ cD t x=true;rw[D];decide
theorem eX(h:At c s (t::l))(x:ByteArray)(D:cD t x=true):bV x c s=.ok () (adv s):=by unfold bV;rw[gG (by rw[h.is];exact D)]
theorem lQ{x:ByteArray}(h:At c s ((1,x)::l)):cT c s=.ok x (adv s):=by unfold cT;rw[gG (by rw[h.kind];rfl),h.text];rfl
end
def nO(c:Cx)(s:St)(r:List TK)(n:Nd)(p:Int)(res:bQ Nd):Prop:=∃n' s',res=.ok n' s'/\ci n' n/\At c s' r/\s'.head=s.head/\s'.part=p
def wt(c:Cx)(s:St)(r:List TK)(Q:Nd->Prop)(p:Int)(res:bQ Nd):Prop:=∃n' s',res=.ok n' s'/\Q n'/\At c s' r/\s'.head=s.head/\s'.part=p
def TS(c:Cx)(s:St)(r:List TK)(Q:List Nd->Prop)(p:Int)(res:bQ (List Nd)):Prop:=∃l' s',res=.ok l' s'/\Q l'/\At c s' r/\s'.head=s.head/\s'.part=p
inductive mF(Q:Nd->Nd->Prop):List Nd->List Nd->Prop where
 |nil:mF Q [] []
 |cons {x y:Nd} {l m:List Nd}:Q x y->mF Q l m->mF Q (x::l) (y::m)
theorem mF.app{Q:Nd->Nd->Prop}{p q:List Nd}(D:mF Q p q):∀{l m:List Nd},mF Q l m->mF Q (l++p) (m++q)
 |_,_,.nil=>D
 |_,_,.cons h hs=>.cons h (mF.app D hs)
theorem mF.one{Q:Nd->Nd->Prop}{x y:Nd}(h:Q x y):mF Q [x] [y]:=.cons h .nil
theorem mF.eqv:∀{l m:List Nd},mF ci l m->bi l m
 |_,_,.nil=>bi.nil
 |_,_,.cons h hs=>bi.cons h (mF.eqv hs)
def eh(t:TK):List (List TK)->List TK
 |[]=>[]
 |[x]=>x
 |x::y::r=>x++(t::eh t (y::r))
theorem Bu(s:List It)(t:TK)(hs:aG s=[t]):∀L:List (List It),aG (cr s L)=eh t (L.map aG)
 |[]=>rfl
 |[x]=>rfl
 |x::y::r=>by rw[cr,aX,aX,hs,Bu s t hs (y::r)];rfl
def dI:TK:=(6,(⟨#[44]⟩:BA))
theorem pN(L:List (List It)):aG (cr ch L)=eh dI (L.map aG):=Bu ch dI rfl L
theorem mY{α:Type}(f:Nd->α)(l:List Nd):(l.map fun x=>(f x,x)).map (·.2)=l:=by rw[qV];exact List.map_id _
theorem sv{α:Type}(f:Nd->α)(l:List Nd):(l.map fun x=>(f x,x)).map (·.1)=l.map f:=by rw[qV];rfl
theorem lF(b:UInt8)(l:List It):aG (cK b::l)=(6,dx [b])::aG l:=rfl
def dq(t:TK):Bool:=t.1==1||(t.1==4||(t.1==5||(cD t ⟨#[102,117,110,99]⟩||(cD t ⟨#[40]⟩||(cD t ⟨#[91]⟩||(cD t ⟨#[45]⟩||cD t ⟨#[33]⟩))))))
theorem sw{t:TK}{x y:ByteArray}(h:cD t x=true)(D:x≠y):cD t y=false:=by unfold cD at h |-;rw[gA,gD]at h;rw[h.2,gP D,jL]
theorem mG{t:TK}(h:t.1=1\/t.1=4\/t.1=5)(x:ByteArray):cD t x=false:=by unfold cD;rcases h with h|h|h<;>rw[h]<;>rfl
theorem bU{t:TK}(h:dq t=true)(x:ByteArray)(N:(⟨#[102,117,110,99]⟩:BA)≠x)(M:(⟨#[40]⟩:BA)≠x)(J:(⟨#[91]⟩:BA)≠x)(I:(⟨#[45]⟩:BA)≠x)(D:(⟨#[33]⟩:BA)≠x):cD t x=false:=by
 unfold dq at h;simp only[gI,kO]at h;rcases h with h|h|h|h|h|h|h|h
 ·exact mG (.inl h) x
 ·exact mG (.inr (.inl h)) x
 ·exact mG (.inr (.inr h)) x
 ·exact sw h N
 ·exact sw h M
 ·exact sw h J
 ·exact sw h I
 ·exact sw h D
theorem wu{c:Cx}{part:R Nd}{en:ByteArray}(Q:Nd->Nd->Prop){P:St->List TK->Prop}(U:cD dI en=false)(D:cD (6,en) en=true)(p:Int)
  (hP:∀s l,P s l->∀s' l',At c s' l'->s.at_<=s'.at_->s'.head=s.head->s'.part=p->P s' l'):
  ∀ (L:List (List TK×Nd))(g:Nat)(acc acc':List Nd)(s:St)(r:List TK),
    At c s (eh dI (L.map (·.1))++((6,en)::r))->s.part=p->c.toks.length-s.at_<g->P s (eh dI (L.map (·.1))++((6,en)::r))->mF Q acc' acc ->
    (∀x∈L,cD (dS x.1) en=false/\x.1≠[]/\∀s r,At c s (x.1++r)->P s (x.1++r)->s.part=p->(dS r=dI\/dS r=(6,en))->wt c s r (fun n'=>Q n' x.2) p (part c s)) ->
    TS c s r (fun l'=>mF Q l' (acc++L.map (·.2))) p (bh part en g acc' c s)
 |_,0,_,_,_,_,_,_,hg,_,_,_=>absurd hg (by omega)
 |[],g+1,acc,acc',s,r,h,hp,_,_,ha,_=>by have h:At c s ((6,en)::r):=h;unfold bh;rw[gG (by rw[h.is];exact D)];exact⟨acc',adv s,rfl,by simpa using ha,h.adv,rfl,hp⟩
 | x::L,g+1,acc,acc',s,r,h,hp,hg,M,ha,hL=>by
  obtain⟨x1,x2,x3⟩:=hL x (by simp);have e:∃O,eh dI ((x::L).map (·.1))++((6,en)::r)=x.1++O/\((L=[]/\O=(6,en)::r)\/(L≠[]/\O=dI::(eh dI (L.map (·.1))++((6,en)::r)))):=by
   cases L with
   |nil=>exact⟨_,rfl,.inl ⟨rfl,rfl⟩⟩
   |cons y L=>exact⟨_,by rw[jT,jT,eh,gL];rfl,.inr ⟨by simp,rfl⟩⟩
  obtain⟨O,e1,e2⟩:=e;rw[e1]at h M;unfold bh;have ga:aP c s en=false:=by
   rw[h.is];cases hx:x.1 with
   |nil=>exact absurd hx x2
   |cons t q=>rw[hx]at x1;exact x1
  rw[gB (by rw[ga];decide)];obtain⟨n',N,g1,g2,J,g4,g5⟩:=x3 s O h M hp (by rcases e2 with⟨_,rfl⟩|⟨_,rfl⟩;exact .inr rfl;exact .inl rfl);rw[g1];simp only[bQ.bind_ok];(have gd:s.at_+1<=N.at_:=by have l1:=h.len;have l2:=J.len;rw[gM]at l1;have:0<x.1.length:=List.length_pos_iff.2 x2;omega);have I:mF Q (acc'++[n']) (acc++[x.2]):=mF.app (mF.one g2) ha;rcases e2 with⟨rfl,rfl⟩|⟨gb,rfl⟩
  ·rw[gG (by rw[J.is];exact D)];exact⟨acc'++[n'],adv N,rfl,by simpa using I,J.adv,g4,g5⟩
  ·rw[gB (by rw[J.is];show ¬ cD dI en=true;rw[U];decide),eX J ⟨#[44]⟩ (by decide)];simp only[bQ.bind_ok];(have hb:c.toks.length-(adv N).at_<g:=by show c.toks.length-(N.at_+1)<g;have:=J.len;simp at this;omega);have:=wu Q U D p hP L g (acc++[x.2]) (acc'++[n']) (adv N) r J.adv g5 hb (hP s _ M _ _ J.adv (by show s.at_<=N.at_+1;omega) g4 g5) I fun y hy=>hL y (by simp[hy]);obtain⟨l',s',f1,f2,f3,f4,f5⟩:=this;exact⟨l',s',f1,by simpa using f2,f3,by rw[f4];exact g4,f5⟩
theorem Bv{c:Cx}{part:R Nd}{en:ByteArray}{P:St->List TK->Prop}(I:cD dI en=false)(D:cD (6,en) en=true)(p:Int)
  (N:∀s l,P s l->∀s' l',At c s' l'->s.at_<=s'.at_->s'.head=s.head->s'.part=p->P s' l')(L:List (List TK×Nd))(g:Nat)(s:St)(r:List TK)
   (h:At c s (eh dI (L.map (·.1))++((6,en)::r)))(J:s.part=p)(M:c.toks.length-s.at_<g)(U:P s (eh dI (L.map (·.1))++((6,en)::r)))
   (O:∀x∈L,cD (dS x.1) en=false/\x.1≠[]/\∀s r,At c s (x.1++r)->P s (x.1++r)->s.part=p->(dS r=dI\/dS r=(6,en))->nO c s r x.2 p (part c s)):
   TS c s r (fun l'=>bi l' (L.map (·.2))) p (bh part en g [] c s):=by obtain⟨l',s',f1,f2,f3⟩:=wu ci I D p N L g [] [] s r h J M U .nil O;exact⟨l',s',f1,f2.eqv,f3⟩
theorem fc(a:Int):ci cc (.mk 0 ⟨#[]⟩ [] a):=ci.mk bi.nil _ _
theorem f9{d:Nat}{n:Nd}(h:(aa d).typ n=true):∃t l,aG (ag d n)=t::l/\dq t=true:=by
 have D:=typ_kind h;cases d with
 |zero=>cases h
 |succ d=>
  unfold ag;rcases D with D|D|D
  ·rw[gB (by rw[D];decide),gB (by rw[D];decide),gB (by rw[D];decide)];exact⟨_,_,rfl,rfl⟩
  ·rw[gG D];exact⟨_,_,rfl,by decide⟩
  ·rw[gB (by rw[D];decide),gG D];exact⟨_,_,rfl,by decide⟩
theorem pO{d:Nat}{n:Nd}(h:(aa d).typ n=true):∃t l,aG (ag d n)=t::l/\(t.1=1\/t=(2,(⟨#[102,117,110,99]⟩:BA))\/(t=(6,(⟨#[91]⟩:BA))/\∃q,l=(6,(⟨#[93]⟩:BA))::q)):=by
 have D:=typ_kind h;cases d with
 |zero=>cases h
 |succ d=>
  unfold ag;rcases D with D|D|D
  ·rw[gB (by rw[D];decide),gB (by rw[D];decide),gB (by rw[D];decide)];exact⟨_,_,rfl,.inl rfl⟩
  ·rw[gG D];exact⟨_,_,rfl,.inr (.inr ⟨rfl,_,rfl⟩)⟩
  ·rw[gB (by rw[D];decide),gG D];exact⟨_,_,rfl,.inr (.inl rfl)⟩
theorem cH(x:ByteArray):dx (bytes x)=x:=cQ (bX _)
theorem R3(x:ByteArray):aG [iq x]=[(1,x)]:=by show[((1:Int),dx (bytes x))]=_;rw[cH]
theorem iP(x:ByteArray)(l:List It):aG (iq x::l)=(1,x)::aG l:=by show((1:Int),dx (bytes x))::aG l=_;rw[cH]
theorem ta(x:ByteArray)(l:List It):aG (ow x::l)=(6,x)::aG l:=by show((6:Int),dx (bytes x))::aG l=_;rw[cH]
def Fu(c:Cx)(k G:Nat)(s:St):Prop:=3*(c.toks.length-s.at_)+k<=G
theorem Fu.le{c:Cx}{k G:Nat}{s s':St}(h:Fu c k G s)(hs:s.at_<=s'.at_):Fu c k G s':=by unfold Fu at *;omega
def EB(c:Cx)(G:Nat)(d:Nat):Prop:=∀n,(aa d).typ n=true->∀s r,At c s (aG (ag d n)++r)->dq (dS r)=false->Fu c 1 G s->nO c s r n s.part ((cI G).typ c s)
section
variable {c:Cx} {d:Nat}
theorem nP:∀G,(cI G).g=G
 |0=>rfl
 |_+1=>rfl
theorem MH{s:St}{l:List TK}(h:At c s l)(hb:dq (dS l)=false):oY c s=false:=by unfold dq at hb;simp only[kZ]at hb;obtain⟨M,-,-,J,I,D,-,-⟩:=hb;unfold oY;rw[h.is,h.is,h.is,h.kind,M,J,I,D];rfl
theorem Ii{s:St}{l:List TK}(h:At c s l)(I:(dS l).1=1\/cD (dS l) ⟨#[102,117,110,99]⟩=true\/cD (dS l) ⟨#[91]⟩=true):oY c s=true:=by
 unfold oY;rw[h.is,h.is,h.is,h.kind];rcases I with D|D|D
 ·rw[D];rfl
 ·rw[D];simp
 ·rw[D];simp
theorem EC{G:Nat}(M:EB c G d){res:Nd}(D:an res=true\/(aa d).typ res=true){s:St}{r:List TK}(h:At c s (aG (if res.kind=0 then[]else aY::ag d res)++r))(hb:dq (dS r)=false)(J:Fu c 1 G s):
  nO c s r res s.part (dt (cI G) c s):=by
 rcases D with D|D
 ·obtain⟨a,rfl⟩:=bN D;have h:At c s r:=h;unfold dt;rw[gB (by rw[MH h hb];decide)];exact⟨cc,s,rfl,fc a,h,rfl,rfl⟩
 ·have N:=typ_kind D;rw[gB (by omega)]at h;have h:At c s (aG (ag d res)++r):=h;unfold dt;rw[gG]
  ·exact M res D s r h hb J
  ·refine Ii h ?_;obtain⟨t,l,e,I⟩:=pO D;rw[e];rcases I with I|rfl|⟨rfl,-⟩
   ·exact .inl I
   ·exact .inr (.inl (show cD (2,(⟨#[102,117,110,99]⟩:BA)) ⟨#[102,117,110,99]⟩=true by decide))
   ·exact .inr (.inr (show cD (6,(⟨#[91]⟩:BA)) ⟨#[91]⟩=true by decide))
theorem FQ:dq dI=false:=by decide +kernel
theorem FR:dq (6,(⟨#[41]⟩:BA))=false:=by decide +kernel
theorem Bw:dq (6,(⟨#[93]⟩:BA))=false:=by decide +kernel
theorem Bx{r:List TK}{en:ByteArray}(h:dS r=dI\/dS r=(6,en))(D:dq (6,en)=false):dq (dS r)=false:=by
 rcases h with h|h<;>rw[h]
 ·exact FQ
 ·exact D
theorem um(f:Nd->List It)(ps:List Nd)(a1:Int)(res:Nd)(a:Int)(r:List TK):aG (eg f (.mk 12 ⟨#[]⟩ [.mk 6 ⟨#[]⟩ ps a1,res] a))++r=(6,(⟨#[40]⟩:BA))::(eh dI (ps.map fun x=>aG (dD x.text++f (aW x 0)))++((6,(⟨#[41]⟩:BA))::(aG (if res.kind=0 then[]else aY::f res)++r))):=by show aG (cK 40::(cr ch (ps.map fun p=>dD p.text++f (aW p 0))++(cK 41::(if res.kind=0 then[]else aY::f res))))++r=_;rw[lF,aX,pN,lF,qV,jJ,gL,jJ];rfl
theorem Aq(x:List TK)(L:List (List TK))(r:List TK):∃r',eh dI (x::L)++r=x++r'/\(r'=r\/∃q,r'=dI::q):=by
 cases L with
 |nil=>exact⟨r,rfl,.inl rfl⟩
 |cons y L=>exact⟨_,by rw[eh,gL];rfl,.inr ⟨_,rfl⟩⟩
theorem By{G:Nat}(hT:EB c G d){so:ByteArray->Bool}{part:R Nd}{ps:List Nd}{a1 a:Int}{res:Nd}(ga:ps.all (d4 (aa d) so)=true)(M:an res=true\/(aa d).typ res=true)
  (D:∀x t a,so t=true->(aa d).typ x=true->∀s r,At c s (aG (dD t++ag d x)++r)->Fu c 1 G s->dq (dS r)=false->(aG (dD t++ag d x)≠[]/\dq (dS (aG (dD t++ag d x)))=true)/\nO c s r (.mk 8 t [x] a) s.part (part c s))
  (N:∀x t,so t=true->(aa d).typ x=true->aG (dD t++ag d x)≠[]/\dq (dS (aG (dD t++ag d x)))=true)
  {s:St}{r:List TK}(p:Int)(h:At c s (aG (eg (ag d) (.mk 12 ⟨#[]⟩ [.mk 6 ⟨#[]⟩ ps a1,res] a))++r))(hb:dq (dS r)=false)(hf:Fu c 1 G s):
  nO c s r (.mk 12 ⟨#[]⟩ [.mk 6 ⟨#[]⟩ ps a1,res] a) s.part ((bV ⟨#[40]⟩ c s).bind fun _ s1=>(bh part ⟨#[41]⟩ (cI G).g [] c s1).bind fun l U=>(dt (cI G) c U).bind fun q O=>.ok (.mk 12 ⟨#[]⟩ [.mk 6 ⟨#[]⟩ l (aD c s),q] p) O):=by
 rw[um,<-sv (fun x=>aG (dD x.text++ag d (aW x 0))) ps]at h;rw[eX h ⟨#[40]⟩ (by decide),bQ.bind_ok,nP];have J:=Bv (c:=c) (part:=part) (en:=(⟨#[41]⟩:BA)) (P:=fun s _=>Fu c 1 G s) (by decide) (by decide) s.part (fun s l hP s' l' _ hle _ _=>hP.le hle) (ps.map fun x=>(aG (dD x.text++ag d (aW x 0)),x)) G (adv s) _ h.adv rfl (by unfold Fu at hf;show c.toks.length-(s.at_+1)<G;have:=h.len;simp at this;omega) (hf.le (jN _)) (by
  intro x hx;obtain⟨y,hy,rfl⟩:=List.mem_map.1 hx;obtain⟨t,l,a2,rfl,I,ht⟩:=aJ (by decide) (List.all_eq_true.1 ga y hy);obtain⟨z,rfl,hz⟩:=dW ht;obtain⟨b1,b2⟩:=N z t I hz;refine⟨bU b2 _ (by decide) (by decide) (by decide) (by decide) (by decide),b1,fun s r hs hF hp hr=>?_⟩;have:=(D z t a2 I hz s r hs hF (Bx hr FR)).2
  rwa [hp]at this)
 obtain⟨l',U,f1,f2,f3,f4,f5⟩:=J;rw[f1,bQ.bind_ok];have gb:Fu c 1 G U:=hf.le (by have h1:=h.len;have h2:=f3.len;simp at h1 h2;omega);obtain⟨q,O,g1,g2,g3,g4,g5⟩:=EC hT M f3 hb gb;rw[g1,bQ.bind_ok];rw[mY]at f2;exact⟨_,O,rfl,ci.mk (bi.cons (ci.mk f2 _ _) (bi.one g2)) _ _,g3,g4.trans f4,g5.trans f5⟩
theorem wv:∀x t,ec t=true->(aa d).typ x=true->aG (dD t++ag d x)≠[]/\dq (dS (aG (dD t++ag d x)))=true:=by intro x t ht hx;unfold ec at ht;rw[gD]at ht;subst ht;obtain⟨u,q,e,D⟩:=f9 hx;show aG (ag d x)≠[]/\dq (dS (aG (ag d x)))=true;rw[e];exact⟨by simp,D⟩
theorem sx{G:Nat}(M:EB c G d){ps:List Nd}{a1 a:Int}{res:Nd}(I:ps.all (d4 (aa d) ec)=true)(D:an res=true\/(aa d).typ res=true)
  {s:St}{r:List TK}(p:Int)(h:At c s (aG (eg (ag d) (.mk 12 ⟨#[]⟩ [.mk 6 ⟨#[]⟩ ps a1,res] a))++r))(hb:dq (dS r)=false)(O:Fu c 1 G s):
  nO c s r (.mk 12 ⟨#[]⟩ [.mk 6 ⟨#[]⟩ ps a1,res] a) s.part (dk (cI G) p c s):=by refine By (part:=m8 (cI G)) M I D (fun x t a ht hx s2 r2 J hf2 hb2=>⟨wv x t ht hx,?_⟩) wv p h hb O;unfold ec at ht;rw[gD]at ht;subst ht;have J:At c s2 (aG (ag d x)++r2):=J;obtain⟨n',N,f1,f2,f3,f4,U⟩:=M x hx s2 r2 J hb2 hf2;unfold m8;rw[f1,bQ.bind_ok];exact⟨_,N,rfl,ci.mk (bi.one f2) _ _,f3,f4,U⟩
theorem ww{x:ByteArray}(D:aB x=true)(l:List It):aG (dD x++l)=(1,x)::aG l:=by unfold dD;rw[gB (fun h=>by rw[h]at D;exact absurd D (by decide +kernel)),aX];show aG (iq x::[aY])++aG l=_;rw[iP];rfl
theorem Dg{G:Nat}(O:EB c G d){ps:List Nd}{a1 a:Int}{res:Nd}(M:ps.all (d4 (aa d) aB)=true)(I:an res=true\/(aa d).typ res=true)
  {s:St}{r:List TK}(p:Int)(h:At c s (aG (eg (ag d) (.mk 12 ⟨#[]⟩ [.mk 6 ⟨#[]⟩ ps a1,res] a))++r))(hb:dq (dS r)=false)(hf:Fu c 1 G s):
  nO c s r (.mk 12 ⟨#[]⟩ [.mk 6 ⟨#[]⟩ ps a1,res] a) s.part (n7 (cI G) p c s):=by(have D:∀x t,aB t=true->(aa d).typ x=true->aG (dD t++ag d x)≠[]/\dq (dS (aG (dD t++ag d x)))=true:=by intro x t ht _;rw[ww ht];exact⟨by simp,rfl⟩);refine By (part:=fC (cI G)) O M I (fun x t a ht hx s2 r2 J N hb2=>⟨D x t ht hx,?_⟩) D p h hb hf;rw[ww ht]at J;have J:At c s2 ((1,t)::(aG (ag d x)++r2)):=J;obtain⟨n',U,f1,f2,f3,f4,f5⟩:=O x hx (adv s2) r2 J.adv hb2 (N.le (jN _));unfold fC;rw[lQ J,bQ.bind_ok,f1,bQ.bind_ok];exact⟨_,U,rfl,ci.mk (bi.one f2) _ _,f3,f4,f5⟩
end
theorem ia{c:Cx}:∀(d G:Nat),EB c G d
 |0,_=>fun n h=>by cases h
 | d+1,G=>by
  intro n D s r h hb hf;obtain⟨G',rfl⟩:∃G',G=G'+1:=⟨G-1,by unfold Fu at hf;omega⟩;have hT:=ia (c:=c) d G';have D:dH (aa d) n=true:=D;show nO c s r n s.part (uE (cI G') c s);unfold ag at h;unfold dH at D;unfold uE;split at D
  ·rename_i M;rw[gB (by rw[M];decide),gB (by rw[M];decide),gB (by rw[M];decide)]at h;obtain⟨k,x,l,a⟩:=n;have M:k=10:=M;subst M;rw[gA]at D;obtain⟨hx,N⟩:=D;have N:l.all (aa d).typ=true:=N;have h:At c s (aG (iq x::nh (ag d) l)++r):=h;rw[iP,jJ]at h;(have hi:∀y,aP c s y=false:=fun y=>by rw[h.is];exact mG (.inl rfl) y);rw[gB (by rw[hi];decide),gB (by rw[hi];decide),gB (by rw[hi];decide),lQ h,bQ.bind_ok];have J:=h.adv;unfold nh at J;cases I:l with
   |nil=>rw[I,gG rfl]at J;have J:At c (adv s) r:=J;unfold dq at hb;simp only[kZ]at hb;rw[gB (by rw[J.is,hb.2.2.2.2.2.1];simp)];exact⟨_,_,rfl,ci.mk bi.nil _ _,J,rfl,rfl⟩
   | cons y l'=>
    rw[gB (by rw[I];simp)]at J;rw[<-I];(have e:aG (cK 91::(cr ch (l.map (ag d))++[cK 93]))++r=(6,(⟨#[91]⟩:BA))::(eh dI ((l.map fun x=>(aG (ag d x),x)).map (·.1))++((6,(⟨#[93]⟩:BA))::r)):=by rw[lF,aX,pN,sv,qV,jJ,gL];rfl);rw[e]at J;have gb:cY c (adv s)=false:=by
     rw[J.slice];have hy:∃t q,aG (ag d y)=t::q/\dq t=true:=f9 (List.all_eq_true.1 N y (by rw[I];simp));obtain⟨t,q,e1,ht⟩:=hy;have e2:∃q',(eh dI ((l.map fun x=>(aG (ag d x),x)).map (·.1))++((6,(⟨#[93]⟩:BA))::r))=t::q':=by
      rw[I];cases l' with
      |nil=>exact⟨_,by rw[jT,jT];show aG (ag d y)++_=_;rw[e1];rfl⟩
      |cons z l'=>exact⟨_,by rw[jT,jT,jT,jT];show(aG (ag d y)++_)++_=_;rw[e1];rfl⟩
     obtain⟨q',e2⟩:=e2;rw[e2];show(true&&(t.1==6&&decide (t.2=(⟨#[93]⟩:BA))))=false;have:=bU ht ⟨#[93]⟩ (by decide) (by decide) (by decide) (by decide) (by decide);unfold cD at this;cases h6:t.1==6 with
     |false=>rfl
     |true=>rw[h6]at this;simpa using this
    rw[gG (by rw[J.is,gb];rfl),nP];have U:=Bv (c:=c) (part:=(cI G').typ) (en:=(⟨#[93]⟩:BA)) (P:=fun s _=>Fu c 1 G' s) (by decide) (by decide) s.part (fun s l hP s' l' _ hle _ _=>hP.le hle) (l.map fun x=>(aG (ag d x),x)) G' (adv (adv s)) _ J.adv rfl (by unfold Fu at hf;show c.toks.length-(s.at_+1+1)<G';have:=J.len;simp at this;have:(adv s).at_=s.at_+1:=rfl;omega) (by unfold Fu at hf |-;show 3*(c.toks.length-(s.at_+1+1))+1<=G';have:=J.len;simp at this;have:(adv s).at_=s.at_+1:=rfl;omega) (by
     intro x hx;obtain⟨z,hz,rfl⟩:=List.mem_map.1 hx;have O:=List.all_eq_true.1 N z hz;obtain⟨t,q,e1,ht⟩:=f9 O;refine⟨by show cD (dS (aG (ag d z))) ⟨#[93]⟩=false;rw[e1];exact bU ht _ (by decide) (by decide) (by decide) (by decide) (by decide),by show aG (ag d z)≠[];rw[e1];simp,fun s2 r2 hs hF hp hr=>?_⟩;have:=hT z O s2 r2 hs (Bx hr Bw) hF
     rwa [hp]at this)
    obtain⟨l2,s2,f1,f2,f3,f4,f5⟩:=U;rw[f1,bQ.bind_ok,gB]
    ·rw[mY]at f2;exact⟨_,s2,rfl,ci.mk f2 _ _,f3,f4,f5⟩
    ·have:=f2.len;rw[I]at this;simp at this;omega
  ·split at D
   ·rename_i ge M;rw[gG M]at h;obtain⟨l,a,rfl,D⟩:=cg D;obtain⟨x,rfl,hx⟩:=dW D;have h:At c s ((6,(⟨#[91]⟩:BA))::(6,(⟨#[93]⟩:BA))::(aG (ag d x)++r)):=h;rw[gB (h.no (by decide)),gG (h.yes (by decide)),eX h.adv ⟨#[93]⟩ (by decide),bQ.bind_ok];have N:=h.len;obtain⟨n',s1,f1,f2,f3,f4,f5⟩:=hT x hx _ r h.adv.adv hb (by unfold Fu at hf |-;simp at N;show 3*(c.toks.length-(s.at_+1+1))+1<=G';omega);rw[f1,bQ.bind_ok];exact⟨_,s1,rfl,ci.mk (bi.one f2) _ _,f3,f4,f5⟩
   ·split at D
    ·rename_i ge hk1 M;rw[gB hk1,gG M]at h;obtain⟨ps,a1,res,a,rfl,gd,ga⟩:=rE D;have h:At c s ((2,(⟨#[102,117,110,99]⟩:BA))::(aG (eg (ag d) (.mk 12 ⟨#[]⟩ [.mk 6 ⟨#[]⟩ ps a1,res] a))++r)):=h;rw[gB (h.no (by decide)),gB (h.no (by decide)),gG (h.yes (by decide))];have N:=h.len;exact sx hT gd ga (aD c s) h.adv hb (by unfold Fu at hf |-;simp at N;show 3*(c.toks.length-(s.at_+1))+1<=G';omega)
    ·cases D
end
end Go.Proofs.YteialcjaiocjdaaGreatDoor
