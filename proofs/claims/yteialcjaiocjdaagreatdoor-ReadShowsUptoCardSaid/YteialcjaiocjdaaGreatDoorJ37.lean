/-
  Parts of the proof: Ppe Ppf Ppg. By an AI agent.
-/
import Derived.Test.YteialcjaiocjdaaGreatDoorJ36
import Derived.Test.YteialcjaiocjdaaGreatDoorJ34
namespace Go.Proofs.YteialcjaiocjdaaGreatDoor
section
def t6(head:Bool)(t:TK):Bool:=cD t ⟨#[40]⟩||(cD t ⟨#[91]⟩||(cD t ⟨#[46]⟩||(cD t ⟨#[123]⟩ && !head)))
def B2(k:Nat)(t:TK):Bool:=t.1==6&&(DO k).any fun x=>decide (t.2=x)
def fS(head:Bool)(t:TK):Prop:=t6 head t=false/\∀j,1<=j->j<=5->B2 j t=false
theorem iH{head:Bool}{t:TK}(h:t6 head t=false)(N:B2 1 t=false)(M:B2 2 t=false)(J:B2 3 t=false)(I:B2 4 t=false)(D:B2 5 t=false):fS head t:=by
 refine⟨h,fun j a b=>?_⟩;obtain rfl|rfl|rfl|rfl|rfl:j=1\/j=2\/j=3\/j=4\/j=5:=by omega
 ·exact N
 ·exact M
 ·exact J
 ·exact I
 ·exact D
def p6(m:Bool)(s:St):Prop:=s.part<=(s.at_:Int)/\(m=true->s.part=(s.at_:Int))
section
variable (c:Cx)
def t7(m:Bool)(l:List TK)(Q:Nd->Bool->Prop)(head:Bool):Prop:=∀G s r g,At c s (l++r)->s.head=head->p6 m s->Fu c 1 G s->c.toks.length-s.at_<g ->
 ∃x0 b0 s0 n' b' s' g',cN (cI G) c s=.ok (x0,b0) s0/\aK (cI G) g x0 b0 c s0=aK (cI G) g' n' b' c s'/\Q n' b'/\At c s' r/\s'.head=head/\s'.part = -1/\c.toks.length-s'.at_<g'
def SH(m:Bool)(l:List TK)(Q:Nd->Prop)(head:Bool):Prop:=∀G s r,At c s (l++r)->s.head=head->p6 m s->Fu c 1 G s->t6 head (dS r)=false->wt c s r Q (-1) (ly (cI G) c s)
def I6(k:Nat)(m:Bool)(l:List TK)(Q:Nd->Prop)(head:Bool):Prop:=∀G s r,At c s (l++r)->s.head=head->p6 m s->Fu c 1 G s->t6 head (dS r)=false->(∀j,1<=j->j<=k->B2 j (dS r)=false)->wt c s r Q (-1) (lz (cI G) k c s)
def SI(k:Nat)(m:Bool)(l:List TK)(Q:Nd->Prop)(head:Bool):Prop:=∀G s r g,At c s (l++r)->s.head=head->p6 m s->Fu c 1 G s->t6 head (dS r)=false->(∀j,1<=j->j<=k->B2 j (dS r)=false)->c.toks.length-s.at_<g ->
 ∃x0 s0 n' s' g',lz (cI G) k c s=.ok x0 s0/\lw (k+1) (lz (cI G) k) g x0 c s0=lw (k+1) (lz (cI G) k) g' n' c s'/\Q n'/\At c s' r/\s'.head=head/\s'.part = -1/\c.toks.length-s'.at_<g'
def BB(m:Bool)(l:List TK)(Q:Nd->Prop)(head:Bool):Prop:=∀G s r,At c s (l++r)->s.head=head->p6 m s->Fu c 2 G s->fS head (dS r)->wt c s r Q (-1) ((cI G).expr c s)
end
section
variable {c:Cx} {m:Bool} {l:List TK} {Q:Nd->Prop} {head:Bool}
theorem EF{s:St}{l:List TK}(h:At c s l)(k:Nat):Sa k (az c s.at_)=B2 k (dS l):=by unfold Sa B2;rw[h.kind,h.text]
theorem fI{s s':St}{a b:List TK}(h:At c s (a++b))(h':At c s' b):s.at_+a.length=s'.at_:=by have D:=h.len;have I:=h'.len;rw[gM]at D;omega
theorem pq{G g:Nat}{n:Nd}{b:Bool}{s:St}{r:List TK}(h:At c s r)(hs:t6 s.head (dS r)=false):aK (cI G) (g+1) n b c s=.ok n s:=by
 unfold t6 at hs;simp only[kZ]at hs;obtain⟨N,M,J,D⟩:=hs;unfold aK;rw[gB (by rw[h.is,N];decide),gB (by rw[h.is,M];decide),gB (by rw[h.is,J];decide),gB];rw[h.is];cases I:cD (dS r) ⟨#[123]⟩with
 |false=>simp
 |true=>rw[I]at D;simp at D;simp[D]
theorem rL(h:t7 c m l (fun n _=>Q n) head)(hb:cD (dS l) ⟨#[45]⟩=false/\cD (dS l) ⟨#[33]⟩=false)(M:l≠[]):SH c m l Q head:=by intro G s r D hh hp hf hg;(have hd:dS (l++r)=dS l:=by cases l with|nil=>exact absurd rfl M|cons t q=>rfl);unfold ly;rw[gB (by rw[D.is,D.is,hd,hb.1,hb.2];decide)];unfold lU;obtain⟨x0,b0,s0,n',b',s',g',e1,U,O,J,I,N,h7⟩:=h G s r G D hh hp hf (by unfold Fu at hf;omega);rw[e1,bQ.bind_ok,nP,U];obtain⟨g,rfl⟩:∃g,g'=g+1:=⟨g'-1,by omega⟩;rw[pq J (by rw[I];exact hg)];exact⟨n',s',rfl,O,J,I.trans hh.symm,N⟩
theorem fT(h:SH c m l Q head):I6 c 0 m l Q head:=fun G s r ha hh hp hf hg _=>h G s r ha hh hp hf hg
theorem oB{k:Nat}(h:I6 c k m l Q head):SI c k m l Q head:=by intro G s r g ha hh hp hf hg ho hb;obtain⟨n',s',e,M,D,J,I⟩:=h G s r ha hh hp hf hg ho;exact⟨n',s',n',s',g,e,rfl,M,D,J.trans hh,I,by have:=fI ha D;omega⟩
theorem oC{k:Nat}(h:SI c k m l Q head):I6 c (k+1) m l Q head:=by intro G s r ha hh hp hf hg D;obtain⟨x0,s0,n',s',g',U,O,N,I,M,J,h7⟩:=h G s r G ha hh hp hf hg (fun j a b=>D j a (by omega)) (by unfold Fu at hf;omega);unfold lz;rw[U,bQ.bind_ok,nP,O];obtain⟨g,rfl⟩:∃g,g'=g+1:=⟨g'-1,by omega⟩;unfold lw;rw[gB (by rw[EF I,D (k+1) (by omega) (gC _)];decide)];exact⟨n',s',rfl,N,I,M.trans hh.symm,J⟩
theorem wz{k:Nat}(h:I6 c k m l Q head):∀j,I6 c (k+j) m l Q head
 |0=>h
 |j+1=>oC (oB (wz h j))
theorem rM(h:I6 c 5 m l Q head):BB c m l Q head:=by intro G s r ha hh hp hf hg;obtain⟨G',rfl⟩:∃G',G=G'+1:=⟨G-1,by unfold Fu at hf;omega⟩;exact h G' s r ha hh hp (by unfold Fu at hf |-;omega) hg.1 hg.2
theorem p6.no{s:St}(h:s.part = -1):p6 false s:=⟨by rw[h];omega,fun h=>by cases h⟩
theorem p6.adv{s:St}(h:p6 m s):p6 false (adv s):=⟨by have:=h.1;show s.part<=((s.at_+1:Nat):Int);omega,fun h=>by cases h⟩
theorem Fu.adv{k G:Nat}{s:St}{t:TK}{q:List TK}(D:At c s (t::q))(I:Fu c k G s):3<=G/\Fu c k (G-3) (adv s):=by have:=D.len;unfold Fu at *;simp at this;have e:(Go.Proofs.YteialcjaiocjdaaGreatDoor.adv s).at_=s.at_+1:=rfl;constructor<;>omega
theorem Fu.more{k k' G G':Nat}{s:St}(h:Fu c k G s)(D:k'+G<=k+G'):Fu c k' G' s:=by unfold Fu at *;omega
theorem MI{x:ByteArray}{n0:Nd}(a:Int)(I:x=(⟨#[45]⟩:BA)\/x=(⟨#[33]⟩:BA))(h:SH c false l (fun n'=>ci n' n0) head):SH c m ((6,x)::l) (fun n'=>ci n' (.mk 19 x [n0] a)) head:=by intro G s r D hh hp hf hg;have D:At c s ((6,x)::(l++r)):=D;obtain⟨f1,U⟩:=hf.adv D;unfold ly;rw[gG (by rw[D.is,D.is];rcases I with rfl|rfl<;>(show(cD (6,_) _||cD (6,_) _)=true;decide))];obtain⟨G',rfl⟩:∃G',G=G'+1:=⟨G-1,by omega⟩;obtain⟨n',s',e,O,N,M,J⟩:=h G' (adv s) r D.adv hh hp.adv (U.more (by omega)) hg;rw[show(cI (G'+1)).unary c (adv s)=.ok n' s' from e,bQ.bind_ok,D.text];exact⟨_,s',rfl,ci.mk (bi.one O) _ _,N,M,J⟩
theorem Ij{k g:Nat}{below:R Nd}{out y:Nd}{s s1:St}(h:Sa k (az c s.at_)=true)(e:below c (adv s)=.ok y s1):lw k below (g+1) out c s=lw k below g (.mk 20 (az c s.at_).text [out,y] out.pos) c s1:=by have D:lw k below (g+1) out c s=if Sa k (az c s.at_)then(below c (adv s)).bind fun y s1=>lw k below g (.mk 20 (az c s.at_).text [out,y] out.pos) c s1 else .ok out s:=rfl;rw[D,gG h,e];rfl
theorem MJ{k:Nat}{x:ByteArray}{la lb:List TK}{na nb:Nd}(a:Int)(h1:B2 (k+1) (6,x)=true)(h2:∀j,1<=j->j<=k->B2 j (6,x)=false)(h3:t6 head (6,x)=false)
  (hA:SI c k m la (fun n'=>ci n' na) head)(hB:I6 c k false lb (fun n'=>ci n' nb) head):SI c k m (la++((6,x)::lb)) (fun n'=>ci n' (.mk 20 x [na,nb] a)) head:=by
 intro G s r g I hh hp U hg ho hb;rw[gL]at I;have I:At c s (la++((6,x)::(lb++r))):=I;obtain⟨x0,s0,O,J,h,e1,e2,q1,D,N,q4,q5⟩:=hA G s _ g I hh hp U h3 h2 hb;obtain⟨M,rfl⟩:∃M,h=M+1:=⟨h-1,by omega⟩;have ga:=fI I D;obtain⟨n2,s2,e3,p1,p2,p3,p4⟩:=hB G (adv J) r D.adv N (p6.no q4) (U.le (by show s.at_<=J.at_+1;omega)) hg ho;refine⟨x0,s0,.mk 20 x [O,n2] O.pos,s2,M,e1,?_,ci.mk (bi.cons q1 (bi.one p1)) _ _,p2,p3.trans N,p4,?_⟩
 ·rw[e2];rw[Ij (by rw[EF D];exact h1) e3,D.text];rfl
 ·have:=fI D.adv p2;have h4:(adv J).at_=J.at_+1:=rfl;have:=D.len;simp at this;omega
end
theorem MK(h:Bool):fS h dI:=by cases h<;>exact iH (by decide +kernel) (by decide +kernel) (by decide +kernel) (by decide +kernel) (by decide +kernel) (by decide +kernel)
theorem Dh(h:Bool):fS h (6,(⟨#[41]⟩:BA)):=by cases h<;>exact iH (by decide +kernel) (by decide +kernel) (by decide +kernel) (by decide +kernel) (by decide +kernel) (by decide +kernel)
theorem wA(h:Bool):fS h (6,(⟨#[93]⟩:BA)):=by cases h<;>exact iH (by decide +kernel) (by decide +kernel) (by decide +kernel) (by decide +kernel) (by decide +kernel) (by decide +kernel)
theorem ML(h:Bool):fS h (6,(⟨#[125]⟩:BA)):=by cases h<;>exact iH (by decide +kernel) (by decide +kernel) (by decide +kernel) (by decide +kernel) (by decide +kernel) (by decide +kernel)
theorem sy{h:Bool}{t:TK}{en:ByteArray}(D:t=dI\/t=(6,en))(I:fS h (6,en)):fS h t:=by
 rcases D with rfl|rfl
 ·exact MK h
 ·exact I
section
variable {c:Cx} {m:Bool} {head:Bool}
theorem t7.mono{l:List TK}{Q Q':Nd->Bool->Prop}(h:t7 c m l Q head)(J:∀n b,Q n b->Q' n b):t7 c m l Q' head:=by intro G s r g ha hh hp hf hb;obtain⟨D,b0,I,n',b',s',g',U,O,N,M⟩:=h G s r g ha hh hp hf hb;exact⟨D,b0,I,n',b',s',g',U,O,J _ _ N,M⟩
theorem BB.mono{l:List TK}{Q Q':Nd->Prop}(h:BB c m l Q head)(D:∀n,Q n->Q' n):BB c m l Q' head:=by intro G s r ha hh hp hf hb;obtain⟨n',s',M,J,I⟩:=h G s r ha hh hp hf hb;exact⟨n',s',M,D _ J,I⟩
theorem BC{k:Int}{x:ByteArray}{n:Nd}{b:Bool}(h:∀F s,(az c s.at_).kind=k->(az c s.at_).text=x->∃n',cN F c s=.ok (n',b) (adv { s with part :=-1 })/\ci n' n):t7 c m [(k,x)] (fun n' b'=>ci n' n/\b'=b) head:=by intro G s r g D J hp hf hb;have D:At c s ((k,x)::r):=D;obtain⟨n',e,M⟩:=h (cI G) s D.kind D.text;have I:At c (adv { s with part :=-1 }) r:=(D.pt (-1)).adv;exact⟨n',b,_,n',b,_,g,e,rfl,⟨M,rfl⟩,I,J,rfl,by have:=fI (a:=[(k,x)]) D I;omega⟩
theorem sB(x:ByteArray)(a:Int):t7 c m [(1,x)] (fun n b=>ci n (.mk 18 x [] a)/\b=true) head:=
 BC fun F s hk ht=>⟨_,by unfold cN;simp only;rw[gG hk],by rw[ht];exact ci.mk bi.nil _ _⟩
theorem PK{x:ByteArray}(a:Int):t7 c m [(4,x)] (fun n b=>ci n (.mk 16 x [] a)/\b=false) head:=
 BC fun F s hk ht=>⟨_,by unfold cN;simp only;rw[gB (by rw[hk];decide),gG hk],by rw[ht];exact ci.mk bi.nil _ _⟩
theorem MM{q x:ByteArray}(D:mb q=x)(a:Int):t7 c m [(5,q)] (fun n b=>ci n (.mk 17 x [] a)/\b=false) head:=
 BC fun F s hk ht=>⟨_,by unfold cN;simp only;rw[gB (by rw[hk];decide),gB (by rw[hk];decide),gG hk],by rw[ht,D];exact ci.mk bi.nil _ _⟩
theorem BD{α:Type}{p:R α}{s s1:St}{a:α}(h:p c { s with head:=false }=.ok a s1):cB p c s=.ok a { s1 with head:=s.head } :=by unfold cB;rw[h];rfl
theorem mI{F:fK}{s:St}{k:Int}{x:ByteArray}{q:List TK}(I:At c s ((k,x)::q))(D:k≠1/\k≠4/\k≠5):
  cN F c s=(if aP c { s with part :=-1 } (⟨#[40]⟩:BA)then(cB F.expr c (adv { s with part :=-1 })).bind fun y s1=>(bV ⟨#[41]⟩ c s1).bind fun _ s2=>.ok (y,false) s2
   else if aP c { s with part :=-1 } (⟨#[102,117,110,99]⟩:BA)then(dm F (aD c s) (decide (s.part=(s.at_:Int))) c (adv { s with part :=-1 })).bind fun y s1=>.ok (y,false) s1
   else if cY c { s with part :=-1 }then(iD F (decide (s.part=(s.at_:Int))) c { s with part :=-1 }).bind fun y s1=>.ok (y,false) s1
   else .out):=by unfold cN;simp only;rw[gB (by rw[I.kind];exact D.1),gB (by rw[I.kind];exact D.2.1),gB (by rw[I.kind];exact D.2.2)];rfl
theorem Ik{l:List TK}{Q:Nd->Prop}(h:BB c false l Q false):t7 c m ((6,(⟨#[40]⟩:BA))::(l++[(6,(⟨#[41]⟩:BA))])) (fun n _=>Q n) head:=by
 intro G s r g D U hp hf hb;have D:At c s ((6,(⟨#[40]⟩:BA))::((l++[(6,(⟨#[41]⟩:BA))])++r)):=D;obtain⟨f1,N⟩:=hf.adv D;have J:=(D.pt (-1)).adv;rw[gL]at J;have J:At c { adv { s with part :=-1 }with head:=false } (l++((6,(⟨#[41]⟩:BA))::r)):=J;obtain⟨n',I,e1,g1,O,g3,g4⟩:=h G _ _ J rfl (p6.no rfl) (by have N:Fu c 1 (G-3) (adv { s with part :=-1 }):=N;exact N.more (by omega)) (Dh false);have M:At c { I with head:=s.head } ((6,(⟨#[41]⟩:BA))::r):=O;refine⟨n',false,adv { I with head:=s.head },n',false,_,g,?_,rfl,g1,M.adv,U,g4,?_⟩
 ·rw[mI D (by decide),gG ((D.pt (-1)).yes (by decide)),BD e1];simp only[bQ.bind_ok];show((bV ⟨#[41]⟩ c { I with head:=s.head }).bind fun _ s2=>bQ.ok (n',false) s2)=_;rw[eX M ⟨#[41]⟩ (by decide)];rfl
 ·have h1:c.toks.length-(adv { I with head:=s.head }).at_=c.toks.length-(I.at_+1):=rfl;have:=fI J O;have h3:(adv { s with part :=-1 }).at_=s.at_+1:=rfl;have h4:({ adv { s with part :=-1 }with head:=false }:St).at_=s.at_+1:=rfl;omega
theorem Di{G:Nat}{part:R Nd}{en:ByteArray}(Q:Nd->Nd->Prop)(I:cD dI en=false)(D:cD (6,en) en=true)(L:List (List TK×Nd)){s:St}{r:List TK}
  (h:At c s (eh dI (L.map (·.1))++((6,en)::r)))(O:s.part = -1)(M:Fu c 2 G s)
  (J:∀x∈L,cD (dS x.1) en=false/\x.1≠[]/\∀s r,At c s (x.1++r)->s.head=false->s.part = -1->Fu c 2 G s->(dS r=dI\/dS r=(6,en))->wt c s r (fun n'=>Q n' x.2) (-1) (part c s)):
  ∃l' s',cB (bh part en (cI G).g []) c s=.ok l' s'/\mF Q l' (L.map (·.2))/\At c s' r/\s'.head=s.head/\s'.part = -1:=by
 obtain⟨l',s1,e,h1,h2,h3,U⟩:=wu (c:=c) (part:=part) (en:=en) Q (P:=fun s _=>Fu c 2 G s/\s.head=false) I D (-1) (fun s l N s' l' _ hle hh _=>⟨N.1.le hle,by rw[hh];exact N.2⟩) L G [] [] { s with head:=false } r h O (by unfold Fu at M;show c.toks.length-s.at_<G;omega) ⟨M,rfl⟩ .nil
  (fun x hx=>⟨(J x hx).1,(J x hx).2.1,fun s r a b d e=>(J x hx).2.2 s r a b.2 d b.1 e⟩)
 rw[nP];exact⟨l',_,BD e,h1,h2,rfl,U⟩
def Il(c:Cx)(en:ByteArray)(L:List (List TK×Nd)):Prop:=∀x∈L,cD (dS x.1) en=false/\x.1≠[]/\BB c false x.1 (fun n'=>ci n' x.2) false
theorem Dj{G:Nat}{en:ByteArray}(J:cD dI en=false)(D:cD (6,en) en=true)(I:fS false (6,en)){L:List (List TK×Nd)}(M:Il c en L){s:St}{r:List TK}
  (h:At c s (eh dI (L.map (·.1))++((6,en)::r)))(N:s.part = -1)(O:Fu c 2 G s):
  ∃l' s',cB (bh (cI G).expr en (cI G).g []) c s=.ok l' s'/\bi l' (L.map (·.2))/\At c s' r/\s'.head=s.head/\s'.part = -1:=by obtain⟨l',s',e,h1,U⟩:=Di (part:=(cI G).expr) ci J D L h N O (fun x hx=>⟨(M x hx).1,(M x hx).2.1,fun s r a b d e f=>(M x hx).2.2 G s r a b (p6.no d) e (sy f I)⟩);exact⟨l',s',e,h1.eqv,U⟩
theorem PL{F:fK}{g:Nat}{out:Nd}{b:Bool}{s s1:St}{l:List Nd}(h:aP c s ⟨#[40]⟩=true)(e:cB (bh F.expr ⟨#[41]⟩ F.g []) c (adv s)=.ok l s1):aK F (g+1) out b c s=aK F g (.mk 21 ⟨#[]⟩ (out::l) out.pos) false c s1:=by(conv=>lhs;unfold aK);rw[gG h,e];rfl
theorem MN{F:fK}{g:Nat}{out:Nd}{b:Bool}{s s1:St}{l:List Nd}(I:aP c s ⟨#[40]⟩=false)(h:aP c s ⟨#[91]⟩=true)(e:cB (bh (cX F) ⟨#[93]⟩ F.g []) c (adv s)=.ok l s1)(D:l≠[]):aK F (g+1) out b c s=aK F g (.mk 22 ⟨#[]⟩ (out::l) out.pos) b c s1:=by(conv=>lhs;unfold aK);rw[gB (by rw[I];decide),gG h,e];simp only[bQ.bind_ok];rw[gB (fun h=>D (jS h))]
theorem MO{F:fK}{g:Nat}{out:Nd}{b:Bool}{s s1:St}{x:ByteArray}(I:aP c s ⟨#[40]⟩=false)(D:aP c s ⟨#[91]⟩=false)(h:aP c s ⟨#[46]⟩=true)(e:cT c (adv s)=.ok x s1):aK F (g+1) out b c s=aK F g (.mk 23 x [out] out.pos) false c s1:=by(conv=>lhs;unfold aK);rw[gB (by rw[I];decide),gB (by rw[D];decide),gG h,e];rfl
theorem SJ{F:fK}{g:Nat}{out t n:Nd}{s s1:St}(N:aP c s ⟨#[40]⟩=false)(M:aP c s ⟨#[91]⟩=false)(J:aP c s ⟨#[46]⟩=false)(h:aP c s ⟨#[123]⟩=true)(I:s.head=false)(D:bP out=some t)(e:dc F t c s=.ok n s1):aK F (g+1) out true c s=aK F g n false c s1:=by(conv=>lhs;unfold aK);rw[gB (by rw[N];decide),gB (by rw[M];decide),gB (by rw[J];decide),gG (by rw[h,I];rfl),D];simp only;rw[e];rfl
theorem MP{lf:List TK}{f:Nd}{L:List (List TK×Nd)}(a:Int)(hF:t7 c m lf (fun n _=>ci n f) head)(hL:Il c ⟨#[41]⟩ L):
  t7 c m (lf++((6,(⟨#[40]⟩:BA))::(eh dI (L.map (·.1))++[(6,(⟨#[41]⟩:BA))]))) (fun n _=>ci n (.mk 21 ⟨#[]⟩ (f::L.map (·.2)) a)) head:=by intro G s r g ha hh hp N hb;(have e:lf++((6,(⟨#[40]⟩:BA))::(eh dI (L.map (·.1))++[(6,(⟨#[41]⟩:BA))]))++r=lf++((6,(⟨#[40]⟩:BA))::(eh dI (L.map (·.1))++((6,(⟨#[41]⟩:BA))::r))):=by simp);rw[e]at ha;obtain⟨U,b0,s0,M,b1,I,O,e1,e2,q1,D,q3,q4,q5⟩:=hF G s _ g ha hh hp N hb;obtain⟨J,rfl⟩:∃J,O=J+1:=⟨O-1,by omega⟩;have ga:=fI ha D;obtain⟨f1,f2⟩:=(N.le (s':=I) (by omega)).adv D;obtain⟨l',h,e3,p1,p2,p3,p4⟩:=Dj (G:=G) (by decide) (by decide) (Dh false) hL D.adv q4 (f2.more (by omega));refine⟨U,b0,s0,.mk 21 ⟨#[]⟩ (M::l') M.pos,false,h,J,e1,e2.trans (PL (D.yes (by decide)) e3),ci.mk (bi.cons q1 p1) _ _,p2,p3.trans q3,p4,?_⟩;have h1:=D.adv.len;have h2:=p2.len;have h3:(adv I).at_=I.at_+1:=rfl;simp at h1;omega
def Im(c:Cx)(l:List TK)(Q:Nd->Prop):Prop:=∀G s r,At c s (l++r)->s.head=false->s.part=(s.at_:Int)->Fu c 2 G s->(dS r=dI\/dS r=(6,(⟨#[93]⟩:BA)))->wt c s r Q (-1) ((cI G).expr c s)
theorem BB.br{l:List TK}{Q:Nd->Prop}(h:BB c true l Q false):Im c l Q:=fun G s r a b p d e=>h G s r a b ⟨Int.le_of_eq p,fun _=>p⟩ d (sy e (wA false))
def EG(c:Cx)(Q:Nd->Nd->Prop)(L:List (List TK×Nd)):Prop:=∀x∈L,cD (dS x.1) ⟨#[93]⟩=false/\x.1≠[]/\Im c x.1 (fun n'=>Q n' x.2)
theorem BE{G:Nat}{Q:Nd->Nd->Prop}{L:List (List TK×Nd)}(D:EG c Q L){s:St}{r:List TK}
  (h:At c s (eh dI (L.map (·.1))++((6,(⟨#[93]⟩:BA))::r)))(I:s.part = -1)(J:Fu c 2 G s):
  ∃l' s',cB (bh (cX (cI G)) ⟨#[93]⟩ (cI G).g []) c s=.ok l' s'/\mF Q l' (L.map (·.2))/\At c s' r/\s'.head=s.head/\s'.part = -1:=
 Di (part:=cX (cI G)) Q (by decide) (by decide) L h I J fun x hx=>⟨(D x hx).1,(D x hx).2.1,fun s r a b d e f=>(D x hx).2.2 G { s with part:=(s.at_:Int) } r a b rfl e f⟩
theorem Ar{lf:List TK}{P:Nd->Bool->Prop}{Q:Nd->Nd->Prop}{Q':Nd->Bool->Prop}{L:List (List TK×Nd)}(M:L≠[])(hF:t7 c m lf P head)(hL:EG c Q L)
  (hQ:∀n b l p,P n b->mF Q l (L.map (·.2))->Q' (.mk 22 ⟨#[]⟩ (n::l) p) b):
  t7 c m (lf++((6,(⟨#[91]⟩:BA))::(eh dI (L.map (·.1))++[(6,(⟨#[93]⟩:BA))]))) Q' head:=by
 intro G s r g ha hh hp h hb;(have e:lf++((6,(⟨#[91]⟩:BA))::(eh dI (L.map (·.1))++[(6,(⟨#[93]⟩:BA))]))++r=lf++((6,(⟨#[91]⟩:BA))::(eh dI (L.map (·.1))++((6,(⟨#[93]⟩:BA))::r))):=by simp);rw[e]at ha;obtain⟨x0,b0,s0,U,b1,I,g1,e1,e2,q1,D,q3,q4,q5⟩:=hF G s _ g ha hh hp h hb;obtain⟨O,rfl⟩:∃O,g1=O+1:=⟨g1-1,by omega⟩;have ga:=fI ha D;obtain⟨f1,f2⟩:=(h.le (s':=I) (by omega)).adv D;obtain⟨l',s2,e3,J,p2,p3,p4⟩:=BE (G:=G) hL D.adv q4 (f2.more (by omega));have N:l'≠[]:=by
  rintro rfl;cases L with
  |nil=>exact M rfl
  |cons y L=>rw[jT]at J;cases J
 refine⟨x0,b0,s0,.mk 22 ⟨#[]⟩ (U::l') U.pos,b1,s2,O,e1,e2.trans (MN (Bool.eq_false_iff.2 (D.no (by decide))) (D.yes (by decide)) e3 N),hQ _ _ _ _ q1 J,p2,p3.trans q3,p4,?_⟩;have h1:=D.adv.len;have h2:=p2.len;have h3:(adv I).at_=I.at_+1:=rfl;simp at h1;omega
theorem In{lf:List TK}{f:Nd}{x:ByteArray}(a:Int)(hF:t7 c m lf (fun n _=>ci n f) head):t7 c m (lf++[(6,(⟨#[46]⟩:BA)),(1,x)]) (fun n _=>ci n (.mk 23 x [f] a)) head:=by intro G s r g ha hh hp hf hb;(have e:lf++[((6:Int),(⟨#[46]⟩:BA)),(1,x)]++r=lf++((6,(⟨#[46]⟩:BA))::(1,x)::r):=by simp);rw[e]at ha;obtain⟨O,b0,U,M,b1,I,N,e1,e2,q1,D,q3,h,q5⟩:=hF G s _ g ha hh hp hf hb;obtain⟨J,rfl⟩:∃J,N=J+1:=⟨N-1,by omega⟩;refine⟨O,b0,U,.mk 23 x [M] M.pos,false,adv (adv I),J,e1,e2.trans (MO (Bool.eq_false_iff.2 (D.no (by decide))) (Bool.eq_false_iff.2 (D.no (by decide))) (D.yes (by decide)) (lQ D.adv)),ci.mk (bi.one q1) _ _,D.adv.adv,q3,h,?_⟩;have h1:=D.len;have h3:(adv (adv I)).at_=I.at_+1+1:=rfl;simp at h1;omega
theorem FS{G:Nat}{t D:Nd}{L:List (List TK×Nd)}(a:Int)(M:ci t D)(U:Il c ⟨#[125]⟩ L){s:St}{r:List TK}(h:At c s ((6,(⟨#[123]⟩:BA))::(eh dI (L.map (·.1))++((6,(⟨#[125]⟩:BA))::r))))(N:s.part = -1)(O:Fu c 1 G s):
  wt c s r (fun n'=>ci n' (.mk 24 ⟨#[]⟩ (D::L.map (·.2)) a)) (-1) (dc (cI G) t c s):=by obtain⟨f1,f2⟩:=O.adv h;obtain⟨l',I,e3,J,p2,p3,p4⟩:=Dj (G:=G) (by decide) (by decide) (ML false) U h.adv N (f2.more (by omega));unfold dc;rw[eX h ⟨#[123]⟩ (by decide),bQ.bind_ok,e3,bQ.bind_ok];exact⟨_,I,rfl,ci.mk (bi.cons M J) _ _,p2,p3,p4⟩
end
def EH(n T:Nd):Prop:=∃t,bP n=some t/\ci t T
section
variable {c:Cx} {m:Bool} {head:Bool}
theorem pu{G:Nat}{s s0:St}{I:Nd}{b0:Bool}{l r:List TK}(J:At c s l)(hb:cD (dS l) ⟨#[45]⟩=false/\cD (dS l) ⟨#[33]⟩=false)(h:cN (cI G) c s=.ok (I,b0) s0)(M:At c s0 r)(D:fS s0.head (dS r))(O:1<=G):(cI (G+1)).expr c s=.ok I s0:=by
 have key:∀k,k<=5->lz (cI G) k c s=.ok I s0:=by
  intro k;induction k with
  |zero=>intro _;show ly (cI G) c s=_;unfold ly;rw[gB (by rw[J.is,J.is,hb.1,hb.2];decide)];unfold lU;rw[h,bQ.bind_ok,nP];obtain⟨g,rfl⟩:∃g,G=g+1:=⟨G-1,by omega⟩;exact pq M D.1
  |succ k ih=>intro N;unfold lz;rw[ih (by omega),bQ.bind_ok,nP];obtain⟨g,rfl⟩:∃g,G=g+1:=⟨G-1,by omega⟩;unfold lw;rw[gB (by rw[EF M,D.2 (k+1) (by omega) N];decide)]
 exact key 5 (gC _)
theorem wB{s:St}{l:List TK}(h:At c s l):iR c s=(cD (dS l) ⟨#[44]⟩||cD (dS l) ⟨#[93]⟩):=by unfold iR;rw[h.is,h.is]
theorem wC{s:St}{l:List TK}(h:At c s l)(D:dS l=dI\/dS l=(6,(⟨#[93]⟩:BA))):iR c s=true:=by rw[wB h];rcases D with e|e<;>rw[e]<;>decide
theorem wD{s:St}{t:TK}{l:List TK}(h:At c s (t::l)):((az c (s.at_+1)).kind,(az c (s.at_+1)).text)=dS l:=h.adv.tok
theorem As{s:St}{t t1 t2:TK}{l:List TK}(h:At c s (t::t1::t2::l)):i9 c s=(t1.1==1&&(t2.1==1||(cD t2 ⟨#[102,117,110,99]⟩||(cD t2 ⟨#[40]⟩||(cD t2 ⟨#[91]⟩&&((dS l).1==6&&decide ((dS l).2=(⟨#[93]⟩:BA)))))))):=by have I:=h.adv;have D:=I.adv;have J:=h.len;simp at J;unfold i9;rw[jK (show s.at_+2<c.toks.length by omega),jP];rw[show(az c (s.at_+1)).kind=t1.1 from I.kind,show(az c (s.at_+2)).kind=t2.1 from D.kind];rw[show aP c { s with at_:=s.at_+2 } (⟨#[102,117,110,99]⟩:BA)=cD t2 ⟨#[102,117,110,99]⟩from D.is _,show aP c { s with at_:=s.at_+2 } (⟨#[40]⟩:BA)=cD t2 ⟨#[40]⟩from D.is _,show cY c { s with at_:=s.at_+2 }=_ from D.slice];rfl
theorem EI{d:Nat}{T:Nd}(O:(aa d).typ T=true){r:List TK}(J:dq (dS r)=false):
  ∃t1 q,aG (ag d T)++r=t1::q/\t1.2≠(⟨#[41]⟩:BA)/\(t1.1==1&&((dS q).1==1||(cD (dS q) ⟨#[102,117,110,99]⟩||(cD (dS q) ⟨#[40]⟩||(cD (dS q) ⟨#[91]⟩&&((dS q.tail).1==6&&decide ((dS q.tail).2=(⟨#[93]⟩:BA))))))))=false:=by
 obtain⟨t,l,e,ht⟩:=f9 O;refine⟨t,l++r,by rw[e];rfl,?_⟩;have D:=typ_kind O;cases d with
 |zero=>cases O
 | succ d=>
  have M:dH (aa d) T=true:=O;unfold ag at e;rcases D with D|D|D
  ·rw[gB (by rw[D];decide),gB (by rw[D];decide),gB (by rw[D];decide),iP]at e;injection e with e1 I;subst e1;unfold dH at M;rw[gG D,gA]at M;refine⟨fun h=>?_,?_⟩
   ·have h:T.text=(⟨#[41]⟩:BA):=h;rw[h]at M;exact absurd M.1 (by decide +kernel)
   show(true&&_)=false;rw[jP];unfold nh at I;cases N:T.kids with
   |nil=>rw[N,gG rfl]at I;have I:[]=l:=I;subst I;unfold dq at J;simp only[kZ]at J;show(_||(_||(_||(_&&_))))=false;rw[show(([]++r:List TK))=r from rfl,J.1,J.2.2.2.1,J.2.2.2.2.1,J.2.2.2.2.2.1];rfl
   | cons y ks=>
    rw[gB (by rw[N];simp),lF,aX,pN,N]at I;subst I;obtain⟨u,q,e3,hu⟩:=f9 (List.all_eq_true.1 M.2 y (by rw[N];simp));have e4:∃q',eh dI (((y::ks).map (ag d)).map aG)=u::q':=by
     cases ks with
     |nil=>exact⟨_,by show aG (ag d y)=_;rw[e3]⟩
     |cons z ks=>exact⟨_,by rw[jT,jT,jT,jT,eh,e3];rfl⟩
    obtain⟨q',e4⟩:=e4;rw[e4];show(false||(cD (6,dx [91]) ⟨#[102,117,110,99]⟩||(cD (6,dx [91]) ⟨#[40]⟩||(cD (6,dx [91]) ⟨#[91]⟩&&(u.1==6&&decide (u.2=(⟨#[93]⟩:BA)))))))=false;have U:=bU hu ⟨#[93]⟩ (by decide) (by decide) (by decide) (by decide) (by decide);unfold cD at U;rw[show cD (6,dx [91]) ⟨#[102,117,110,99]⟩=false by decide,show cD (6,dx [91]) ⟨#[40]⟩=false by decide,show cD (6,dx [91]) ⟨#[91]⟩=true by decide];cases h6:u.1==6 with
    |false=>rfl
    |true=>rw[h6]at U;simpa using U
  ·rw[gG D]at e;injection e with e1 _;subst e1;exact⟨by decide,rfl⟩
  ·rw[gB (by rw[D];decide),gG D]at e;injection e with e1 _;subst e1;exact⟨by decide,rfl⟩
theorem Dk{n:Nd}(h:n.kind=10\/n.kind=11\/n.kind=12):bP n=some n:=by obtain⟨k,t,l,a⟩:=n;have h:k=10\/k=11\/k=12:=h;unfold bP;rw[gG h]
theorem EH.self{n T:Nd}(h:ci n T)(D:T.kind=10\/T.kind=11\/T.kind=12):EH n T:=⟨n,Dk (by rw[h.kind];exact D),h⟩
theorem tS:∀{l L:List Nd},mF EH l L->∃l',cC l=some l'/\bi l' L
 |_,_,.nil=>⟨[],by unfold cC;rfl,bi.nil⟩
 |_,_,.cons ⟨t,J,I⟩ hs=>by obtain⟨l',e,D⟩:=tS hs;refine⟨t::l',?_,bi.cons I D⟩;unfold cC;rw[J,e];rfl
theorem MQ{n x:Nd}{k:Int}{t:ByteArray}{l:List Nd}{a:Int}(h:ci n (.mk k t (x::l) a)):ci (n.kids.headD cc) x:=by
 have D:=h.kids;cases I:n.kids with
 |nil=>rw[I]at D;exact absurd D.len (by simp)
 |cons y q=>rw[I]at D;have D:nW (y::q)=nW (x::l):=D;rw[nW,nW]at D;injection D
theorem Io{d G:Nat}{ps:List Nd}{a1 a:Int}{res:Nd}(hT:EB c G d)(N:ps.all (d4 (aa d) ec)=true)(I:an res=true\/(aa d).typ res=true)(p:Int)
  {s:St}{r:List TK}(h:At c s (aG (eg (ag d) (.mk 12 ⟨#[]⟩ [.mk 6 ⟨#[]⟩ ps a1,res] a))++r))(hr:dS r=dI\/dS r=(6,(⟨#[93]⟩:BA)))(hf:Fu c 1 G s):
  nO c s r (.mk 12 ⟨#[]⟩ [.mk 6 ⟨#[]⟩ ps a1,res] a) s.part (dm (cI G) p true c s):=by
 have hb:=Bx hr Bw;unfold dm;cases ps with
 |nil=>have h':At c s ((6,(⟨#[40]⟩:BA))::(6,(⟨#[41]⟩:BA))::(aG (if res.kind=0 then[]else aY::ag d res)++r)):=h;rw[gB (fun hh=>hh.2.2.2 (jM Prod.snd (wD h')))];obtain⟨n',s1,U,g1,O,g3,g4⟩:=By (so:=fun _=>false) (part:=fC (cI G)) (ps:=[]) (a1:=a1) (a:=a) hT rfl I (fun x t a M=>by cases M) (fun x t M=>by cases M) p h hb hf;have hz:(n'.kids.headD cc).kids.length=0:=(ci.kids (MQ g1)).len;rw[show n7 (cI G) p c s=.ok n' s1 from U,bQ.bind_ok,gG ⟨rfl,hz,wC O hr⟩];exact⟨n',s1,rfl,g1,O,g3,g4⟩
 | cons y ps=>
  obtain⟨t,l,a2,rfl,J,M⟩:=aJ (by decide) (List.all_eq_true.1 N y (by simp));obtain⟨z,rfl,hz⟩:=dW M;unfold ec at J;rw[gD]at J;subst J;have e:∃r',aG (eg (ag d) (.mk 12 ⟨#[]⟩ [.mk 6 ⟨#[]⟩ (.mk 8 ⟨#[]⟩ [z] a2::ps) a1,res] a))++r=(6,(⟨#[40]⟩:BA))::(aG (ag d z)++r')/\dq (dS r')=false/\r'≠[]:=by
   rw[um,jT];obtain⟨r',U,D⟩:=Aq (aG (ag d z)) (ps.map fun x=>aG (dD x.text++ag d (aW x 0))) ((6,(⟨#[41]⟩:BA))::(aG (if res.kind=0 then[]else aY::ag d res)++r));refine⟨r',jM _ U,?_⟩;rcases D with rfl|⟨q,rfl⟩
   ·exact⟨FR,by simp⟩
   ·exact⟨FQ,by simp⟩
  obtain⟨r',e,gb,ga⟩:=e;have h':=h;rw[e]at h';obtain⟨t1,q,D,h1,h2⟩:=EI hz gb;have hq:∃t2 q2,q=t2::q2:=by
   obtain⟨t0,l0,e3,_⟩:=f9 hz;rw[e3]at D;have D:t0::(l0++r')=t1::q:=D;injection D with _ D;cases r' with
   |nil=>exact absurd rfl ga
   | cons u r'=>cases l0 with
     |nil=>exact⟨u,r',D.symm⟩
     |cons v l0=>exact⟨v,_,D.symm⟩
  obtain⟨t2,q2,rfl⟩:=hq;rw[D]at h';have hl:=h'.len;simp at hl;rw[gG ⟨rfl,by rw[As h'];exact h2,by omega,by rw[show(az c (s.at_+1)).text=t1.2 from jM Prod.snd (wD h')];exact h1⟩];obtain⟨n',s1,U,g1,O,g3,g4⟩:=sx hT N I p h hb hf;rw[U,bQ.bind_ok,gG (wC O hr)];exact⟨n',s1,rfl,g1,O,g3,g4⟩
def PM(c:Cx)(l:List TK)(n:Nd):Prop:=∀G s r,At c s (l++r)->s.part = -1->Fu c 1 G s->nO c s r n (-1) (bH (cI G) c s)
theorem MR{d G:Nat}{ps:List Nd}{a1 a2:Int}(a:Int){res b:Nd}{lb:List TK}(hT:EB c G d)(I:ps.all (d4 (aa d) aB)=true)(D:an res=true\/(aa d).typ res=true)(p:Int)(types:Bool)
  (hB:PM c ((6,(⟨#[123]⟩:BA))::lb) b){s:St}{r:List TK}(h:At c s (aG (eg (ag d) (.mk 12 ⟨#[]⟩ [.mk 6 ⟨#[]⟩ ps a1,res] a2))++((6,(⟨#[123]⟩:BA))::(lb++r))))(hp:s.part = -1)(hf:Fu c 1 G s):
  nO c s r (.mk 25 ⟨#[]⟩ [.mk 12 ⟨#[]⟩ [.mk 6 ⟨#[]⟩ ps a1,res] a2,b] a) (-1) (dm (cI G) p types c s):=by
 (have hb:dq (dS ((6,(⟨#[123]⟩:BA))::(lb++r)))=false:=by show dq (6,(⟨#[123]⟩:BA))=false;decide +kernel);unfold dm;rw[gB]
 ·obtain⟨n',s1,U,g1,O,g3,g4⟩:=Dg hT I D p h hb hf;rw[U,bQ.bind_ok,gB]
  ·obtain⟨n2,s2,e3,p1,p2,p3,p4⟩:=hB G s1 r O (g4.trans hp) (hf.le (by have:=fI h O;omega));rw[e3,bQ.bind_ok];exact⟨_,s2,rfl,ci.mk (bi.cons g1 (bi.one p1)) _ _,p2,p3.trans g3,p4⟩
  ·rintro⟨-,-,h3⟩;rw[wB O]at h3;exact absurd h3 (by show ¬ (cD (6,(⟨#[123]⟩:BA)) ⟨#[44]⟩||cD (6,(⟨#[123]⟩:BA)) ⟨#[93]⟩)=true;decide)
 ·rintro⟨-,J,-,hx⟩;cases ps with
  |nil=>have h':At c s ((6,(⟨#[40]⟩:BA))::(6,(⟨#[41]⟩:BA))::(aG (if res.kind=0 then[]else aY::ag d res)++((6,(⟨#[123]⟩:BA))::(lb++r)))):=h;exact hx (jM Prod.snd (wD h'))
  |cons y ps=>
   obtain⟨t,l,a3,rfl,M,ht⟩:=aJ (by decide) (List.all_eq_true.1 I y (by simp));obtain⟨z,rfl,hz⟩:=dW ht;(have e:∃r',aG (eg (ag d) (.mk 12 ⟨#[]⟩ [.mk 6 ⟨#[]⟩ (.mk 8 t [z] a3::ps) a1,res] a2))++((6,(⟨#[123]⟩:BA))::(lb++r))=(6,(⟨#[40]⟩:BA))::(1,t)::(aG (ag d z)++r'):=by rw[um,jT];obtain⟨r',U,-⟩:=Aq (aG (dD t++ag d z)) (ps.map fun x=>aG (dD x.text++ag d (aW x 0))) ((6,(⟨#[41]⟩:BA))::(aG (if res.kind=0 then[]else aY::ag d res)++((6,(⟨#[123]⟩:BA))::(lb++r))));refine⟨r',(jM _ U).trans ?_⟩;rw[ww M];rfl);obtain⟨r',e⟩:=e;rw[e]at h;obtain⟨t0,l0,e2,N⟩:=pO hz;rw[e2]at h;have h:At c s ((6,(⟨#[40]⟩:BA))::(1,t)::t0::(l0++r')):=h;rw[As h]at J;rcases N with N|rfl|⟨rfl,q,rfl⟩
   ·rw[N]at J;cases J
   ·cases J
   ·cases J
end
end
end Go.Proofs.YteialcjaiocjdaaGreatDoor
