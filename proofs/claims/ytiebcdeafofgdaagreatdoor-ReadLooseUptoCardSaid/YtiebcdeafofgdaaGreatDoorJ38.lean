/-
  Parts of the proof: Ppg Pph. By an AI agent.
-/
import Derived.Test.YtiebcdeafofgdaaGreatDoorJ37
namespace Go.Proofs.YtiebcdeafofgdaaGreatDoor
section
def Ep(n T:Nd):Prop:=∃t,bK n=some t/\co t T
section
variable {c:Cx} {m:Bool} {head:Bool}
theorem o9{G:Nat}{s s0:St}{I:Nd}{b0:Bool}{l r:List TK}(J:At c s l)(hb:cW (et l) ⟨#[45]⟩=false/\cW (et l) ⟨#[33]⟩=false)(h:cH (di G) c s=.ok (I,b0) s0)(M:At c s0 r)(D:fD s0.head (et r))(O:1<=G):(di (G+1)).expr c s=.ok I s0:=by
 have key:∀k,k<=5->i6 (di G) k c s=.ok I s0:=by
  intro k;induction k with
  |zero=>intro _;show iZ (di G) c s=_;unfold iZ;rw[d5 (by rw[J.is,J.is,hb.1,hb.2];decide)];unfold lD;rw[h,cC.bind_ok,sk];obtain⟨g,rfl⟩:∃g,G=g+1:=⟨G-1,by omega⟩;exact o7 M D.1
  |succ k ih=>intro N;unfold i6;rw[ih (by omega),cC.bind_ok,sk];obtain⟨g,rfl⟩:∃g,G=g+1:=⟨G-1,by omega⟩;unfold iX;rw[d5 (by rw[En M,D.2 (k+1) (by omega) N];decide)]
 exact key 5 (gA _)
theorem wh{s:St}{l:List TK}(h:At c s l):iv c s=(cW (et l) ⟨#[44]⟩||cW (et l) ⟨#[93]⟩):=by unfold iv;rw[h.is,h.is]
theorem wi{s:St}{l:List TK}(h:At c s l)(D:et l=cX\/et l=(6,(⟨#[93]⟩:BA))):iv c s=true:=by rw[wh h];rcases D with e|e<;>rw[e]<;>decide
theorem wm{s:St}{t:TK}{l:List TK}(h:At c s (t::l)):((ay c (s.at_+1)).kind,(ay c (s.at_+1)).text)=et l:=h.adv.tok
theorem yU{s:St}{t t1 t2:TK}{l:List TK}(h:At c s (t::t1::t2::l)):iH c s=(t1.1==1&&(t2.1==1||(cW t2 ⟨#[102,117,110,99]⟩||(cW t2 ⟨#[40]⟩||(cW t2 ⟨#[91]⟩&&((et l).1==6&&decide ((et l).2=(⟨#[93]⟩:BA)))))))):=by have I:=h.adv;have D:=I.adv;have J:=h.len;simp at J;unfold iH;rw[jO (show s.at_+2<c.toks.length by omega),kK];rw[show(ay c (s.at_+1)).kind=t1.1 from I.kind,show(ay c (s.at_+2)).kind=t2.1 from D.kind];rw[show aS c { s with at_:=s.at_+2 } (⟨#[102,117,110,99]⟩:BA)=cW t2 ⟨#[102,117,110,99]⟩from D.is _,show aS c { s with at_:=s.at_+2 } (⟨#[40]⟩:BA)=cW t2 ⟨#[40]⟩from D.is _,show dE c { s with at_:=s.at_+2 }=_ from D.slice];rfl
theorem Er{d:Nat}{T:Nd}(O:(aa d).typ T=true){r:List TK}(J:eD (et r)=false):
  ∃t1 q,aH (am d T)++r=t1::q/\t1.2≠(⟨#[41]⟩:BA)/\(t1.1==1&&((et q).1==1||(cW (et q) ⟨#[102,117,110,99]⟩||(cW (et q) ⟨#[40]⟩||(cW (et q) ⟨#[91]⟩&&((et q.tail).1==6&&decide ((et q.tail).2=(⟨#[93]⟩:BA))))))))=false:=by
 obtain⟨t,l,e,ht⟩:=lC O;refine⟨t,l++r,by rw[e];rfl,?_⟩;have D:=typ_kind O;cases d with
 |zero=>cases O
 | succ d=>
  have M:dA (aa d) T=true:=O;unfold am at e;rcases D with D|D|D
  ·rw[d5 (by rw[D];decide),d5 (by rw[D];decide),d5 (by rw[D];decide),ob]at e;injection e with e1 I;subst e1;unfold dA at M;rw[gF D,gB]at M;refine⟨fun h=>?_,?_⟩
   ·have h:T.text=(⟨#[41]⟩:BA):=h;rw[h]at M;exact absurd M.1 (by decide +kernel)
   show(true&&_)=false;rw[kK];unfold nY at I;cases N:T.kids with
   |nil=>rw[N,gF rfl]at I;have I:[]=l:=I;subst I;unfold eD at J;simp only[qe]at J;show(_||(_||(_||(_&&_))))=false;rw[show(([]++r:List TK))=r from rfl,J.1,J.2.2.2.1,J.2.2.2.2.1,J.2.2.2.2.2.1];rfl
   | cons y ks=>
    rw[d5 (by rw[N];simp),it,aR,sh,N]at I;subst I;obtain⟨u,q,e3,hu⟩:=lC (List.all_eq_true.1 M.2 y (by rw[N];simp));have e4:∃q',fg cX (((y::ks).map (am d)).map aH)=u::q':=by
     cases ks with
     |nil=>exact⟨_,by show aH (am d y)=_;rw[e3]⟩
     |cons z ks=>exact⟨_,by rw[kE,kE,kE,kE,fg,e3];rfl⟩
    obtain⟨q',e4⟩:=e4;rw[e4];show(false||(cW (6,d7 [91]) ⟨#[102,117,110,99]⟩||(cW (6,d7 [91]) ⟨#[40]⟩||(cW (6,d7 [91]) ⟨#[91]⟩&&(u.1==6&&decide (u.2=(⟨#[93]⟩:BA)))))))=false;have U:=cr hu ⟨#[93]⟩ (by decide) (by decide) (by decide) (by decide) (by decide);unfold cW at U;rw[show cW (6,d7 [91]) ⟨#[102,117,110,99]⟩=false by decide,show cW (6,d7 [91]) ⟨#[40]⟩=false by decide,show cW (6,d7 [91]) ⟨#[91]⟩=true by decide];cases h6:u.1==6 with
    |false=>rfl
    |true=>rw[h6]at U;simpa using U
  ·rw[gF D]at e;injection e with e1 _;subst e1;exact⟨by decide,rfl⟩
  ·rw[d5 (by rw[D];decide),gF D]at e;injection e with e1 _;subst e1;exact⟨by decide,rfl⟩
theorem CT{n:Nd}(h:n.kind=10\/n.kind=11\/n.kind=12):bK n=some n:=by obtain⟨k,t,l,a⟩:=n;have h:k=10\/k=11\/k=12:=h;unfold bK;rw[gF h]
theorem Ep.self{n T:Nd}(h:co n T)(D:T.kind=10\/T.kind=11\/T.kind=12):Ep n T:=⟨n,CT (by rw[h.kind];exact D),h⟩
theorem tI:∀{l L:List Nd},iW Ep l L->∃l',cx l=some l'/\bF l' L
 |_,_,.nil=>⟨[],by unfold cx;rfl,bF.nil⟩
 |_,_,.cons ⟨t,J,I⟩ hs=>by obtain⟨l',e,D⟩:=tI hs;refine⟨t::l',?_,bF.cons I D⟩;unfold cx;rw[J,e];rfl
theorem My{n x:Nd}{k:Int}{t:ByteArray}{l:List Nd}{a:Int}(h:co n (.mk k t (x::l) a)):co (n.kids.headD bX) x:=by
 have D:=h.kids;cases I:n.kids with
 |nil=>rw[I]at D;exact absurd D.len (by simp)
 |cons y q=>rw[I]at D;have D:nK (y::q)=nK (x::l):=D;rw[nK,nK]at D;injection D
theorem G0{d G:Nat}{ps:List Nd}{a1 a:Int}{res:Nd}(hT:Ej c G d)(N:ps.all (dQ (aa d) dV)=true)(I:ah res=true\/(aa d).typ res=true)(p:Int)
  {s:St}{r:List TK}(h:At c s (aH (fm (am d) (.mk 12 ⟨#[]⟩ [.mk 6 ⟨#[]⟩ ps a1,res] a))++r))(hr:et r=cX\/et r=(6,(⟨#[93]⟩:BA)))(hf:Fu c 1 G s):
  sf c s r (.mk 12 ⟨#[]⟩ [.mk 6 ⟨#[]⟩ ps a1,res] a) s.part (dh (di G) p true c s):=by
 have hb:=AW hr AV;unfold dh;cases ps with
 |nil=>have h':At c s ((6,(⟨#[40]⟩:BA))::(6,(⟨#[41]⟩:BA))::(aH (if res.kind=0 then[]else bu::am d res)++r)):=h;rw[d5 (fun hh=>hh.2.2.2 (jM Prod.snd (wm h')))];obtain⟨n',s1,U,g1,O,g3,g4⟩:=AY (so:=fun _=>false) (part:=fp (di G)) (ps:=[]) (a1:=a1) (a:=a) hT rfl I (fun x t a M=>by cases M) (fun x t M=>by cases M) p h hb hf;have hz:(n'.kids.headD bX).kids.length=0:=(co.kids (My g1)).len;rw[show nN (di G) p c s=.ok n' s1 from U,cC.bind_ok,gF ⟨rfl,hz,wi O hr⟩];exact⟨n',s1,rfl,g1,O,g3,g4⟩
 | cons y ps=>
  obtain⟨t,l,a2,rfl,J,M⟩:=aN (by decide) (List.all_eq_true.1 N y (by simp));obtain⟨z,rfl,hz⟩:=d8 M;unfold dV at J;rw[gE]at J;subst J;have e:∃r',aH (fm (am d) (.mk 12 ⟨#[]⟩ [.mk 6 ⟨#[]⟩ (.mk 8 ⟨#[]⟩ [z] a2::ps) a1,res] a))++r=(6,(⟨#[40]⟩:BA))::(aH (am d z)++r')/\eD (et r')=false/\r'≠[]:=by
   rw[AX,kE];obtain⟨r',U,D⟩:=yR (aH (am d z)) (ps.map fun x=>aH (dx x.text++am d (bc x 0))) ((6,(⟨#[41]⟩:BA))::(aH (if res.kind=0 then[]else bu::am d res)++r));refine⟨r',jM _ U,?_⟩;rcases D with rfl|⟨q,rfl⟩
   ·exact⟨Fi,by simp⟩
   ·exact⟨Fh,by simp⟩
  obtain⟨r',e,gb,ga⟩:=e;have h':=h;rw[e]at h';obtain⟨t1,q,D,h1,h2⟩:=Er hz gb;have hq:∃t2 q2,q=t2::q2:=by
   obtain⟨t0,l0,e3,_⟩:=lC hz;rw[e3]at D;have D:t0::(l0++r')=t1::q:=D;injection D with _ D;cases r' with
   |nil=>exact absurd rfl ga
   | cons u r'=>cases l0 with
     |nil=>exact⟨u,r',D.symm⟩
     |cons v l0=>exact⟨v,_,D.symm⟩
  obtain⟨t2,q2,rfl⟩:=hq;rw[D]at h';have hl:=h'.len;simp at hl;rw[gF ⟨rfl,by rw[yU h'];exact h2,by omega,by rw[show(ay c (s.at_+1)).text=t1.2 from jM Prod.snd (wm h')];exact h1⟩];obtain⟨n',s1,U,g1,O,g3,g4⟩:=sm hT N I p h hb hf;rw[U,cC.bind_ok,gF (wi O hr)];exact⟨n',s1,rfl,g1,O,g3,g4⟩
def Pq(c:Cx)(l:List TK)(n:Nd):Prop:=∀G s r,At c s (l++r)->s.part = -1->Fu c 1 G s->sf c s r n (-1) (bC (di G) c s)
theorem Mz{d G:Nat}{ps:List Nd}{a1 a2:Int}(a:Int){res b:Nd}{lb:List TK}(hT:Ej c G d)(I:ps.all (dQ (aa d) aE)=true)(D:ah res=true\/(aa d).typ res=true)(p:Int)(types:Bool)
  (hB:Pq c ((6,(⟨#[123]⟩:BA))::lb) b){s:St}{r:List TK}(h:At c s (aH (fm (am d) (.mk 12 ⟨#[]⟩ [.mk 6 ⟨#[]⟩ ps a1,res] a2))++((6,(⟨#[123]⟩:BA))::(lb++r))))(hp:s.part = -1)(hf:Fu c 1 G s):
  sf c s r (.mk 25 ⟨#[]⟩ [.mk 12 ⟨#[]⟩ [.mk 6 ⟨#[]⟩ ps a1,res] a2,b] a) (-1) (dh (di G) p types c s):=by
 (have hb:eD (et ((6,(⟨#[123]⟩:BA))::(lb++r)))=false:=by show eD (6,(⟨#[123]⟩:BA))=false;decide +kernel);unfold dh;rw[d5]
 ·obtain⟨n',s1,U,g1,O,g3,g4⟩:=Mr hT I D p h hb hf;rw[U,cC.bind_ok,d5]
  ·obtain⟨n2,s2,e3,p1,p2,p3,p4⟩:=hB G s1 r O (g4.trans hp) (hf.le (by have:=iY h O;omega));rw[e3,cC.bind_ok];exact⟨_,s2,rfl,co.mk (bF.cons g1 (bF.one p1)) _ _,p2,p3.trans g3,p4⟩
  ·rintro⟨-,-,h3⟩;rw[wh O]at h3;exact absurd h3 (by show ¬ (cW (6,(⟨#[123]⟩:BA)) ⟨#[44]⟩||cW (6,(⟨#[123]⟩:BA)) ⟨#[93]⟩)=true;decide)
 ·rintro⟨-,J,-,hx⟩;cases ps with
  |nil=>have h':At c s ((6,(⟨#[40]⟩:BA))::(6,(⟨#[41]⟩:BA))::(aH (if res.kind=0 then[]else bu::am d res)++((6,(⟨#[123]⟩:BA))::(lb++r)))):=h;exact hx (jM Prod.snd (wm h'))
  |cons y ps=>
   obtain⟨t,l,a3,rfl,M,ht⟩:=aN (by decide) (List.all_eq_true.1 I y (by simp));obtain⟨z,rfl,hz⟩:=d8 ht;(have e:∃r',aH (fm (am d) (.mk 12 ⟨#[]⟩ [.mk 6 ⟨#[]⟩ (.mk 8 t [z] a3::ps) a1,res] a2))++((6,(⟨#[123]⟩:BA))::(lb++r))=(6,(⟨#[40]⟩:BA))::(1,t)::(aH (am d z)++r'):=by rw[AX,kE];obtain⟨r',U,-⟩:=yR (aH (dx t++am d z)) (ps.map fun x=>aH (dx x.text++am d (bc x 0))) ((6,(⟨#[41]⟩:BA))::(aH (if res.kind=0 then[]else bu::am d res)++((6,(⟨#[123]⟩:BA))::(lb++r))));refine⟨r',(jM _ U).trans ?_⟩;rw[uZ M];rfl);obtain⟨r',e⟩:=e;rw[e]at h;obtain⟨t0,l0,e2,N⟩:=sW hz;rw[e2]at h;have h:At c s ((6,(⟨#[40]⟩:BA))::(1,t)::t0::(l0++r')):=h;rw[yU h]at J;rcases N with N|rfl|⟨rfl,q,rfl⟩
   ·rw[N]at J;cases J
   ·cases J
   ·cases J
end
section
variable {c:Cx} {m:Bool} {head:Bool}
theorem Fl{n:Nd}{x:ByteArray}{a:Int}(h:co n (.mk 18 x [] a)):Ep n (.mk 10 x [] a):=by
 (have e:bK (.mk 18 x [] a)=some (.mk 10 x [] a):=by unfold bK;rw[d5 (by decide),gF rfl]);rcases Ed h with⟨-,D⟩|⟨t,t',J,D,I⟩
 ·rw[e]at D;cases D
 ·rw[e]at D;injection D with D;subst D;exact⟨t,J,I⟩
theorem MA{n:Nd}{x:ByteArray}{l l':List Nd}{a p:Int}(h:Ep n (.mk 10 x [] a))(N:iW Ep l' l):Ep (.mk 22 ⟨#[]⟩ (n::l') p) (.mk 10 x l a):=by obtain⟨t,h1,D⟩:=h;obtain⟨r',U,O⟩:=tI N;obtain⟨M,I,J,a2⟩:=t;have e1:M=10:=D.kind;have e2:I=x:=D.text;have e3:J.length=0:=(co.kids D).len;subst e1 e2;refine⟨.mk 10 I r' a2,?_,co.mk O _ _⟩;unfold bK;rw[d5 (by decide),d5 (by decide),gF rfl];simp only[h1];rw[gF ⟨trivial,e3⟩,U];rfl
theorem wn{l:List TK}{Q:Nd->Prop}(h:sX c m l (fun n _=>Q n) head)(hb:cW (et l) ⟨#[45]⟩=false/\cW (et l) ⟨#[33]⟩=false)(D:l≠[]):ID c 5 m l Q head:=Qz0 (eu (ru h hb D)) 5
theorem GZ.mono{l:List TK}{Q Q':Nd->Prop}(h:GZ c l Q)(D:∀n,Q n->Q' n):GZ c l Q':=by intro G s r ha hh hp hf hb;obtain⟨n',s',M,J,I⟩:=h G s r ha hh hp hf hb;exact⟨n',s',M,D _ J,I⟩
theorem Sj:∀d,(∀T m head,(aa d).typ T=true->T.kind=10->sX c m (aH (am d T)) (fun n b=>Ep n T/\b=true) head)/\(∀T,(aa d).typ T=true->GZ c (aH (am d T)) (fun n=>Ep n T/\(T.kind≠10->co n T)))
 |0=>⟨fun T _ _ h=>(by cases h),fun T h=>(by cases h)⟩
 | d+1=>by
  obtain⟨-,ihB⟩:=Sj d;have hP:∀T m head,(aa (d+1)).typ T=true->T.kind=10->sX c m (aH (am (d+1) T)) (fun n b=>Ep n T/\b=true) head:=by
   intro T m head hT I;obtain⟨k,x,l,a⟩:=T;have I:k=10:=I;subst I;have N:dA (aa d) (.mk 10 x l a)=true:=hT;unfold dA at N;rw[gF (show(Nd.mk 10 x l a).kind=10 from rfl),gB]at N;have hl:l.all (aa d).typ=true:=N.2;(have e:aH (am (d+1) (.mk 10 x l a))=(1,x)::aH (nY (am d) l):=by have O:(Nd.mk 10 x l a).kind=10:=rfl;unfold am;rw[d5 (by rw[O];decide),d5 (by rw[O];decide),d5 (by rw[O];decide),ob];rfl);rw[e];unfold nY;by_cases O:l=[]
   ·subst O;rw[gF rfl];exact(sn x a).mono fun n b h=>⟨Fl h.1,h.2⟩
   ·rw[d5 O,it,aR,sh,vq];(have e2:l.map (aH∘am d)=(l.map fun z=>(aH (am d z),z)).map (·.1):=by rw[si];rfl);rw[e2];refine yS (lf:=[(1,x)]) (P:=fun n b=>Ep n (.mk 10 x [] a)/\b=true) (Q:=Ep) (by simpa using O) ((sn x a).mono fun n b h=>⟨Fl h.1,h.2⟩) (fun z hz=>?_) (fun n b l' p h1 h2=>?_)
    ·obtain⟨y,hy,rfl⟩:=List.mem_map.1 hz;have ga:=List.all_eq_true.1 hl y hy;obtain⟨t,q,e3,ht⟩:=lC ga;exact⟨by show cW (et (aH (am d y))) ⟨#[93]⟩=false;rw[e3];exact cr ht _ (by decide) (by decide) (by decide) (by decide) (by decide),by show aH (am d y)≠[];rw[e3];simp,(ihB y ga).mono fun _ h=>h.1⟩
    ·rw[mN]at h2;exact⟨MA h1.1 h2,h1.2⟩
  refine⟨hP,fun T hT=>?_⟩;rcases typ_kind hT with I|I|I
  ·(have e:∃x l,aH (am (d+1) T)=(1,x)::l:=by unfold am;rw[d5 (by rw[I];decide),d5 (by rw[I];decide),d5 (by rw[I];decide),ob];exact⟨_,_,rfl⟩);obtain⟨x,l,e⟩:=e;exact(rv (wn ((hP T true false hT I).mono fun n b h=>(⟨h.1,fun h'=>absurd I h'⟩:Ep n T/\(T.kind≠10->co n T))) (by rw[e];exact⟨rfl,rfl⟩) (by rw[e];simp))).br
  ·intro G s r ha hh hp hf hr;obtain⟨G',rfl⟩:∃G',G=G'+1:=⟨G-1,by unfold Fu at hf;omega⟩;have J:Fu c 1 G' s:=hf.more (by omega);obtain⟨n',s1,e1,g1,U,g3,g4⟩:=pF (d+1) G' T hT { s with part :=-1 } r ha (AW hr AV) J;(have e2:∃q,aH (am (d+1) T)++r=(6,(⟨#[91]⟩:BA))::(6,(⟨#[93]⟩:BA))::q:=by unfold am;rw[gF I];exact⟨_,rfl⟩);obtain⟨q,e2⟩:=e2;have D:=ha;rw[e2]at D;(have M:cH (di G') c s=.ok (n',false) s1:=by rw[mu D (by decide),d5 ((D.pt (-1)).no (by decide)),d5 ((D.pt (-1)).no (by decide)),gF (by rw[(D.pt (-1)).slice];show(cW (6,(⟨#[91]⟩:BA)) ⟨#[91]⟩&&((6:Int)==6&&decide ((⟨#[93]⟩:BA)=(⟨#[93]⟩:BA))))=true;decide)];unfold ij;rw[e1,cC.bind_ok,gF (by rw[wi U hr,jO hp];rfl)];rfl);refine⟨n',s1,?_,⟨Ep.self g1 (.inr (.inl I)),fun _=>g1⟩,U,g3,g4⟩;exact o9 D ⟨show cW (6,(⟨#[91]⟩:BA)) ⟨#[45]⟩=false by decide,show cW (6,(⟨#[91]⟩:BA)) ⟨#[33]⟩=false by decide⟩ M U (o8 hr (wg _)) (by unfold Fu at J;omega)
  ·intro G s r ha hh hp hf hr;obtain⟨G',rfl⟩:∃G',G=G'+1:=⟨G-1,by unfold Fu at hf;omega⟩;have J:Fu c 1 G' s:=hf.more (by omega);have N:dA (aa d) T=true:=hT;unfold dA at N;rw[d5 (by rw[I];decide),d5 (by rw[I];decide),gF I]at N;obtain⟨ps,a1,res,a,rfl,gd,gb⟩:=sS N;have D:At c s ((2,(⟨#[102,117,110,99]⟩:BA))::(aH (fm (am d) (.mk 12 ⟨#[]⟩ [.mk 6 ⟨#[]⟩ ps a1,res] a))++r)):=ha;have hl:=D.len;simp at hl;obtain⟨n',s1,e1,g1,U,g3,g4⟩:=G0 (pF d G') gd gb (aM c s) (s:=adv { s with part :=-1 }) (r:=r) (D.pt (-1)).adv hr (by unfold Fu at J |-;show 3*(c.toks.length-(s.at_+1))+1<=G';omega);(have M:cH (di G') c s=.ok (n',false) s1:=by rw[mu D (by decide),d5 ((D.pt (-1)).no (by decide)),gF ((D.pt (-1)).yes (by decide)),jO hp,e1];rfl);refine⟨n',s1,?_,⟨Ep.self g1 (.inr (.inr rfl)),fun _=>g1⟩,U,g3,g4⟩;exact o9 D ⟨show cW (2,(⟨#[102,117,110,99]⟩:BA)) ⟨#[45]⟩=false by decide,show cW (2,(⟨#[102,117,110,99]⟩:BA)) ⟨#[33]⟩=false by decide⟩ M U (o8 hr (wg _)) (by unfold Fu at J;omega)
theorem MB{d:Nat}{T:Nd}(hT:(aa d).typ T=true)(hk:T.kind=10){L:List (List TK×Nd)}(a:Int)(hL:Bc c ⟨#[125]⟩ L):
  sX c m (aH (am d T)++((6,(⟨#[123]⟩:BA))::(fg cX (L.map (·.1))++[(6,(⟨#[125]⟩:BA))]))) (fun n _=>co n (.mk 24 ⟨#[]⟩ (T::L.map (·.2)) a)) false:=by intro G s r g ha hh hp M hb;(have e:aH (am d T)++((6,(⟨#[123]⟩:BA))::(fg cX (L.map (·.1))++[(6,(⟨#[125]⟩:BA))]))++r=aH (am d T)++((6,(⟨#[123]⟩:BA))::(fg cX (L.map (·.1))++((6,(⟨#[125]⟩:BA))::r))):=by simp);rw[e]at ha;obtain⟨O,b0,h,n1,b1,s1,N,e1,e2,⟨⟨t,q0,q1⟩,rfl⟩,D,J,q4,q5⟩:=(Sj d).1 T m false hT hk G s _ g ha hh hp M hb;obtain⟨I,rfl⟩:∃I,N=I+1:=⟨N-1,by omega⟩;have ga:=iY ha D;obtain⟨n2,U,e3,p1,p2,p3,p4⟩:=Fk a q1 hL D q4 (M.le (by omega));refine⟨O,b0,h,n2,false,U,I,e1,e2.trans (Si (Bool.eq_false_iff.2 (D.no (by decide))) (Bool.eq_false_iff.2 (D.no (by decide))) (Bool.eq_false_iff.2 (D.no (by decide))) (D.yes (by decide)) J q0 e3),p1,p2,p3.trans J,p4,?_⟩;have h1:=D.len;have h2:=p2.len;simp at h1;omega
theorem MC{d:Nat}{T:Nd}(h:(aa d).typ T=true)(hk:T.kind=11){L:List (List TK×Nd)}(a:Int)(hL:Bc c ⟨#[125]⟩ L):
  sX c m (aH (am d T)++((6,(⟨#[123]⟩:BA))::(fg cX (L.map (·.1))++[(6,(⟨#[125]⟩:BA))]))) (fun n _=>co n (.mk 24 ⟨#[]⟩ (T::L.map (·.2)) a)) head:=by
 intro G s r g ha hh hp U hb;(have e:aH (am d T)++((6,(⟨#[123]⟩:BA))::(fg cX (L.map (·.1))++[(6,(⟨#[125]⟩:BA))]))++r=aH (am d T)++((6,(⟨#[123]⟩:BA))::(fg cX (L.map (·.1))++((6,(⟨#[125]⟩:BA))::r))):=by simp);rw[e]at ha;obtain⟨n',s1,e1,g1,J,g3,g4⟩:=pF d G T h { s with part :=-1 } _ ha (by show eD (6,(⟨#[123]⟩:BA))=false;decide +kernel) U;have M:∃q,aH (am d T)++((6,(⟨#[123]⟩:BA))::(fg cX (L.map (·.1))++((6,(⟨#[125]⟩:BA))::r)))=(6,(⟨#[91]⟩:BA))::(6,(⟨#[93]⟩:BA))::q:=by
  cases d with
  |zero=>cases h
  |succ d=>unfold am;rw[gF hk];exact⟨_,rfl⟩
 obtain⟨q,M⟩:=M;have D:=ha;rw[M]at D;have I:=iY (s:={ s with part :=-1 }) ha J;have I:s.at_+(aH (am d T)).length=s1.at_:=I;obtain⟨O,N,e3,p1,p2,p3,p4⟩:=Fk a g1 hL J g4 (U.le (by omega));refine⟨O,false,N,O,false,N,g,?_,rfl,p1,p2,(p3.trans g3).trans hh,p4,?_⟩
 ·rw[mu D (by decide),d5 ((D.pt (-1)).no (by decide)),d5 ((D.pt (-1)).no (by decide)),gF (by rw[(D.pt (-1)).slice];show(cW (6,(⟨#[91]⟩:BA)) ⟨#[91]⟩&&((6:Int)==6&&decide ((⟨#[93]⟩:BA)=(⟨#[93]⟩:BA))))=true;decide)];unfold ij;rw[e1,cC.bind_ok,d5,e3]
  ·rfl
  ·rw[wh J];simp only[gB,not_and];intro _;show ¬ (cW (6,(⟨#[123]⟩:BA)) ⟨#[44]⟩||cW (6,(⟨#[123]⟩:BA)) ⟨#[93]⟩)=true;decide
 ·have h1:=J.len;have h2:=p2.len;simp at h1;omega
theorem MD{d:Nat}{ps:List Nd}{a1 a2:Int}(a:Int){res b:Nd}{lb:List TK}(J:ps.all (dQ (aa d) aE)=true)(I:ah res=true\/(aa d).typ res=true)(hB:Pq c ((6,(⟨#[123]⟩:BA))::lb) b):
  sX c m ((2,(⟨#[102,117,110,99]⟩:BA))::(aH (fm (am d) (.mk 12 ⟨#[]⟩ [.mk 6 ⟨#[]⟩ ps a1,res] a2))++((6,(⟨#[123]⟩:BA))::lb))) (fun n _=>co n (.mk 25 ⟨#[]⟩ [.mk 12 ⟨#[]⟩ [.mk 6 ⟨#[]⟩ ps a1,res] a2,b] a)) head:=by
 intro G s r g D hh hp hf hb;(have e:(2,(⟨#[102,117,110,99]⟩:BA))::(aH (fm (am d) (.mk 12 ⟨#[]⟩ [.mk 6 ⟨#[]⟩ ps a1,res] a2))++((6,(⟨#[123]⟩:BA))::lb))++r=(2,(⟨#[102,117,110,99]⟩:BA))::(aH (fm (am d) (.mk 12 ⟨#[]⟩ [.mk 6 ⟨#[]⟩ ps a1,res] a2))++((6,(⟨#[123]⟩:BA))::(lb++r))):=by simp);rw[e]at D;have O:=D.len;simp at O;obtain⟨n',M,e1,g1,N,h,U⟩:=Mz a (pF d G) J I (aM c s) (decide (s.part=(s.at_:Int))) hB (s:=adv { s with part :=-1 }) (r:=r) (D.pt (-1)).adv rfl (by unfold Fu at hf |-;show 3*(c.toks.length-(s.at_+1))+1<=G;omega);refine⟨n',false,M,n',false,M,g,?_,rfl,g1,N,h.trans hh,U,?_⟩
 ·rw[mu D (by decide),d5 ((D.pt (-1)).no (by decide)),gF ((D.pt (-1)).yes (by decide)),e1];rfl
 ·have h2:=N.len;omega
end
end
end Go.Proofs.YtiebcdeafofgdaaGreatDoor
