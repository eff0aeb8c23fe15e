/-
  Parts of the proof: Pixs Pst Ustab OkF Lok Itm Ptok. By an AI agent.
-/
import Derived.Test.YteialcjaiocjdaaGreatDoorJ30
import Derived.Test.YteialcjaiocjdaaGreatDoorJ02
import Derived.Test.YteialcjaiocjdaaGreatDoorJ26
import Derived.Test.YteialcjaiocjdaaGreatDoorJ13
import Derived.Test.YteialcjaiocjdaaGreatDoorJ32
import Derived.Test.YteialcjaiocjdaaGreatDoorJ25
import Derived.Test.YteialcjaiocjdaaGreatDoorJ27
import Derived.Test.YteialcjaiocjdaaGreatDoorJ22
namespace Go.Proofs.YteialcjaiocjdaaGreatDoor
section
def a8{α:Type}(P:α->Prop)(r:bQ α):Prop:=∀a s,r=.ok a s->P a
theorem a8.ok{α:Type}{P:α->Prop}{a:α}{s:St}(h:P a):a8 P (.ok a s):=fun b t e=>by injection e with e _;exact e▸h
theorem a8.no{α:Type}{P:α->Prop}:a8 P (.out:bQ α):=fun _ _ e=>by cases e
theorem a8.bind{α β:Type}{P:α->Prop}{Q:β->Prop}{r:bQ α}{f:α->St->bQ β}(h:a8 P r)(D:∀a s,P a->a8 Q (f a s)):a8 Q (r.bind f):=by
 cases r with
 |ok a s=>exact D a s (h a s rfl)
 |out=>exact a8.no
theorem a8.ite{α:Type}{P:α->Prop}{p:Prop}[Decidable p]{a b:bQ α}(D:a8 P a)(hb:a8 P b):a8 P (if p then a else b):=by
 split
 ·exact D
 ·exact hb
theorem a8.mono{α:Type}{P Q:α->Prop}{r:bQ α}(h:a8 P r)(D:∀a,P a->Q a):a8 Q r:=fun a s e=>D a (h a s e)
theorem eF{α:Type}(r:bQ α):a8 (fun _=>True) r:=fun _ _ _=>trivial
theorem pj{α:Type}{P:α->Prop}{p:R α}{c:Cx}{s:St}(h:∀s,a8 P (p c s)):a8 P (cB p c s):=a8.bind (h _) fun _ _ h=>a8.ok h
theorem pk{α:Type}{P:α->Prop}{p:R α}{c:Cx}{s:St}(h:∀s,a8 P (p c s)):a8 P (db p c s):=a8.bind (h _) fun _ _ h=>a8.ok h
theorem dB{k:Int}{t:ByteArray}{l:List Nd}{a:Int}(I:k≠22)(D:ou l)(h:l.length<=1000000):Ix (.mk k t l a):=by unfold Ix;exact⟨fun e=>absurd e I,h,D⟩
theorem kn{k j:Int}{t:ByteArray}{l:List Nd}{a:Int}(h:k≠j):(Nd.mk k t l a).kind≠j:=h
theorem lN:ou []:=by unfold ou;trivial
theorem iA{n:Nd}{l:List Nd}(h:Ix n)(D:ou l):ou (n::l):=by unfold ou;exact⟨h,D⟩
theorem f6{n:Nd}(h:Ix n):ou [n]:=iA h lN
theorem lq{n m:Nd}(h:Ix n)(D:Ix m):ou [n,m]:=iA h (f6 D)
theorem sn:∀{l:List Nd}{n:Nd},ou l->Ix n->ou (l++[n])
 |[],n,_,h=>f6 h
 |x::r,n,D,h=>by unfold ou at D;exact iA D.1 (sn D.2 h)
theorem lD:Ix cc:=dB (by decide) lN (by simp)
structure T4(c:Cx)(F:fK):Prop where
 g:F.g<=999999
 typ:∀s,a8 (fun n=>Ix n/\(aP c s ⟨#[91]⟩=true->n.kind≠10)) (F.typ c s)
 expr:∀s,a8 (fun n=>Ix n/\n.kind≠10) (F.expr c s)
 unary:∀s,a8 (fun n=>Ix n/\n.kind≠10) (F.unary c s)
 stmt:∀s,a8 Ix (F.stmt c s)
 ifS:∀s,a8 Ix (F.ifS c s)
theorem TO{c:Cx}{s:St}{x y:ByteArray}(h:aP c s x=true)(D:x≠y):aP c s y=false:=by unfold aP TD at *;rw[gA]at h;rw[of_decide_eq_true h.2,gP D,jL]
section
variable {c:Cx} {F:fK} (H:T4 c F)
include H
omit H in
theorem FH{part:R Nd}(I:∀s,a8 Ix (part c s))(en:ByteArray):∀(g:Nat)(acc:List Nd)(s:St),ou acc->a8 (fun l=>ou l/\l.length<=acc.length+g) (bh part en g acc c s)
 |0,_,_,_=>a8.no
 |g+1,acc,s,D=>by unfold bh;refine a8.ite (a8.ok ⟨D,by omega⟩) (a8.bind (I s) fun n s1 hn=>a8.ite (a8.ok ⟨sn D hn,by rw[gM,List.length_singleton];omega⟩) (a8.bind (eF _) fun _ s2 _=>?_));exact(FH I en g _ s2 (sn D hn)).mono fun l h=>⟨h.1,by have J:=h.2;rw[gM,List.length_singleton]at J;omega⟩
theorem nL{part:R Nd}(D:∀s,a8 Ix (part c s))(en:ByteArray)(s:St):a8 (fun l=>ou l/\l.length<=999999) (bh part en F.g [] c s):=
 (FH D en F.g [] s lN).mono fun l h=>⟨h.1,by have I:=h.2;have J:=H.g;rw[qd]at I;omega⟩
theorem ov(s:St):a8 Ix (F.typ c s):=(H.typ s).mono fun _ h=>h.1
theorem f7(s:St):a8 Ix (F.expr c s):=(H.expr s).mono fun _ h=>h.1
theorem FI(s:St):a8 Ix (dt F c s):=a8.ite (ov H s) (a8.ok lD)
theorem Mm(p:Int)(s:St):a8 (fun n=>Ix n/\n.kind≠10) (dk F p c s):=
 a8.bind (eF _) fun _ s1 _=>a8.bind (nL H (fun s=>a8.bind (ov H s) fun _ _ h=>a8.ok (dB (by decide) (f6 h) (by simp))) _ s1) fun _ s2 hl=>a8.bind (FI H s2) fun _ _ hr=>
  a8.ok ⟨dB (by decide) (lq (dB (by decide) hl.1 (by omega)) hr) (by simp),kn (by decide)⟩
theorem Pz(p:Int)(s:St):a8 (fun n=>Ix n/\n.kind≠10) (n7 F p c s):=
 a8.bind (eF _) fun _ s1 _=>a8.bind (nL H (fun s=>a8.bind (eF _) fun _ s1 _=>a8.bind (ov H s1) fun _ _ h=>a8.ok (dB (by decide) (f6 h) (by simp))) _ s1) fun _ s2 hl=>a8.bind (FI H s2) fun _ _ hr=>
  a8.ok ⟨dB (by decide) (lq (dB (by decide) hl.1 (by omega)) hr) (by simp),kn (by decide)⟩
theorem Mn(s:St):a8 (fun n=>Ix n/\(aP c s ⟨#[91]⟩=true->n.kind≠10)) (uE F c s):=by
 unfold uE;split
 ·rename_i h;have I:=TO (y:=(⟨#[91]⟩:BA)) h (by decide);exact a8.bind (ov H _) fun _ _ D=>a8.bind (eF _) fun _ _ _=>a8.ok ⟨D,fun h=>by rw[I]at h;cases h⟩
 ·split
  ·exact a8.bind (eF _) fun _ s1 _=>a8.bind (ov H s1) fun _ _ D=>a8.ok ⟨dB (by decide) (f6 D) (by simp),fun _=>kn (by decide)⟩
  ·rename_i hb;refine a8.ite ((Mm H _ _).mono fun n h=>⟨h.1,fun _=>h.2⟩) ?_;exact a8.bind (eF _) fun _ s1 _=>a8.ite (a8.bind (nL H (ov H) _ _) fun l _ hl=>a8.ite a8.no (a8.ok ⟨dB (by decide) hl.1 (by omega),fun h=>absurd h hb⟩)) (a8.ok ⟨dB (by decide) lN (by simp),fun h=>absurd h hb⟩)
theorem PA(s:St):a8 Ix (d7 F c s):=
 a8.bind (eF _) fun _ s1 _=>a8.bind (eF _) fun _ s2 _=>a8.ite (a8.bind (f7 H _) fun _ _ h=>a8.ok (dB (by decide) (lq lD h) (by simp)))
  (a8.bind (ov H s2) fun _ s3 ht=>a8.ite (a8.bind (f7 H _) fun _ _ h=>a8.ok (dB (by decide) (lq ht h) (by simp))) (a8.ok (dB (by decide) (lq ht lD) (by simp))))
theorem mX(p:Int):∀(g:Nat)(acc:List Nd)(s:St),ou acc->acc.length+g<=999999->a8 Ix (cS F p g acc c s)
 |0,_,_,_,_=>a8.no
 |g+1,acc,s,D,M=>by unfold cS;refine a8.ite (a8.ok (dB (by decide) D (by omega))) (a8.ite (mX p g acc _ D (by omega)) (a8.bind (H.stmt s) fun n s1 hn=>?_));have J:=sn D hn;(have I:(acc++[n]).length+g<=999999:=by simp;omega);exact a8.ite (mX p g _ _ J I) (a8.ite (mX p g _ _ J I) a8.no)
theorem mo(s:St):a8 Ix (bH F c s):=pj fun _=>a8.bind (eF _) fun _ _ _=>mX H _ F.g [] _ lN (by have:=H.g;simpa using this)
theorem CV(p:Int){x:Nd}(D:Ix x)(s:St):a8 Ix (ic F p x c s):=
 a8.ite (a8.bind (f7 H _) fun _ _ h=>a8.ok (dB (by decide) (f6 h) (by simp))) (a8.ite (a8.bind (f7 H _) fun _ _ h=>a8.ok (dB (by decide) (lq D h) (by simp)))
  (a8.ite (a8.ok (dB (by decide) (f6 D) (by simp))) (a8.ite (a8.ok (dB (by decide) (f6 D) (by simp))) (a8.ite (a8.ok (dB (by decide) (f6 D) (by simp))) a8.no))))
theorem wh(s:St):a8 Ix (iC F c s):=a8.bind (f7 H s) fun _ s1 h=>CV H _ h s1
theorem FJ(s:St):a8 Ix (I3 F c s):=
 a8.bind (eF _) fun _ s1 _=>a8.bind (pk (f7 H)) fun _ s2 hx=>a8.bind (mo H s2) fun _ s3 hb=>
  have k:∀{o:Nd},Ix o->∀p t,a8 Ix (.ok (.mk 30 ⟨#[]⟩ [_,_,o] p) t):=fun D p t=>a8.ok (dB (by decide) (iA hx (lq hb D)) (by simp))
  a8.ite (a8.ite (a8.bind (H.ifS _) fun _ _ h=>k h _ _) (a8.bind (mo H _) fun _ _ h=>k h _ _)) (k lD _ _)
theorem Mo(s:St):a8 (fun h=>Ix h.1/\Ix h.2.1/\Ix h.2.2) (nA F c s):=by
 have tl:∀(a:Nd)(s:St),Ix a->a8 (fun h:Nd×Nd×Nd=>Ix h.1/\Ix h.2.1/\Ix h.2.2) ((bV ⟨#[59]⟩ c s).bind fun _ s1=>
  (if aP c s1 ⟨#[59]⟩then .ok cc s1 else db F.expr c s1).bind fun b s2=>
  (bV ⟨#[59]⟩ c s2).bind fun _ s3=>
  (if aP c s3 ⟨#[123]⟩then .ok cc s3 else db (nz F) c s3).bind fun d s4=>.ok (a,b,d) s4):=fun a s I=>
  a8.bind (eF _) fun _ s1 _=>a8.bind (a8.ite (a8.ok lD) (pk (f7 H))) fun _ s2 hb=>a8.bind (eF _) fun _ s3 _=>
   a8.bind (a8.ite (a8.ok lD) (pk fun s=>a8.bind (wh H s) fun _ _ h=>a8.ite a8.no (a8.ok h))) fun _ _ hd=>a8.ok ⟨I,hb,hd⟩
 unfold nA;refine a8.ite (tl cc s lD) (a8.bind (pk fun s=>a8.bind (f7 H s) fun _ s1 h=>a8.ite (a8.ok h) (CV H _ h s1)) fun x s1 D=>a8.ite a8.no (a8.ite (a8.ok ⟨lD,D,lD⟩) (tl x s1 D)))
theorem PB(s:St):a8 Ix (rj F c s):=by
 unfold rj;refine a8.bind (eF _) fun _ s1 _=>?_;split
 ·exact a8.bind (pk (f7 H)) fun _ s3 he=>a8.bind (mo H s3) fun _ _ hb=>a8.ok (dB (by decide) (lq he hb) (by simp))
 ·exact a8.bind (a8.ite (a8.ok ⟨lD,lD,lD⟩) (Mo H s1)) fun _ s2 h=>a8.bind (mo H s2) fun _ _ hb=>a8.ok (dB (by decide) (iA h.1 (iA h.2.1 (lq h.2.2 hb))) (by simp))
theorem Mp(s:St):a8 Ix (iu F c s):=
 a8.ite (PA H s) (a8.ite (FJ H s) (a8.ite (PB H s) (a8.ite (mo H s) (a8.ite (a8.ite (a8.ok (dB (by decide) (f6 lD) (by simp))) (a8.bind (f7 H _) fun _ _ h=>a8.ok (dB (by decide) (f6 h) (by simp))))
  (a8.ite (a8.ok (dB (by decide) lN (by simp))) (a8.ite (a8.ok (dB (by decide) lN (by simp))) (wh H s)))))))
theorem PC(p:Int)(types:Bool)(s:St):a8 (fun n=>Ix n/\n.kind≠10) (dm F p types c s):=
 a8.ite (a8.bind (Mm H p s) fun _ _ h=>a8.ite (a8.ok h) a8.no) (a8.bind (Pz H p s) fun _ s1 h=>a8.ite (a8.ok h) (a8.bind (mo H s1) fun _ _ hb=>a8.ok ⟨dB (by decide) (lq h.1 hb) (by simp),kn (by decide)⟩))
theorem FK{t:Nd}(D:Ix t)(s:St):a8 (fun n=>Ix n/\n.kind≠10) (dc F t c s):=
 a8.bind (eF _) fun _ s1 _=>a8.bind (pj fun s=>nL H (f7 H) _ s) fun l _ hl=>a8.ok ⟨dB (by decide) (iA D hl.1) (by have:=hl.2;simp;omega),kn (by decide)⟩
theorem Er(types:Bool)(s:St)(hs:aP c s ⟨#[91]⟩=true):a8 (fun n=>Ix n/\n.kind≠10) (iD F types c s):=
 a8.bind (H.typ s) fun _ s1 h=>a8.ite (a8.ok ⟨h.1,h.2 hs⟩) (FK H h.1 s1)
theorem SC(s:St):a8 (fun x=>Ix x.1/\x.1.kind≠10) (cN F c s):=by
 unfold cN;have k:∀{m:bQ Nd},a8 (fun n=>Ix n/\n.kind≠10) m->a8 (fun x:Nd×Bool=>Ix x.1/\x.1.kind≠10) (m.bind fun x s1=>.ok (x,false) s1):=fun h=>a8.bind h fun _ _ h=>a8.ok h;have l:∀(j:Int)(t:ByteArray)(p:Int),j≠22->j≠10->Ix (.mk j t [] p)/\(Nd.mk j t [] p).kind≠10:=fun j t p h D=>⟨dB h lN (by simp),D⟩;refine a8.ite (a8.ok (l 18 _ _ (by decide) (by decide))) (a8.ite (a8.ok (l 16 _ _ (by decide) (by decide))) (a8.ite (a8.ok (l 17 _ _ (by decide) (by decide))) (a8.ite (a8.bind (pj H.expr) fun _ s1 h=>a8.bind (eF _) fun _ _ _=>a8.ok h) (a8.ite (k (PC H _ _ _)) ?_))));split
 ·rename_i hb;refine k (Er H _ _ ?_);unfold cY at hb;rw[gA]at hb;exact hb.1
 ·exact a8.no
end
mutual
theorem FL:∀{n m:Nd},Ix n->bP n=some m->Ix m/\m.kind≠22
 | .mk k t l a,m,h,e=>by
  unfold Ix at h;unfold bP at e;split at e
  ·rename_i N;injection e with e;subst e;exact⟨by unfold Ix;exact h,by show k≠22;omega⟩
  ·split at e
   ·injection e with e;subst e;exact⟨dB (by decide) lN (by simp),kn (by decide)⟩
   ·split at e
    ·cases l with
     |nil=>cases e
     | cons x r=>
      have D:=h.2.2;unfold ou at D;simp only at e;split at e
      ·split at e
       ·cases I:cC r with
        |none=>rw[I]at e;cases e
        |some r'=>rw[I]at e;injection e with e;subst e;obtain⟨M,O⟩:=Mq D.2 I;have:=h.2.1;rename_i J _;exact⟨dB (FL D.1 J).2 M (by simp at this;omega),(FL D.1 J).2⟩
       ·cases e
      ·cases e
    ·cases e
theorem Mq:∀{l m:List Nd},ou l->cC l=some m->ou m/\m.length=l.length
 |[],m,_,e=>by unfold cC at e;injection e with e;subst e;exact⟨lN,rfl⟩
 | x::r,m,h,e=>by
  unfold ou at h;unfold cC at e;cases D:bP x with
  |none=>rw[D]at e;cases e
  |some y=>
   rw[D]at e;simp only at e;cases I:cC r with
   |none=>rw[I]at e;cases e
   |some r'=>rw[I]at e;injection e with e;subst e;obtain⟨M,J⟩:=Mq h.2 I;exact⟨iA (FL h.1 D).1 M,by rw[gO,gO,J]⟩
end
section
variable {c:Cx} {F:fK} (H:T4 c F)
include H
theorem mB:∀(g:Nat)(out:Nd)(b:Bool)(s:St),Ix out->out.kind≠10->a8 (fun n=>Ix n/\n.kind≠10) (aK F g out b c s)
 |0,_,_,_,_,_=>a8.no
 | g+1,out,b,s,D,I=>by
  unfold aK;refine a8.ite (a8.bind (pj fun s=>nL H (f7 H) _ s) fun l s1 hl=>mB g _ _ s1 (dB (by decide) (iA D hl.1) (by have:=hl.2;simp;omega)) (kn (by decide)))
   (a8.ite (a8.bind (pj fun s=>nL H (part:=cX F) (fun s=>f7 H { s with part:=s.at_ }) _ s) fun l s1 hl=>?_) (a8.ite (a8.bind (eF _) fun _ s1 _=>mB g _ _ s1 (dB (by decide) (f6 D) (by simp)) (kn (by decide))) (a8.ite ?_ (a8.ok ⟨D,I⟩))))
  ·split
   ·exact a8.no
   ·rename_i J;refine mB g _ _ s1 ?_ (kn (by decide));unfold Ix;exact⟨fun _=>⟨out,l,rfl,fun e=>J (by rw[e];rfl),I⟩,by have:=hl.2;simp;omega,iA D hl.1⟩
  ·split
   ·exact a8.ok ⟨D,I⟩
   ·rename_i t ht;exact a8.bind (FK H (FL D ht).1 s) fun n s1 hn=>mB g n false s1 hn.1 hn.2
theorem Mr(s:St):a8 (fun n=>Ix n/\n.kind≠10) (ly F c s):=
 a8.ite (a8.bind (H.unary _) fun _ _ h=>a8.ok ⟨dB (by decide) (f6 h.1) (by simp),kn (by decide)⟩) (a8.bind (SC H s) fun x s1 h=>mB H F.g x.1 x.2 s1 h.1 h.2)
omit H in
theorem Af(k:Nat){below:R Nd}(hb:∀s,a8 (fun n=>Ix n/\n.kind≠10) (below c s)):∀(g:Nat)(out:Nd)(s:St),Ix out->out.kind≠10->a8 (fun n=>Ix n/\n.kind≠10) (lw k below g out c s)
 |0,_,_,_,_=>a8.no
 |g+1,out,s,D,I=>by unfold lw;exact a8.ite (a8.bind (hb _) fun _ s1 h=>Af k hb g _ s1 (dB (by decide) (lq D h.1) (by simp)) (kn (by decide))) (a8.ok ⟨D,I⟩)
theorem Bk:∀(k:Nat)(s:St),a8 (fun n=>Ix n/\n.kind≠10) (lz F k c s)
 |0,s=>Mr H s
 |k+1,s=>a8.bind (Bk k s) fun x s1 h=>Af (k+1) (Bk k) F.g x s1 h.1 h.2
end
theorem Ms(c:Cx):∀g,g<=999999->T4 c (cI g)
 |0,_=>⟨gQ _,fun _=>a8.no,fun _=>a8.no,fun _=>a8.no,fun _=>a8.no,fun _=>a8.no⟩
 |g+1,h=>by have H:=Ms c g (by omega);exact⟨h,Mn H,Bk H 5,Mr H,Mp H,FJ H⟩
theorem eV(n:Nd):(ng n).kind=n.kind:=by cases n;rw[eM];rfl
theorem iG(n:Nd):(ng n).text=n.text:=by cases n;rw[eM];rfl
theorem eW(n:Nd):(ng n).kids=n.kids.map ng:=by cases n;rw[eM,<-lP];rfl
theorem SF:ng cc=cc:=by unfold cc;rw[eM,nW]
def bO(p:Nd->Bool):Prop:=∀n,p (ng n)=p n
theorem Bo(l:List Nd)(i:Nat):(l.map ng).getD i cc=ng (l.getD i cc):=by
 rw[jB,jB,List.getElem?_map];cases l[i]? with
 |none=>exact SF.symm
 |some x=>rfl
theorem oA{p:Nd->Bool}(h:bO p)(l:List Nd):(l.map ng).all p=l.all p:=by rw[List.all_map];congr 1;exact funext h
theorem Ai:∀(ps:List (Nd->Bool))(l:List Nd),(∀p∈ps,bO p)->a6 ps (l.map ng)=a6 ps l
 |[],[],_=>rfl
 |[],_::_,_=>rfl
 |_::_,[],_=>rfl
 |p::ps,n::l,h=>by rw[jT,a6,a6,h p (by simp) n,Ai ps l fun q hq=>h q (by simp[hq])]
theorem ni{k:Int}{ps:List (Nd->Bool)}(h:∀p∈ps,bO p):bO (cE k ps):=fun n=>by unfold cE;rw[eV,iG,eW,Ai ps _ h]
theorem My(so:ByteArray->Bool)(n:Nd):aw so (ng n)=ng (aw so n):=by
 unfold aw;rw[iG];split
 ·rw[eV,eM,eW,lP];obtain⟨k,t,l,a⟩:=n;rw[eM];rfl
 ·rw[eM,nW]
theorem rI{k:Int}{ps:List (Nd->Bool)}(so:ByteArray->Bool)(h:∀p∈ps,bO p):bO (fun n=>cE k ps (aw so n)):=fun n=>by show cE k ps (aw so (ng n))=cE k ps (aw so n);rw[My,ni h]
theorem mC{k:Int}{ps:List (Nd->Bool)}(so:ByteArray->Bool)(h:∀p∈ps,bO p)(n:Nd):cE k ps (aw so (ng n))=cE k ps (aw so n):=rI so h n
theorem C8{p:Nd->Bool}(h:bO p):bO (iv p):=fun n=>by unfold iv;rw[eV,iG,eW,oA h]
theorem ir{p q:Nd->Bool}(h:bO p)(D:bO q):bO (ck p q):=fun n=>by unfold ck;rw[h,D]
theorem fu:bO an:=fun n=>by unfold an;rw[eV,iG,eW,jR]
theorem mD{p:Nd->Bool}(h:bO p):∀q∈[p],bO q:=fun q hq=>by(obtain rfl:q=p:=by simpa using hq);exact h
theorem pn{p q:Nd->Bool}(h:bO p)(D:bO q):∀r∈[p,q],bO r:=fun r hr=>by
 (have:r=p\/r=q:=by simpa using hr);rcases this with rfl|rfl
 ·exact h
 ·exact D
theorem C9{p q u:Nd->Bool}(h:bO p)(I:bO q)(D:bO u):∀r∈[p,q,u],bO r:=fun r hr=>by
 (have:r=p\/r=q\/r=u:=by simpa using hr);rcases this with rfl|rfl|rfl
 ·exact h
 ·exact I
 ·exact D
theorem PH{p q u v:Nd->Bool}(h:bO p)(J:bO q)(I:bO u)(D:bO v):∀r∈[p,q,u,v],bO r:=fun r hr=>by
 (have:r=p\/r=q\/r=u\/r=v:=by simpa using hr);rcases this with rfl|rfl|rfl|rfl
 ·exact h
 ·exact J
 ·exact I
 ·exact D
theorem uj:∀q∈([]:List (Nd->Bool)),bO q:=fun q hq=>by simp at hq
structure Ud(F:cm):Prop where
 typ:bO F.typ
 expr:bO F.expr
 block:bO F.block
 stmt:bO F.stmt
 ifS:bO F.ifS
section
variable {F:cm} (hF:Ud F)
include hF
theorem Bp(so:ByteArray->Bool):bO (il F so):=ni (pn (C8 (rI so (mD hF.typ))) (ir fu hF.typ))
theorem PI:bO (dH F):=fun n=>by unfold dH;rw[eV,iG,eW,oA hF.typ,ni (mD hF.typ),Bp hF]
theorem Aj:bO (bo F):=fun n=>by unfold bo;rw[eV,iG,eW,jR,oA (show bO (lh F)from rI im (mD hF.typ))]
theorem Ey:bO (bE F):=fun n=>by unfold bE;rw[eV,iG,eW,oA (show bO (io F)from rI aB (mD hF.typ))]
theorem Ez:bO (eS F):=fun n=>by unfold eS;rw[eV,hF.typ]
theorem rJ:bO (bj F):=C8 (show bO (fE F)from rI aB (mD (ir (Ez hF) (Aj hF))))
theorem FP:bO (iL F):=fun n=>by unfold iL;rw[mC aB (pn (ir fu hF.typ) (ir fu hF.expr)),eW,Bo,Bo,fu,fu]
theorem Mz:bO (bM F):=fun n=>by unfold bM;rw[eV,mC aB (C9 (rJ hF) (show bO (er F)from Bp hF aB) hF.block),mC aB (pn (rJ hF) (ir (ir hF.typ (Ey hF)) (Aj hF))),mC aB (pn (rJ hF) hF.typ),FP hF]
theorem MA:bO (dJ F):=fun n=>by unfold dJ;rw[eV,hF.expr,hF.typ]
theorem Da:bO (aH F):=fun n=>by unfold aH;rw[eV,iG,eW,jR,oA hF.expr,<-List.map_drop,oA (MA hF),oA hF.expr,Bo,eV,hF.expr,hF.typ,mC cW uj,mC ed uj,mC aB uj,mC fw (mD hF.expr),mC eC (pn hF.expr hF.expr),mC aB (mD hF.expr),ni (pn (show bO (er F)from Bp hF aB) hF.block)]
theorem Bq:bO (fy F):=rI ix (mD hF.expr)
theorem Br:bO (fz F):=ni (pn hF.expr hF.expr)
theorem MB:bO (iS F):=fun n=>by unfold iS;rw[eV,hF.expr]
theorem Db:bO (fd F):=ni (mD (MB hF))
theorem Ak:bO (dz F):=rI cj (mD hF.expr)
theorem Al:bO (bI F):=fun n=>by unfold bI;rw[eV,iG,eW,oA hF.stmt]
theorem MC:bO (AQ F):=ni (C9 hF.expr hF.block (ir (ir fu hF.block) hF.ifS))
theorem MD:bO (aE F):=fun n=>by unfold aE;rw[eV,FP hF,Ak hF,Br hF,Bq hF,Db hF,MC hF,ni (PH (ir (ir fu (Ak hF)) (ir (Br hF) (Bq hF))) (ir fu hF.expr) (ir (ir fu (Br hF)) (ir (Bq hF) (Db hF))) hF.block),mC bR (pn hF.expr hF.block),ni (mD (ir fu hF.expr)),ni uj,Al hF]
theorem ME:bO (fF F):=fun n=>by unfold fF;rw[eV,iG,eW,oA (Mz hF)]
end
theorem Bs:∀g,Ud (aa g)
 |0=>⟨fun _=>rfl,fun _=>rfl,fun _=>rfl,fun _=>rfl,fun _=>rfl⟩
 |g+1=>by have h:=Bs g;exact⟨PI h,Da h,Al h,MD h,MC h⟩
theorem ss:∀(g:Nat)(n:Nd),aO g (ng n)=aO g n
 |0,_=>rfl
 |g+1,n=>by rw[aO,aO,eW,List.flatMap_map];congr 2;exact funext (ss g)
theorem Dc(n:Nd):et (ng n)=et n:=by unfold et;rw[ss]
theorem Dd(n:Nd):bc (ng n)=bc n:=by unfold bc yR;rw[Dc,ss,ME (Bs 100)]
theorem Am(n:Nd):bA (ng n)=bA n:=by unfold bA yR;rw[Dc,ss,Da (Bs 100)]
theorem ci.right{n m:Nd}(h:ci n m):bc n=bc m:=by rw[<-Dd,show ng n=ng m from h,Dd]
theorem ci.rightX{n m:Nd}(h:ci n m):bA n=bA m:=by rw[<-Am,show ng n=ng m from h,Am]
def Ag(d:Nat)(P Q:Nd->Bool):Prop:=∀n,df d n->P n=Q n
structure yK(d:Nat)(F G:cm):Prop where
 typ:Ag d F.typ G.typ
 expr:Ag d F.expr G.expr
 block:Ag d F.block G.block
 stmt:Ag d F.stmt G.stmt
 ifS:Ag d F.ifS G.ifS
theorem Ag.refl(d:Nat)(P:Nd->Bool):Ag d P P:=fun _ _=>rfl
theorem th{d:Nat}{P Q:Nd->Bool}(h:Ag d P Q){l:List Nd}(D:∀k∈l,df d k):l.all P=l.all Q:=by
 induction l with
 |nil=>rfl
 |cons x l ih=>rw[jX,jX,h x (D x (by simp)),ih (fun k hk=>D k (by simp[hk]))]
inductive TF(d:Nat):List (Nd->Bool)->List (Nd->Bool)->Prop where
 |nil:TF d [] []
 |cons {P Q:Nd->Bool} {l m:List (Nd->Bool)}:Ag d P Q->TF d l m->TF d (P::l) (Q::m)
theorem EO{d:Nat}:∀{ps qs:List (Nd->Bool)},TF d ps qs->∀(ks:List Nd),(∀k∈ks,df d k)->a6 ps ks=a6 qs ks
 |_,_,.nil,ks,_=>by cases ks<;>rfl
 |_,_,.cons h hs,[],_=>rfl
 |_,_,.cons h hs,k::ks,D=>by unfold a6;rw[h k (D k (by simp)),EO hs ks (fun j hj=>D j (by simp[hj]))]
theorem mK{d:Nat}(k:Int){ps qs:List (Nd->Bool)}(h:TF d ps qs):Ag (d+1) (cE k ps) (cE k qs):=by intro n hn;unfold cE;rw[EO h n.kids (fun j hj=>hn.kid hj)]
theorem ti{d:Nat}(k:Int){ps qs:List (Nd->Bool)}(h:TF d ps qs):Ag d (cE k ps) (cE k qs):=by intro n hn;unfold cE;rw[EO h n.kids (fun j hj=>hn.kid' hj)]
theorem pz{d:Nat}{P Q:Nd->Bool}(so:ByteArray->Bool)(h:Ag d P Q):Ag d (fun n=>P (aw so n)) (fun n=>Q (aw so n)):=fun _ hn=>h _ hn.named
theorem mZ{d:Nat}{P Q P' Q':Nd->Bool}(h:Ag d P Q)(h':Ag d P' Q'):Ag d (ck P P') (ck Q Q'):=by intro n hn;unfold ck;rw[h n hn,h' n hn]
theorem FY{d:Nat}{P Q:Nd->Bool}(h:Ag d P Q):Ag d (iv P) (iv Q):=by intro n hn;unfold iv;rw[th h (fun j hj=>hn.kid' hj)]
section
variable {d:Nat} {F G:cm}
theorem Dn(h:yK d F G)(so:ByteArray->Bool):Ag d (d4 F so) (d4 G so):=pz so (ti 8 (.cons h.typ .nil))
theorem PQ(h:yK d F G)(so:ByteArray->Bool):Ag d (il F so) (il G so):=ti 12 (.cons (FY (Dn h so)) (.cons (mZ (Ag.refl d an) h.typ) .nil))
theorem SO(h:yK d F G)(so:ByteArray->Bool):Ag (d+1) (il F so) (il G so):=mK 12 (.cons (FY (Dn h so)) (.cons (mZ (Ag.refl d an) h.typ) .nil))
theorem Iy(h:yK d F G):Ag d (er F) (er G):=PQ h aB
theorem SP(h:yK d F G):Ag (d+1) (dH F) (dH G):=by intro n hn;unfold dH;rw[th h.typ (fun j hj=>hn.kid hj),mK 11 (.cons h.typ .nil) n hn,SO h ec n hn]
theorem SQ(h:yK d F G):Ag (d+1) (iL F) (iL G):=by intro n hn;unfold iL;rw[mK 5 (.cons (mZ (Ag.refl d an) h.typ) (.cons (mZ (Ag.refl d an) h.expr) .nil)) (aw aB n) hn.named]
theorem PR(h:yK d F G):Ag d (dJ F) (dJ G):=by intro n hn;unfold dJ;rw[h.expr n hn,h.typ n hn]
theorem Do{n:Nd}(D:df (d+1) n)(i:Nat):∀k∈n.kids.drop i,df d k:=fun _ hk=>D.kid (qA hk)
theorem M5{P Q:Nd->Bool}(h:Ag d P Q){n:Nd}(I:df (d+1) n)(D:0<n.kids.length):P (n.kids.getD 0 cc)=Q (n.kids.getD 0 cc):=by rw[jB,gT D];exact h _ (I.kid (gS D))
theorem PS(h:yK d F G):Ag (d+1) (aH F) (aH G):=by
 intro n hn;unfold aH;rw[mK 19 (.cons h.expr .nil) (aw fw n) hn.named,mK 20 (.cons h.expr (.cons h.expr .nil)) (aw eC n) hn.named,th h.expr (fun j hj=>hn.kid hj),
  mK 23 (.cons h.expr .nil) (aw aB n) hn.named,th (PR h) (Do hn 1),th h.expr (Do hn 1),mK 25 (.cons (Iy h) (.cons h.block .nil)) n hn]
 by_cases D:0<n.kids.length
 ·rw[M5 h.expr hn D,M5 h.typ hn D]
 ·(have I:¬ 1<n.kids.length:=by omega);simp[D,I]
theorem Dp(h:yK d F G):Ag (d+1) (bI F) (bI G):=by intro n hn;unfold bI;rw[th h.stmt (fun j hj=>hn.kid hj)]
theorem R5(h:yK d F G):Ag (d+1) (AQ F) (AQ G):=mK 30 (.cons h.expr (.cons h.block (.cons (mZ (mZ (Ag.refl d an) h.block) h.ifS) .nil)))
theorem Dq(h:yK d F G):Ag (d+1) (dz F) (dz G):=pz cj (mK 26 (.cons h.expr .nil))
theorem EP(h:yK d F G):Ag (d+1) (fz F) (fz G):=mK 27 (.cons h.expr (.cons h.expr .nil))
theorem EQ(h:yK d F G):Ag (d+1) (fy F) (fy G):=pz ix (mK 28 (.cons h.expr .nil))
theorem Dr(h:yK d F G):Ag d (iS F) (iS G):=by intro n hn;unfold iS;rw[h.expr n hn]
theorem FZ(h:yK d F G):Ag (d+1) (fd F) (fd G):=mK 29 (.cons (Dr h) .nil)
theorem Iz(h:yK d F G):Ag d (dz F) (dz G):=pz cj (ti 26 (.cons h.expr .nil))
theorem F1(h:yK d F G):Ag d (fz F) (fz G):=ti 27 (.cons h.expr (.cons h.expr .nil))
theorem F2(h:yK d F G):Ag d (fy F) (fy G):=pz ix (ti 28 (.cons h.expr .nil))
theorem M6(h:yK d F G):Ag d (fd F) (fd G):=ti 29 (.cons (Dr h) .nil)
theorem PT(h:yK d F G):Ag (d+1) (aE F) (aE G):=by
 intro n hn;unfold aE;rw[SQ h n hn,Dq h n hn,EP h n hn,EQ h n hn,FZ h n hn,R5 h n hn,Dp h n hn,
  mK 31 (.cons (mZ (mZ (Ag.refl d an) (Iz h)) (mZ (F1 h) (F2 h))) (.cons (mZ (Ag.refl d an) h.expr) (.cons (mZ (mZ (Ag.refl d an) (F1 h)) (mZ (F2 h) (M6 h))) (.cons h.block .nil)))) n hn,
  mK 32 (.cons h.expr (.cons h.block .nil)) (aw bR n) hn.named,mK 33 (.cons (mZ (Ag.refl d an) h.expr) .nil) n hn]
end
theorem dG:∀d,yK d (aa d) (aa (d+1))
 |0=>⟨fun _ h=>h.elim,fun _ h=>h.elim,fun _ h=>h.elim,fun _ h=>h.elim,fun _ h=>h.elim⟩
 |d+1=>⟨SP (dG d),PS (dG d),Dp (dG d),PT (dG d),R5 (dG d)⟩
end
section
open Go.RowKit Go.Lib Go.Proofs
theorem Uc(E:cw)(D:FG E)(N:uY E)(I:Mb E):∀g,g<=999999->nE E (cI g)
 |0,_=>⟨fun _ _ _ h=>absurd rfl h,fun _ _ _ h=>absurd rfl h,fun _ _ _ h=>absurd rfl h,fun _ _ _ h=>absurd rfl h,fun _ _ _ h=>absurd rfl h,gQ _⟩
 |g+1,O=>by have hF:=Uc E D N I g (by omega);(have J:(cI g).g=g:=by cases g<;>rfl);have M:=G7 E (cI g) hF (CT E (cI g) hF D (fun s x s1 h=>((Ms E.c g (by omega)).expr s x s1 h).1) (by rw[J];omega));exact⟨O0 E (cI g) hF,Ml E (cI g) M,M,Md E (cI g) hF (L5 E (cI g) hF) N I,Mc E (cI g) hF,by show g+1<=1000000;omega⟩
theorem G9{E:cw}(h:∀t∈E.c.toks,t.text.size<=65536):uY E:=fun t ht=>jZ (h t ht) (by decide)
theorem iY.old{E:cw}{w:World}(h:iY E.w0)(hE:E.w0.heap.size<=E.R)(I:OW E w):iY w:=by
 have D:E.w0.heap.size<=w.heap.size:=by
  by_cases N:E.w0.heap.size=0
  ·omega
  ·have J:=I (E.w0.heap.size-1) (by omega);have M:E.w0.heap[E.w0.heap.size-1]? = some (E.w0.heap[E.w0.heap.size-1]'(by omega)):=Array.getElem?_eq_getElem (by omega);rw[M]at J;have:=(Array.getElem?_eq_some_iff.mp J).1;omega
 have hb:Below E.w0.heap.size E.w0 { E.w0 with heap:=w.heap }:=⟨rfl,rfl,rfl,D,fun b hb=>I b (by omega)⟩
 exact⟨(h.below hb).tab,(h.below hb).u8⟩
theorem Ia(E:cw)(M:iY E.w0)(hE:E.w0.heap.size<=E.R)(J:E.c.toks.all fH=true):FG E:=by
 constructor
 ·intro t ht I w hO;have h:=List.all_eq_true.1 J t ht;unfold fH at h;simp only[gA,I]at h;exact(uL t.text w (by simpa using h.2.2.2.1)).mono fun _ _ h=>⟨⟨_,h.1⟩,h.2⟩
 ·intro t ht I w hO;have h:=List.all_eq_true.1 J t ht;unfold fH at h;simp only[gA,I]at h;have h:=h.2.2.2.2.1;cases D:lT t.text with
  |none=>simp[ry,D]at h
  |some x=>unfold mb;rw[D];exact(tN t.text x w (M.old hE hO) D).mono fun _ _ h=>⟨⟨_,h.1⟩,h.2⟩
end
section
open Go.Lib
abbrev bytes(s:ByteArray):List UInt8:=s.data.toList
theorem aV(x y:ByteArray):bytes (x++y)=bytes x++bytes y:=by unfold bytes;rw[ByteArray.data_append,Array.toList_append]
theorem lO(s:ByteArray)(i j:Nat):bytes (s.extract i j)=((bytes s).drop i).take (j-i):=by unfold bytes;rw[ByteArray.data_extract,Array.toList_extract,qO]
theorem cQ{x y:ByteArray}(h:bytes x=bytes y):x=y:=by obtain⟨a⟩:=x;obtain⟨b⟩:=y;have:a=b:=Array.ext' h;rw[this]
theorem dL(s:ByteArray):(bytes s).length=s.size:=rfl
inductive It where
 |tok (k:Int) (x:List UInt8)
 |gap (b:UInt8)
 |nl
def TE:It->List UInt8
 | .tok _ x=>x
 | .gap b=>[b]
 | .nl=>[10]
def fl(l:List It):List UInt8:=l.flatMap TE
theorem dg(a:It)(l:List It):fl (a::l)=TE a++fl l:=by unfold fl;rw[jE]
theorem iF(l m:List It):fl (l++m)=fl l++fl m:=by unfold fl;rw[kI]
def dx(x:List UInt8):ByteArray:=⟨x.toArray⟩
theorem bX(x:List UInt8):bytes (dx x)=x:=by unfold bytes dx;exact List.toList_toArray ..
theorem cg{k:Int}{ps:List (Nd->Bool)}{n:Nd}(h:cE k ps n=true):∃l a,n=.mk k ⟨#[]⟩ l a/\a6 ps l=true:=by obtain⟨k',t,l,a⟩:=n;unfold cE at h;rw[gA,gA,gD,gD]at h;obtain⟨rfl,rfl,h⟩:=h;exact⟨l,a,rfl,h⟩
theorem aJ{k:Int}{ps:List (Nd->Bool)}{so:ByteArray->Bool}{n:Nd}(D:k≠37)(h:cE k ps (aw so n)=true):∃t l a,n=.mk k t l a/\so t=true/\a6 ps l=true:=by
 obtain⟨k',t,l,a⟩:=n;unfold aw at h;split at h
 ·rename_i hs;obtain⟨l',a',e,h⟩:=cg h;injection e with e1 _ e3 _;exact⟨t,l,a,by rw[show k'=k from e1],hs,by rw[show l=l' from e3];exact h⟩
 ·obtain⟨l',a',e,_⟩:=cg h;injection e with e1;exact absurd e1.symm D
theorem dW{p:Nd->Bool}{l:List Nd}(h:a6 [p] l=true):∃x,l=[x]/\p x=true:=by
 rcases l with _|⟨x,_|⟨y,l⟩⟩
 ·cases h
 ·exact⟨x,rfl,by simpa[a6]using h⟩
 ·simp[a6]at h
theorem iO{p q:Nd->Bool}{l:List Nd}(h:a6 [p,q] l=true):∃x y,l=[x,y]/\p x=true/\q y=true:=by
 rcases l with _|⟨x,_|⟨y,_|⟨z,l⟩⟩⟩
 ·cases h
 ·simp[a6]at h
 ·exact⟨x,y,rfl,by simpa[a6]using h⟩
 ·simp[a6]at h
theorem CY{p q u:Nd->Bool}{l:List Nd}(h:a6 [p,q,u] l=true):∃x y z,l=[x,y,z]/\p x=true/\q y=true/\u z=true:=by
 rcases l with _|⟨x,_|⟨y,_|⟨z,_|⟨w,l⟩⟩⟩⟩
 ·cases h
 ·simp[a6]at h
 ·simp[a6]at h
 ·exact⟨x,y,z,rfl,by simpa[a6]using h⟩
 ·simp[a6]at h
theorem PE{p q u v:Nd->Bool}{l:List Nd}(h:a6 [p,q,u,v] l=true):∃x y z w,l=[x,y,z,w]/\p x=true/\q y=true/\u z=true/\v w=true:=by
 rcases l with _|⟨x,_|⟨y,_|⟨z,_|⟨w,_|⟨k,l⟩⟩⟩⟩⟩
 ·cases h
 ·simp[a6]at h
 ·simp[a6]at h
 ·simp[a6]at h
 ·exact⟨x,y,z,w,rfl,by simpa[a6]using h⟩
 ·simp[a6]at h
theorem bN{n:Nd}(h:an n=true):∃a,n=.mk 0 ⟨#[]⟩ [] a:=by obtain⟨k,t,l,a⟩:=n;unfold an at h;rw[gA,gA,gD,gD,gD]at h;obtain⟨rfl,rfl,h⟩:=h;have h:l.length=0:=h;rw[jS h];exact⟨a,rfl⟩
theorem rE{F:cm}{so:ByteArray->Bool}{n:Nd}(h:il F so n=true):∃ps a1 res a,n=.mk 12 ⟨#[]⟩ [.mk 6 ⟨#[]⟩ ps a1,res] a/\ps.all (d4 F so)=true/\(an res=true\/F.typ res=true):=by obtain⟨l,a,rfl,h⟩:=cg h;obtain⟨x,y,rfl,D,I⟩:=iO h;obtain⟨k,t,ps,a1⟩:=x;unfold iv at D;rw[gA,gA,gD,gD]at D;obtain⟨rfl,rfl,D⟩:=D;unfold ck at I;rw[gI]at I;exact⟨ps,a1,y,a,rfl,D,I⟩
theorem typ_kind{d:Nat}{n:Nd}(h:(aa d).typ n=true):n.kind=10\/n.kind=11\/n.kind=12:=by
 cases d with
 |zero=>cases h
 | succ d=>
  have h:dH (aa d) n=true:=h;unfold dH at h;split at h
  ·exact .inl ‹_›
  ·split at h
   ·exact .inr (.inl ‹_›)
   ·split at h
    ·exact .inr (.inr ‹_›)
    ·cases h
theorem sq{p:Nd->Bool}{n:Nd}(h:iv p n=true):∃l a,n=.mk 6 ⟨#[]⟩ l a/\l.all p=true:=by obtain⟨k,t,l,a⟩:=n;unfold iv at h;rw[gA,gA,gD,gD]at h;obtain⟨J,D,I⟩:=h;obtain rfl:k=6:=J;obtain rfl:t=(⟨#[]⟩:BA):=D;exact⟨l,a,rfl,I⟩
def NB(t:ef):Prop:=t.kind=5\/(32:UInt8)∉bytes t.text
theorem Es{row x:List UInt8}(h:contains (32::row++[32]) (32::x++[32])=true):∃k,k<=(32::row++[32]).length/\(32::x++[32]).isPrefixOf ((32::row++[32]).drop k)=true:=by
 unfold contains at h;rw[gD]at h;rcases index_spec (32::row++[32]) (32::x++[32])with⟨J,_⟩|⟨i,_,I,D,_⟩
 ·omega
 ·exact⟨i,I,D⟩
theorem yF{p l:List UInt8}(h:p.isPrefixOf l=true):l.take p.length=p:=by rw[List.isPrefixOf_iff_prefix]at h;exact(List.prefix_iff_eq_take.1 h).symm
theorem Mt:(32::bytes pY++[32]).length=17/\(32::bytes rq++[32]).length=64:=by decide +kernel
theorem rF(row t:ByteArray)(n:Nat):mS row t n=contains (32::bytes row++[32]) (32::(bytes t).take n++[32]):=by unfold mS;(have I:((⟨#[32]⟩++row++⟨#[32]⟩:ByteArray)).data.toList=32::bytes row++[32]:=by show bytes _=_;rw[aV,aV];rfl);(have D:((⟨#[32]⟩++t.extract 0 n++⟨#[32]⟩:ByteArray)).data.toList=32::(bytes t).take n++[32]:=by show bytes _=_;rw[aV,aV,lO];simp[bytes]);rw[I,D]
theorem PF{t:ef}(h:fH t=true):NB t:=by unfold fH at h;simp only[gA]at h;have h:=h.2.2.2.2.2;rw[gI,gD]at h;refine h.imp id fun h hm=>?_;have:=List.all_eq_true.1 h 32 hm;exact absurd this (by decide)
end
end Go.Proofs.YteialcjaiocjdaaGreatDoor
