/-
  Parts of the proof: Pixs Pst Ustab OkF Itm. By an AI agent.
-/
import Derived.Test.YtiebcdeafofgdaaGreatDoorJ27
import Derived.Test.YtiebcdeafofgdaaGreatDoorJ02
import Derived.Test.YtiebcdeafofgdaaGreatDoorJ01
import Derived.Test.YtiebcdeafofgdaaGreatDoorJ31
import Derived.Test.YtiebcdeafofgdaaGreatDoorJ12
import Derived.Test.YtiebcdeafofgdaaGreatDoorJ29
import Derived.Test.YtiebcdeafofgdaaGreatDoorJ24
import Derived.Test.YtiebcdeafofgdaaGreatDoorJ25
import Derived.Test.YtiebcdeafofgdaaGreatDoorJ32
namespace Go.Proofs.YtiebcdeafofgdaaGreatDoor
section
def aZ{α:Type}(P:α->Prop)(r:cC α):Prop:=∀a s,r=.ok a s->P a
theorem aZ.ok{α:Type}{P:α->Prop}{a:α}{s:St}(h:P a):aZ P (.ok a s):=fun b t e=>by injection e with e _;exact e▸h
theorem aZ.no{α:Type}{P:α->Prop}:aZ P (.out:cC α):=fun _ _ e=>by cases e
theorem aZ.bind{α β:Type}{P:α->Prop}{Q:β->Prop}{r:cC α}{f:α->St->cC β}(h:aZ P r)(D:∀a s,P a->aZ Q (f a s)):aZ Q (r.bind f):=by
 cases r with
 |ok a s=>exact D a s (h a s rfl)
 |out=>exact aZ.no
theorem aZ.ite{α:Type}{P:α->Prop}{p:Prop}[Decidable p]{a b:cC α}(D:aZ P a)(hb:aZ P b):aZ P (if p then a else b):=by
 split
 ·exact D
 ·exact hb
theorem aZ.mono{α:Type}{P Q:α->Prop}{r:cC α}(h:aZ P r)(D:∀a,P a->Q a):aZ Q r:=fun a s e=>D a (h a s e)
theorem eh{α:Type}(r:cC α):aZ (fun _=>True) r:=fun _ _ _=>trivial
theorem oZ{α:Type}{P:α->Prop}{p:R α}{c:Cx}{s:St}(h:∀s,aZ P (p c s)):aZ P (ct p c s):=aZ.bind (h _) fun _ _ h=>aZ.ok h
theorem o0{α:Type}{P:α->Prop}{p:R α}{c:Cx}{s:St}(h:∀s,aZ P (p c s)):aZ P (db p c s):=aZ.bind (h _) fun _ _ h=>aZ.ok h
theorem dw{k:Int}{t:ByteArray}{l:List Nd}{a:Int}(I:k≠22)(D:nW l)(h:l.length<=1000000):Ix (.mk k t l a):=by unfold Ix;exact⟨fun e=>absurd e I,h,D⟩
theorem kn{k j:Int}{t:ByteArray}{l:List Nd}{a:Int}(h:k≠j):(Nd.mk k t l a).kind≠j:=h
theorem lA:nW []:=by unfold nW;trivial
theorem ic{n:Nd}{l:List Nd}(h:Ix n)(D:nW l):nW (n::l):=by unfold nW;exact⟨h,D⟩
theorem fK{n:Nd}(h:Ix n):nW [n]:=ic h lA
theorem iQ{n m:Nd}(h:Ix n)(D:Ix m):nW [n,m]:=ic h (fK D)
theorem r9:∀{l:List Nd}{n:Nd},nW l->Ix n->nW (l++[n])
 |[],n,_,h=>fK h
 |x::r,n,D,h=>by unfold nW at D;exact ic D.1 (r9 D.2 h)
theorem lk:Ix bX:=dw (by decide) lA (by simp)
structure TI(c:Cx)(F:iE):Prop where
 g:F.g<=999999
 typ:∀s,aZ (fun n=>Ix n/\(aS c s ⟨#[91]⟩=true->n.kind≠10)) (F.typ c s)
 expr:∀s,aZ (fun n=>Ix n/\n.kind≠10) (F.expr c s)
 unary:∀s,aZ (fun n=>Ix n/\n.kind≠10) (F.unary c s)
 stmt:∀s,aZ Ix (F.stmt c s)
 ifS:∀s,aZ Ix (F.ifS c s)
theorem To{c:Cx}{s:St}{x y:ByteArray}(h:aS c s x=true)(D:x≠y):aS c s y=false:=by unfold aS Te at *;rw[gB]at h;rw[of_decide_eq_true h.2,gM D,jU]
section
variable {c:Cx} {F:iE} (H:TI c F)
include H
omit H in
theorem E3{part:R Nd}(I:∀s,aZ Ix (part c s))(en:ByteArray):∀(g:Nat)(acc:List Nd)(s:St),nW acc->aZ (fun l=>nW l/\l.length<=acc.length+g) (a6 part en g acc c s)
 |0,_,_,_=>aZ.no
 |g+1,acc,s,D=>by unfold a6;refine aZ.ite (aZ.ok ⟨D,by omega⟩) (aZ.bind (I s) fun n s1 hn=>aZ.ite (aZ.ok ⟨r9 D hn,by rw[gL,List.length_singleton];omega⟩) (aZ.bind (eh _) fun _ s2 _=>?_));exact(E3 I en g _ s2 (r9 D hn)).mono fun l h=>⟨h.1,by have J:=h.2;rw[gL,List.length_singleton]at J;omega⟩
theorem nz{part:R Nd}(D:∀s,aZ Ix (part c s))(en:ByteArray)(s:St):aZ (fun l=>nW l/\l.length<=999999) (a6 part en F.g [] c s):=
 (E3 D en F.g [] s lA).mono fun l h=>⟨h.1,by have I:=h.2;have J:=H.g;rw[qa]at I;omega⟩
theorem nX(s:St):aZ Ix (F.typ c s):=(H.typ s).mono fun _ h=>h.1
theorem fL(s:St):aZ Ix (F.expr c s):=(H.expr s).mono fun _ h=>h.1
theorem E4(s:St):aZ Ix (dp F c s):=aZ.ite (nX H s) (aZ.ok lk)
theorem LZ(p:Int)(s:St):aZ (fun n=>Ix n/\n.kind≠10) (df F p c s):=
 aZ.bind (eh _) fun _ s1 _=>aZ.bind (nz H (fun s=>aZ.bind (nX H s) fun _ _ h=>aZ.ok (dw (by decide) (fK h) (by simp))) _ s1) fun _ s2 hl=>aZ.bind (E4 H s2) fun _ _ hr=>
  aZ.ok ⟨dw (by decide) (iQ (dw (by decide) hl.1 (by omega)) hr) (by simp),kn (by decide)⟩
theorem Pb(p:Int)(s:St):aZ (fun n=>Ix n/\n.kind≠10) (nN F p c s):=
 aZ.bind (eh _) fun _ s1 _=>aZ.bind (nz H (fun s=>aZ.bind (eh _) fun _ s1 _=>aZ.bind (nX H s1) fun _ _ h=>aZ.ok (dw (by decide) (fK h) (by simp))) _ s1) fun _ s2 hl=>aZ.bind (E4 H s2) fun _ _ hr=>
  aZ.ok ⟨dw (by decide) (iQ (dw (by decide) hl.1 (by omega)) hr) (by simp),kn (by decide)⟩
theorem L0(s:St):aZ (fun n=>Ix n/\(aS c s ⟨#[91]⟩=true->n.kind≠10)) (uk F c s):=by
 unfold uk;split
 ·rename_i h;have I:=To (y:=(⟨#[91]⟩:BA)) h (by decide);exact aZ.bind (nX H _) fun _ _ D=>aZ.bind (eh _) fun _ _ _=>aZ.ok ⟨D,fun h=>by rw[I]at h;cases h⟩
 ·split
  ·exact aZ.bind (eh _) fun _ s1 _=>aZ.bind (nX H s1) fun _ _ D=>aZ.ok ⟨dw (by decide) (fK D) (by simp),fun _=>kn (by decide)⟩
  ·rename_i hb;refine aZ.ite ((LZ H _ _).mono fun n h=>⟨h.1,fun _=>h.2⟩) ?_;exact aZ.bind (eh _) fun _ s1 _=>aZ.ite (aZ.bind (nz H (nX H) _ _) fun l _ hl=>aZ.ite aZ.no (aZ.ok ⟨dw (by decide) hl.1 (by omega),fun h=>absurd h hb⟩)) (aZ.ok ⟨dw (by decide) lA (by simp),fun h=>absurd h hb⟩)
theorem Pd(s:St):aZ Ix (eM F c s):=
 aZ.bind (eh _) fun _ s1 _=>aZ.bind (eh _) fun _ s2 _=>aZ.ite (aZ.bind (fL H _) fun _ _ h=>aZ.ok (dw (by decide) (iQ lk h) (by simp)))
  (aZ.bind (nX H s2) fun _ s3 ht=>aZ.ite (aZ.bind (fL H _) fun _ _ h=>aZ.ok (dw (by decide) (iQ ht h) (by simp))) (aZ.ok (dw (by decide) (iQ ht lk) (by simp))))
theorem mJ(p:Int):∀(g:Nat)(acc:List Nd)(s:St),nW acc->acc.length+g<=999999->aZ Ix (cM F p g acc c s)
 |0,_,_,_,_=>aZ.no
 |g+1,acc,s,D,M=>by unfold cM;refine aZ.ite (aZ.ok (dw (by decide) D (by omega))) (aZ.ite (mJ p g acc _ D (by omega)) (aZ.bind (H.stmt s) fun n s1 hn=>?_));have J:=r9 D hn;(have I:(acc++[n]).length+g<=999999:=by simp;omega);exact aZ.ite (mJ p g _ _ J I) (aZ.ite (mJ p g _ _ J I) aZ.no)
theorem mc(s:St):aZ Ix (bC F c s):=oZ fun _=>aZ.bind (eh _) fun _ _ _=>mJ H _ F.g [] _ lA (by have:=H.g;simpa using this)
theorem Cv(p:Int){x:Nd}(D:Ix x)(s:St):aZ Ix (fQ F p x c s):=
 aZ.ite (aZ.bind (fL H _) fun _ _ h=>aZ.ok (dw (by decide) (fK h) (by simp))) (aZ.ite (aZ.bind (fL H _) fun _ _ h=>aZ.ok (dw (by decide) (iQ D h) (by simp)))
  (aZ.ite (aZ.ok (dw (by decide) (fK D) (by simp))) (aZ.ite (aZ.ok (dw (by decide) (fK D) (by simp))) (aZ.ite (aZ.ok (dw (by decide) (fK D) (by simp))) aZ.no))))
theorem uQ(s:St):aZ Ix (ii F c s):=aZ.bind (fL H s) fun _ s1 h=>Cv H _ h s1
theorem E5(s:St):aZ Ix (IB F c s):=
 aZ.bind (eh _) fun _ s1 _=>aZ.bind (o0 (fL H)) fun _ s2 hx=>aZ.bind (mc H s2) fun _ s3 hb=>
  have k:∀{o:Nd},Ix o->∀p t,aZ Ix (.ok (.mk 30 ⟨#[]⟩ [_,_,o] p) t):=fun D p t=>aZ.ok (dw (by decide) (ic hx (iQ hb D)) (by simp))
  aZ.ite (aZ.ite (aZ.bind (H.ifS _) fun _ _ h=>k h _ _) (aZ.bind (mc H _) fun _ _ h=>k h _ _)) (k lk _ _)
theorem L1(s:St):aZ (fun h=>Ix h.1/\Ix h.2.1/\Ix h.2.2) (nf F c s):=by
 have tl:∀(a:Nd)(s:St),Ix a->aZ (fun h:Nd×Nd×Nd=>Ix h.1/\Ix h.2.1/\Ix h.2.2) ((ci ⟨#[59]⟩ c s).bind fun _ s1=>
  (if aS c s1 ⟨#[59]⟩then .ok bX s1 else db F.expr c s1).bind fun b s2=>
  (ci ⟨#[59]⟩ c s2).bind fun _ s3=>
  (if aS c s3 ⟨#[123]⟩then .ok bX s3 else db (ne F) c s3).bind fun d s4=>.ok (a,b,d) s4):=fun a s I=>
  aZ.bind (eh _) fun _ s1 _=>aZ.bind (aZ.ite (aZ.ok lk) (o0 (fL H))) fun _ s2 hb=>aZ.bind (eh _) fun _ s3 _=>
   aZ.bind (aZ.ite (aZ.ok lk) (o0 fun s=>aZ.bind (uQ H s) fun _ _ h=>aZ.ite aZ.no (aZ.ok h))) fun _ _ hd=>aZ.ok ⟨I,hb,hd⟩
 unfold nf;refine aZ.ite (tl bX s lk) (aZ.bind (o0 fun s=>aZ.bind (fL H s) fun _ s1 h=>aZ.ite (aZ.ok h) (Cv H _ h s1)) fun x s1 D=>aZ.ite aZ.no (aZ.ite (aZ.ok ⟨lk,D,lk⟩) (tl x s1 D)))
theorem Pe(s:St):aZ Ix (p9 F c s):=by
 unfold p9;refine aZ.bind (eh _) fun _ s1 _=>?_;split
 ·exact aZ.bind (o0 (fL H)) fun _ s3 he=>aZ.bind (mc H s3) fun _ _ hb=>aZ.ok (dw (by decide) (iQ he hb) (by simp))
 ·exact aZ.bind (aZ.ite (aZ.ok ⟨lk,lk,lk⟩) (L1 H s1)) fun _ s2 h=>aZ.bind (mc H s2) fun _ _ hb=>aZ.ok (dw (by decide) (ic h.1 (ic h.2.1 (iQ h.2.2 hb))) (by simp))
theorem L2(s:St):aZ Ix (fY F c s):=
 aZ.ite (Pd H s) (aZ.ite (E5 H s) (aZ.ite (Pe H s) (aZ.ite (mc H s) (aZ.ite (aZ.ite (aZ.ok (dw (by decide) (fK lk) (by simp))) (aZ.bind (fL H _) fun _ _ h=>aZ.ok (dw (by decide) (fK h) (by simp))))
  (aZ.ite (aZ.ok (dw (by decide) lA (by simp))) (aZ.ite (aZ.ok (dw (by decide) lA (by simp))) (uQ H s)))))))
theorem Pf(p:Int)(types:Bool)(s:St):aZ (fun n=>Ix n/\n.kind≠10) (dh F p types c s):=
 aZ.ite (aZ.bind (LZ H p s) fun _ _ h=>aZ.ite (aZ.ok h) aZ.no) (aZ.bind (Pb H p s) fun _ s1 h=>aZ.ite (aZ.ok h) (aZ.bind (mc H s1) fun _ _ hb=>aZ.ok ⟨dw (by decide) (iQ h.1 hb) (by simp),kn (by decide)⟩))
theorem E6{t:Nd}(D:Ix t)(s:St):aZ (fun n=>Ix n/\n.kind≠10) (dc F t c s):=
 aZ.bind (eh _) fun _ s1 _=>aZ.bind (oZ fun s=>nz H (fL H) _ s) fun l _ hl=>aZ.ok ⟨dw (by decide) (ic D hl.1) (by have:=hl.2;simp;omega),kn (by decide)⟩
theorem D7(types:Bool)(s:St)(hs:aS c s ⟨#[91]⟩=true):aZ (fun n=>Ix n/\n.kind≠10) (ij F types c s):=
 aZ.bind (H.typ s) fun _ s1 h=>aZ.ite (aZ.ok ⟨h.1,h.2 hs⟩) (E6 H h.1 s1)
theorem Sa(s:St):aZ (fun x=>Ix x.1/\x.1.kind≠10) (cH F c s):=by
 unfold cH;have k:∀{m:cC Nd},aZ (fun n=>Ix n/\n.kind≠10) m->aZ (fun x:Nd×Bool=>Ix x.1/\x.1.kind≠10) (m.bind fun x s1=>.ok (x,false) s1):=fun h=>aZ.bind h fun _ _ h=>aZ.ok h;have l:∀(j:Int)(t:ByteArray)(p:Int),j≠22->j≠10->Ix (.mk j t [] p)/\(Nd.mk j t [] p).kind≠10:=fun j t p h D=>⟨dw h lA (by simp),D⟩;refine aZ.ite (aZ.ok (l 18 _ _ (by decide) (by decide))) (aZ.ite (aZ.ok (l 16 _ _ (by decide) (by decide))) (aZ.ite (aZ.ok (l 17 _ _ (by decide) (by decide))) (aZ.ite (aZ.bind (oZ H.expr) fun _ s1 h=>aZ.bind (eh _) fun _ _ _=>aZ.ok h) (aZ.ite (k (Pf H _ _ _)) ?_))));split
 ·rename_i hb;refine k (D7 H _ _ ?_);unfold dE at hb;rw[gB]at hb;exact hb.1
 ·exact aZ.no
end
mutual
theorem E8:∀{n m:Nd},Ix n->bK n=some m->Ix m/\m.kind≠22
 | .mk k t l a,m,h,e=>by
  unfold Ix at h;unfold bK at e;split at e
  ·rename_i N;injection e with e;subst e;exact⟨by unfold Ix;exact h,by show k≠22;omega⟩
  ·split at e
   ·injection e with e;subst e;exact⟨dw (by decide) lA (by simp),kn (by decide)⟩
   ·split at e
    ·cases l with
     |nil=>cases e
     | cons x r=>
      have D:=h.2.2;unfold nW at D;simp only at e;split at e
      ·split at e
       ·cases I:cx r with
        |none=>rw[I]at e;cases e
        |some r'=>rw[I]at e;injection e with e;subst e;obtain⟨M,O⟩:=L3 D.2 I;have:=h.2.1;rename_i J _;exact⟨dw (E8 D.1 J).2 M (by simp at this;omega),(E8 D.1 J).2⟩
       ·cases e
      ·cases e
    ·cases e
theorem L3:∀{l m:List Nd},nW l->cx l=some m->nW m/\m.length=l.length
 |[],m,_,e=>by unfold cx at e;injection e with e;subst e;exact⟨lA,rfl⟩
 | x::r,m,h,e=>by
  unfold nW at h;unfold cx at e;cases D:bK x with
  |none=>rw[D]at e;cases e
  |some y=>
   rw[D]at e;simp only at e;cases I:cx r with
   |none=>rw[I]at e;cases e
   |some r'=>rw[I]at e;injection e with e;subst e;obtain⟨M,J⟩:=L3 h.2 I;exact⟨ic (E8 h.1 D).1 M,by rw[gS,gS,J]⟩
end
section
variable {c:Cx} {F:iE} (H:TI c F)
include H
theorem ml:∀(g:Nat)(out:Nd)(b:Bool)(s:St),Ix out->out.kind≠10->aZ (fun n=>Ix n/\n.kind≠10) (aG F g out b c s)
 |0,_,_,_,_,_=>aZ.no
 | g+1,out,b,s,D,I=>by
  unfold aG;refine aZ.ite (aZ.bind (oZ fun s=>nz H (fL H) _ s) fun l s1 hl=>ml g _ _ s1 (dw (by decide) (ic D hl.1) (by have:=hl.2;simp;omega)) (kn (by decide)))
   (aZ.ite (aZ.bind (oZ fun s=>nz H (part:=cY F) (fun s=>fL H { s with part:=s.at_ }) _ s) fun l s1 hl=>?_) (aZ.ite (aZ.bind (eh _) fun _ s1 _=>ml g _ _ s1 (dw (by decide) (fK D) (by simp)) (kn (by decide))) (aZ.ite ?_ (aZ.ok ⟨D,I⟩))))
  ·split
   ·exact aZ.no
   ·rename_i J;refine ml g _ _ s1 ?_ (kn (by decide));unfold Ix;exact⟨fun _=>⟨out,l,rfl,fun e=>J (by rw[e];rfl),I⟩,by have:=hl.2;simp;omega,ic D hl.1⟩
  ·split
   ·exact aZ.ok ⟨D,I⟩
   ·rename_i t ht;exact aZ.bind (E6 H (E8 D ht).1 s) fun n s1 hn=>ml g n false s1 hn.1 hn.2
theorem L4(s:St):aZ (fun n=>Ix n/\n.kind≠10) (iZ F c s):=
 aZ.ite (aZ.bind (H.unary _) fun _ _ h=>aZ.ok ⟨dw (by decide) (fK h.1) (by simp),kn (by decide)⟩) (aZ.bind (Sa H s) fun x s1 h=>ml H F.g x.1 x.2 s1 h.1 h.2)
omit H in
theorem yJ(k:Nat){below:R Nd}(hb:∀s,aZ (fun n=>Ix n/\n.kind≠10) (below c s)):∀(g:Nat)(out:Nd)(s:St),Ix out->out.kind≠10->aZ (fun n=>Ix n/\n.kind≠10) (iX k below g out c s)
 |0,_,_,_,_=>aZ.no
 |g+1,out,s,D,I=>by unfold iX;exact aZ.ite (aZ.bind (hb _) fun _ s1 h=>yJ k hb g _ s1 (dw (by decide) (iQ D h.1) (by simp)) (kn (by decide))) (aZ.ok ⟨D,I⟩)
theorem AJ:∀(k:Nat)(s:St),aZ (fun n=>Ix n/\n.kind≠10) (i6 F k c s)
 |0,s=>L4 H s
 |k+1,s=>aZ.bind (AJ k s) fun x s1 h=>yJ (k+1) (AJ k) F.g x s1 h.1 h.2
end
theorem L5(c:Cx):∀g,g<=999999->TI c (di g)
 |0,_=>⟨gP _,fun _=>aZ.no,fun _=>aZ.no,fun _=>aZ.no,fun _=>aZ.no,fun _=>aZ.no⟩
 |g+1,h=>by have H:=L5 c g (by omega);exact⟨h,L0 H,AJ H 5,L4 H,L2 H,E5 H⟩
theorem eI(n:Nd):(m8 n).kind=n.kind:=by cases n;rw[eB];rfl
theorem il(n:Nd):(m8 n).text=n.text:=by cases n;rw[eB];rfl
theorem eJ(n:Nd):(m8 n).kids=n.kids.map m8:=by cases n;rw[eB,<-lB];rfl
theorem Sd:m8 bX=bX:=by unfold bX;rw[eB,nK]
def bJ(p:Nd->Bool):Prop:=∀n,p (m8 n)=p n
theorem AO(l:List Nd)(i:Nat):(l.map m8).getD i bX=m8 (l.getD i bX):=by
 rw[gR,gR,List.getElem?_map];cases l[i]? with
 |none=>exact Sd.symm
 |some x=>rfl
theorem oa{p:Nd->Bool}(h:bJ p)(l:List Nd):(l.map m8).all p=l.all p:=by rw[List.all_map];congr 1;exact funext h
theorem yL:∀(ps:List (Nd->Bool))(l:List Nd),(∀p∈ps,bJ p)->aY ps (l.map m8)=aY ps l
 |[],[],_=>rfl
 |[],_::_,_=>rfl
 |_::_,[],_=>rfl
 |p::ps,n::l,h=>by rw[kE,aY,aY,h p (by simp) n,yL ps l fun q hq=>h q (by simp[hq])]
theorem m9{k:Int}{ps:List (Nd->Bool)}(h:∀p∈ps,bJ p):bJ (cA k ps):=fun n=>by unfold cA;rw[eI,il,eJ,yL ps _ h]
theorem Md(so:ByteArray->Bool)(n:Nd):au so (m8 n)=m8 (au so n):=by
 unfold au;rw[il];split
 ·rw[eI,eB,eJ,lB];obtain⟨k,t,l,a⟩:=n;rw[eB];rfl
 ·rw[eB,nK]
theorem rp{k:Int}{ps:List (Nd->Bool)}(so:ByteArray->Bool)(h:∀p∈ps,bJ p):bJ (fun n=>cA k ps (au so n)):=fun n=>by show cA k ps (au so (m8 n))=cA k ps (au so n);rw[Md,m9 h]
theorem mo{k:Int}{ps:List (Nd->Bool)}(so:ByteArray->Bool)(h:∀p∈ps,bJ p)(n:Nd):cA k ps (au so (m8 n))=cA k ps (au so n):=rp so h n
theorem CJ{p:Nd->Bool}(h:bJ p):bJ (lP p):=fun n=>by unfold lP;rw[eI,il,eJ,oa h]
theorem fV{p q:Nd->Bool}(h:bJ p)(D:bJ q):bJ (cB p q):=fun n=>by unfold cB;rw[h,D]
theorem fi:bJ ah:=fun n=>by unfold ah;rw[eI,il,eJ,jT]
theorem mq{p:Nd->Bool}(h:bJ p):∀q∈[p],bJ q:=fun q hq=>by(obtain rfl:q=p:=by simpa using hq);exact h
theorem o4{p q:Nd->Bool}(h:bJ p)(D:bJ q):∀r∈[p,q],bJ r:=fun r hr=>by
 (have:r=p\/r=q:=by simpa using hr);rcases this with rfl|rfl
 ·exact h
 ·exact D
theorem CK{p q u:Nd->Bool}(h:bJ p)(I:bJ q)(D:bJ u):∀r∈[p,q,u],bJ r:=fun r hr=>by
 (have:r=p\/r=q\/r=u:=by simpa using hr);rcases this with rfl|rfl|rfl
 ·exact h
 ·exact I
 ·exact D
theorem Pm{p q u v:Nd->Bool}(h:bJ p)(J:bJ q)(I:bJ u)(D:bJ v):∀r∈[p,q,u,v],bJ r:=fun r hr=>by
 (have:r=p\/r=q\/r=u\/r=v:=by simpa using hr);rcases this with rfl|rfl|rfl|rfl
 ·exact h
 ·exact J
 ·exact I
 ·exact D
theorem tY:∀q∈([]:List (Nd->Bool)),bJ q:=fun q hq=>by simp at hq
structure TW(F:cQ):Prop where
 typ:bJ F.typ
 expr:bJ F.expr
 block:bJ F.block
 stmt:bJ F.stmt
 ifS:bJ F.ifS
section
variable {F:cQ} (hF:TW F)
include hF
theorem AP(so:ByteArray->Bool):bJ (io F so):=m9 (o4 (CJ (rp so (mq hF.typ))) (fV fi hF.typ))
theorem Pn:bJ (dA F):=fun n=>by unfold dA;rw[eI,il,eJ,oa hF.typ,m9 (mq hF.typ),AP hF]
theorem yM:bJ (i8 F):=fun n=>by unfold i8;rw[eI,il,eJ,jT,oa (show bJ (uo F)from rp oL (mq hF.typ))]
theorem Eg:bJ (ls F):=fun n=>by unfold ls;rw[eI,il,eJ,oa (show bJ (re F)from rp aE (mq hF.typ))]
theorem Eh:bJ (lV F):=fun n=>by unfold lV;rw[eI,hF.typ]
theorem rq:bJ (iJ F):=CJ (show bJ (rL F)from rp aE (mq (fV (Eh hF) (yM hF))))
theorem Fe:bJ (iK F):=fun n=>by unfold iK;rw[mo aE (o4 (fV fi hF.typ) (fV fi hF.expr)),eJ,AO,AO,fi,fi]
theorem Me:bJ (nn F):=fun n=>by unfold nn;rw[eI,mo aE (CK (rq hF) (show bJ (fw F)from AP hF aE) hF.block),mo aE (o4 (rq hF) (fV (fV hF.typ (Eg hF)) (yM hF))),mo aE (o4 (rq hF) hF.typ),Fe hF]
theorem Mf:bJ (dB F):=fun n=>by unfold dB;rw[eI,hF.expr,hF.typ]
theorem CL:bJ (aA F):=fun n=>by unfold aA;rw[eI,il,eJ,jT,oa hF.expr,<-List.map_drop,oa (Mf hF),oa hF.expr,AO,eI,hF.expr,hF.typ,mo dt tY,mo dX tY,mo aE tY,mo dW (mq hF.expr),mo cU (o4 hF.expr hF.expr),mo aE (mq hF.expr),m9 (o4 (show bJ (fw F)from AP hF aE) hF.block)]
theorem AQ:bJ (fk F):=rp f8 (mq hF.expr)
theorem AR:bJ (fl F):=m9 (o4 hF.expr hF.expr)
theorem Mg:bJ (iw F):=fun n=>by unfold iw;rw[eI,hF.expr]
theorem CM:bJ (eU F):=m9 (mq (Mg hF))
theorem yN:bJ (du F):=rp bY (mq hF.expr)
theorem yO:bJ (bD F):=fun n=>by unfold bD;rw[eI,il,eJ,oa hF.stmt]
theorem Mh:bJ (Am F):=m9 (CK hF.expr hF.block (fV (fV fi hF.block) hF.ifS))
theorem Mi:bJ (aB F):=fun n=>by unfold aB;rw[eI,Fe hF,yN hF,AR hF,AQ hF,CM hF,Mh hF,m9 (Pm (fV (fV fi (yN hF)) (fV (AR hF) (AQ hF))) (fV fi hF.expr) (fV (fV fi (AR hF)) (fV (AQ hF) (CM hF))) hF.block),mo bL (o4 hF.expr hF.block),m9 (mq (fV fi hF.expr)),m9 tY,yO hF]
theorem Mj:bJ (tr F):=fun n=>by unfold tr;rw[eI,il,eJ,oa (Me hF)]
end
theorem AS:∀g,TW (aa g)
 |0=>⟨fun _=>rfl,fun _=>rfl,fun _=>rfl,fun _=>rfl,fun _=>rfl⟩
 |g+1=>by have h:=AS g;exact⟨Pn h,CL h,yO h,Mi h,Mh h⟩
theorem sd:∀(g:Nat)(n:Nd),aP g (m8 n)=aP g n
 |0,_=>rfl
 |g+1,n=>by rw[aP,aP,eJ,List.flatMap_map];congr 2;exact funext (sd g)
theorem CN(n:Nd):eN (m8 n)=eN n:=by unfold eN;rw[sd]
theorem CO(n:Nd):eO (m8 n)=eO n:=by unfold eO yt;rw[CN,sd,Mj (AS 100)]
theorem yP(n:Nd):bG (m8 n)=bG n:=by unfold bG yt;rw[CN,sd,CL (AS 100)]
theorem co.right{n m:Nd}(h:co n m):eO n=eO m:=by rw[<-CO,show m8 n=m8 m from h,CO]
theorem co.rightX{n m:Nd}(h:co n m):bG n=bG m:=by rw[<-yP,show m8 n=m8 m from h,yP]
def Ag(d:Nat)(P Q:Nd->Bool):Prop:=∀n,dK d n->P n=Q n
structure yo(d:Nat)(F G:cQ):Prop where
 typ:Ag d F.typ G.typ
 expr:Ag d F.expr G.expr
 block:Ag d F.block G.block
 stmt:Ag d F.stmt G.stmt
 ifS:Ag d F.ifS G.ifS
theorem Ag.refl(d:Nat)(P:Nd->Bool):Ag d P P:=fun _ _=>rfl
theorem tb{d:Nat}{P Q:Nd->Bool}(h:Ag d P Q){l:List Nd}(D:∀k∈l,dK d k):l.all P=l.all Q:=by
 induction l with
 |nil=>rfl
 |cons x l ih=>rw[kz,kz,h x (D x (by simp)),ih (fun k hk=>D k (by simp[hk]))]
inductive Tg(d:Nat):List (Nd->Bool)->List (Nd->Bool)->Prop where
 |nil:Tg d [] []
 |cons {P Q:Nd->Bool} {l m:List (Nd->Bool)}:Ag d P Q->Tg d l m->Tg d (P::l) (Q::m)
theorem Ew{d:Nat}:∀{ps qs:List (Nd->Bool)},Tg d ps qs->∀(ks:List Nd),(∀k∈ks,dK d k)->aY ps ks=aY qs ks
 |_,_,.nil,ks,_=>by cases ks<;>rfl
 |_,_,.cons h hs,[],_=>rfl
 |_,_,.cons h hs,k::ks,D=>by unfold aY;rw[h k (D k (by simp)),Ew hs ks (fun j hj=>D j (by simp[hj]))]
theorem mw{d:Nat}(k:Int){ps qs:List (Nd->Bool)}(h:Tg d ps qs):Ag (d+1) (cA k ps) (cA k qs):=by intro n hn;unfold cA;rw[Ew h n.kids (fun j hj=>hn.kid hj)]
theorem tc{d:Nat}(k:Int){ps qs:List (Nd->Bool)}(h:Tg d ps qs):Ag d (cA k ps) (cA k qs):=by intro n hn;unfold cA;rw[Ew h n.kids (fun j hj=>hn.kid' hj)]
theorem pg{d:Nat}{P Q:Nd->Bool}(so:ByteArray->Bool)(h:Ag d P Q):Ag d (fun n=>P (au so n)) (fun n=>Q (au so n)):=fun _ hn=>h _ hn.named
theorem mO{d:Nat}{P Q P' Q':Nd->Bool}(h:Ag d P Q)(h':Ag d P' Q'):Ag d (cB P P') (cB Q Q'):=by intro n hn;unfold cB;rw[h n hn,h' n hn]
theorem Fq{d:Nat}{P Q:Nd->Bool}(h:Ag d P Q):Ag d (lP P) (lP Q):=by intro n hn;unfold lP;rw[tb h (fun j hj=>hn.kid' hj)]
section
variable {d:Nat} {F G:cQ}
theorem CY(h:yo d F G)(so:ByteArray->Bool):Ag d (dQ F so) (dQ G so):=pg so (tc 8 (.cons h.typ .nil))
theorem Px(h:yo d F G)(so:ByteArray->Bool):Ag d (io F so) (io G so):=tc 12 (.cons (Fq (CY h so)) (.cons (mO (Ag.refl d ah) h.typ) .nil))
theorem Sm(h:yo d F G)(so:ByteArray->Bool):Ag (d+1) (io F so) (io G so):=mw 12 (.cons (Fq (CY h so)) (.cons (mO (Ag.refl d ah) h.typ) .nil))
theorem G7(h:yo d F G):Ag d (fw F) (fw G):=Px h aE
theorem Sn(h:yo d F G):Ag (d+1) (dA F) (dA G):=by intro n hn;unfold dA;rw[tb h.typ (fun j hj=>hn.kid hj),mw 11 (.cons h.typ .nil) n hn,Sm h dV n hn]
theorem So(h:yo d F G):Ag (d+1) (iK F) (iK G):=by intro n hn;unfold iK;rw[mw 5 (.cons (mO (Ag.refl d ah) h.typ) (.cons (mO (Ag.refl d ah) h.expr) .nil)) (au aE n) hn.named]
theorem Py(h:yo d F G):Ag d (dB F) (dB G):=by intro n hn;unfold dB;rw[h.expr n hn,h.typ n hn]
theorem CZ{n:Nd}(D:dK (d+1) n)(i:Nat):∀k∈n.kids.drop i,dK d k:=fun _ hk=>D.kid (vd hk)
theorem MO{P Q:Nd->Bool}(h:Ag d P Q){n:Nd}(I:dK (d+1) n)(D:0<n.kids.length):P (n.kids.getD 0 bX)=Q (n.kids.getD 0 bX):=by rw[gR,gN D];exact h _ (I.kid (gX D))
theorem Pz(h:yo d F G):Ag (d+1) (aA F) (aA G):=by
 intro n hn;unfold aA;rw[mw 19 (.cons h.expr .nil) (au dW n) hn.named,mw 20 (.cons h.expr (.cons h.expr .nil)) (au cU n) hn.named,tb h.expr (fun j hj=>hn.kid hj),
  mw 23 (.cons h.expr .nil) (au aE n) hn.named,tb (Py h) (CZ hn 1),tb h.expr (CZ hn 1),mw 25 (.cons (G7 h) (.cons h.block .nil)) n hn]
 by_cases D:0<n.kids.length
 ·rw[MO h.expr hn D,MO h.typ hn D]
 ·(have I:¬ 1<n.kids.length:=by omega);simp[D,I]
theorem C1(h:yo d F G):Ag (d+1) (bD F) (bD G):=by intro n hn;unfold bD;rw[tb h.stmt (fun j hj=>hn.kid hj)]
theorem Rw(h:yo d F G):Ag (d+1) (Am F) (Am G):=mw 30 (.cons h.expr (.cons h.block (.cons (mO (mO (Ag.refl d ah) h.block) h.ifS) .nil)))
theorem C2(h:yo d F G):Ag (d+1) (du F) (du G):=pg bY (mw 26 (.cons h.expr .nil))
theorem Ex(h:yo d F G):Ag (d+1) (fl F) (fl G):=mw 27 (.cons h.expr (.cons h.expr .nil))
theorem Ey(h:yo d F G):Ag (d+1) (fk F) (fk G):=pg f8 (mw 28 (.cons h.expr .nil))
theorem C3(h:yo d F G):Ag d (iw F) (iw G):=by intro n hn;unfold iw;rw[h.expr n hn]
theorem Fr(h:yo d F G):Ag (d+1) (eU F) (eU G):=mw 29 (.cons (C3 h) .nil)
theorem G8(h:yo d F G):Ag d (du F) (du G):=pg bY (tc 26 (.cons h.expr .nil))
theorem Fs(h:yo d F G):Ag d (fl F) (fl G):=tc 27 (.cons h.expr (.cons h.expr .nil))
theorem Ft(h:yo d F G):Ag d (fk F) (fk G):=pg f8 (tc 28 (.cons h.expr .nil))
theorem MP(h:yo d F G):Ag d (eU F) (eU G):=tc 29 (.cons (C3 h) .nil)
theorem PA(h:yo d F G):Ag (d+1) (aB F) (aB G):=by
 intro n hn;unfold aB;rw[So h n hn,C2 h n hn,Ex h n hn,Ey h n hn,Fr h n hn,Rw h n hn,C1 h n hn,
  mw 31 (.cons (mO (mO (Ag.refl d ah) (G8 h)) (mO (Fs h) (Ft h))) (.cons (mO (Ag.refl d ah) h.expr) (.cons (mO (mO (Ag.refl d ah) (Fs h)) (mO (Ft h) (MP h))) (.cons h.block .nil)))) n hn,
  mw 32 (.cons h.expr (.cons h.block .nil)) (au bL n) hn.named,mw 33 (.cons (mO (Ag.refl d ah) h.expr) .nil) n hn]
end
theorem dz:∀d,yo d (aa d) (aa (d+1))
 |0=>⟨fun _ h=>h.elim,fun _ h=>h.elim,fun _ h=>h.elim,fun _ h=>h.elim,fun _ h=>h.elim⟩
 |d+1=>⟨Sn (dz d),Pz (dz d),C1 (dz d),PA (dz d),Rw (dz d)⟩
end
section
open Go.RowKit Go.Lib Go.Proofs
theorem TU(E:cy)(D:ES E)(N:uF E)(I:Ln E):∀g,g<=999999->pw E (di g)
 |0,_=>⟨fun _ _ _ h=>absurd rfl h,fun _ _ _ h=>absurd rfl h,fun _ _ _ h=>absurd rfl h,fun _ _ _ h=>absurd rfl h,fun _ _ _ h=>absurd rfl h,gP _⟩
 |g+1,O=>by have hF:=TU E D N I g (by omega);(have J:(di g).g=g:=by cases g<;>rfl);have M:=GK E (di g) hF (Ct E (di g) hF D (fun s x s1 h=>((L5 E.c g (by omega)).expr s x s1 h).1) (by rw[J];omega));exact⟨Ow E (di g) hF,LY E (di g) M,M,Lp E (di g) hF (Lh E (di g) hF) N I,Lo E (di g) hF,by show g+1<=1000000;omega⟩
theorem GM{E:cy}(h:∀t∈E.c.toks,t.text.size<=65536):uF E:=fun t ht=>kC (h t ht) (by decide)
end
section
open Go.Lib
abbrev bytes(s:ByteArray):List UInt8:=s.data.toList
theorem aO(x y:ByteArray):bytes (x++y)=bytes x++bytes y:=by unfold bytes;rw[ByteArray.data_append,Array.toList_append]
theorem ez(s:ByteArray)(i j:Nat):bytes (s.extract i j)=((bytes s).drop i).take (j-i):=by unfold bytes;rw[ByteArray.data_extract,Array.toList_extract,qG]
theorem cg{x y:ByteArray}(h:bytes x=bytes y):x=y:=by obtain⟨a⟩:=x;obtain⟨b⟩:=y;have:a=b:=Array.ext' h;rw[this]
theorem cm(s:ByteArray):(bytes s).length=s.size:=rfl
inductive It where
 |tok (k:Int) (x:List UInt8)
 |gap (b:UInt8)
 |nl
def Tf:It->List UInt8
 | .tok _ x=>x
 | .gap b=>[b]
 | .nl=>[10]
def fX(l:List It):List UInt8:=l.flatMap Tf
theorem cD(a:It)(l:List It):fX (a::l)=Tf a++fX l:=by unfold fX;rw[jH]
theorem iR(l m:List It):fX (l++m)=fX l++fX m:=by unfold fX;rw[kJ]
def d7(x:List UInt8):ByteArray:=⟨x.toArray⟩
theorem bH(x:List UInt8):bytes (d7 x)=x:=by unfold bytes d7;exact List.toList_toArray ..
theorem bV{k:Int}{ps:List (Nd->Bool)}{n:Nd}(h:cA k ps n=true):∃l a,n=.mk k ⟨#[]⟩ l a/\aY ps l=true:=by obtain⟨k',t,l,a⟩:=n;unfold cA at h;rw[gB,gB,gE,gE]at h;obtain⟨rfl,rfl,h⟩:=h;exact⟨l,a,rfl,h⟩
theorem aN{k:Int}{ps:List (Nd->Bool)}{so:ByteArray->Bool}{n:Nd}(D:k≠37)(h:cA k ps (au so n)=true):∃t l a,n=.mk k t l a/\so t=true/\aY ps l=true:=by
 obtain⟨k',t,l,a⟩:=n;unfold au at h;split at h
 ·rename_i hs;obtain⟨l',a',e,h⟩:=bV h;injection e with e1 _ e3 _;exact⟨t,l,a,by rw[show k'=k from e1],hs,by rw[show l=l' from e3];exact h⟩
 ·obtain⟨l',a',e,_⟩:=bV h;injection e with e1;exact absurd e1.symm D
theorem d8{p:Nd->Bool}{l:List Nd}(h:aY [p] l=true):∃x,l=[x]/\p x=true:=by
 rcases l with _|⟨x,_|⟨y,l⟩⟩
 ·cases h
 ·exact⟨x,rfl,by simpa[aY]using h⟩
 ·simp[aY]at h
theorem ll{p q:Nd->Bool}{l:List Nd}(h:aY [p,q] l=true):∃x y,l=[x,y]/\p x=true/\q y=true:=by
 rcases l with _|⟨x,_|⟨y,_|⟨z,l⟩⟩⟩
 ·cases h
 ·simp[aY]at h
 ·exact⟨x,y,rfl,by simpa[aY]using h⟩
 ·simp[aY]at h
theorem Ph{p q u:Nd->Bool}{l:List Nd}(h:aY [p,q,u] l=true):∃x y z,l=[x,y,z]/\p x=true/\q y=true/\u z=true:=by
 rcases l with _|⟨x,_|⟨y,_|⟨z,_|⟨w,l⟩⟩⟩⟩
 ·cases h
 ·simp[aY]at h
 ·simp[aY]at h
 ·exact⟨x,y,z,rfl,by simpa[aY]using h⟩
 ·simp[aY]at h
theorem Pi{p q u v:Nd->Bool}{l:List Nd}(h:aY [p,q,u,v] l=true):∃x y z w,l=[x,y,z,w]/\p x=true/\q y=true/\u z=true/\v w=true:=by
 rcases l with _|⟨x,_|⟨y,_|⟨z,_|⟨w,_|⟨k,l⟩⟩⟩⟩⟩
 ·cases h
 ·simp[aY]at h
 ·simp[aY]at h
 ·simp[aY]at h
 ·exact⟨x,y,z,w,rfl,by simpa[aY]using h⟩
 ·simp[aY]at h
theorem bI{n:Nd}(h:ah n=true):∃a,n=.mk 0 ⟨#[]⟩ [] a:=by obtain⟨k,t,l,a⟩:=n;unfold ah at h;rw[gB,gB,gE,gE,gE]at h;obtain⟨rfl,rfl,h⟩:=h;have h:l.length=0:=h;rw[jQ h];exact⟨a,rfl⟩
theorem sS{F:cQ}{so:ByteArray->Bool}{n:Nd}(h:io F so n=true):∃ps a1 res a,n=.mk 12 ⟨#[]⟩ [.mk 6 ⟨#[]⟩ ps a1,res] a/\ps.all (dQ F so)=true/\(ah res=true\/F.typ res=true):=by obtain⟨l,a,rfl,h⟩:=bV h;obtain⟨x,y,rfl,D,I⟩:=ll h;obtain⟨k,t,ps,a1⟩:=x;unfold lP at D;rw[gB,gB,gE,gE]at D;obtain⟨rfl,rfl,D⟩:=D;unfold cB at I;rw[gI]at I;exact⟨ps,a1,y,a,rfl,D,I⟩
theorem typ_kind{d:Nat}{n:Nd}(h:(aa d).typ n=true):n.kind=10\/n.kind=11\/n.kind=12:=by
 cases d with
 |zero=>cases h
 | succ d=>
  have h:dA (aa d) n=true:=h;unfold dA at h;split at h
  ·exact .inl ‹_›
  ·split at h
   ·exact .inr (.inl ‹_›)
   ·split at h
    ·exact .inr (.inr ‹_›)
    ·cases h
end
end Go.Proofs.YtiebcdeafofgdaaGreatDoor
