/-
  Parts of the proof: Pph Ppi. By an AI agent.
-/
import Derived.Test.YteialcjaiocjdaaGreatDoorJ37
import Derived.Test.YteialcjaiocjdaaGreatDoorJ36
namespace Go.Proofs.YteialcjaiocjdaaGreatDoor
section
section
variable {c:Cx} {m:Bool} {head:Bool}
theorem FT{n:Nd}{x:ByteArray}{a:Int}(h:ci n (.mk 18 x [] a)):EH n (.mk 10 x [] a):=by
 (have e:bP (.mk 18 x [] a)=some (.mk 10 x [] a):=by unfold bP;rw[gB (by decide),gG rfl]);rcases Ew h with⟨-,D⟩|⟨t,t',J,D,I⟩
 ·rw[e]at D;cases D
 ·rw[e]at D;injection D with D;subst D;exact⟨t,J,I⟩
theorem MS{n:Nd}{x:ByteArray}{l l':List Nd}{a p:Int}(h:EH n (.mk 10 x [] a))(N:mF EH l' l):EH (.mk 22 ⟨#[]⟩ (n::l') p) (.mk 10 x l a):=by obtain⟨t,h1,D⟩:=h;obtain⟨r',U,O⟩:=tS N;obtain⟨M,I,J,a2⟩:=t;have e1:M=10:=D.kind;have e2:I=x:=D.text;have e3:J.length=0:=(ci.kids D).len;subst e1 e2;refine⟨.mk 10 I r' a2,?_,ci.mk O _ _⟩;unfold bP;rw[gB (by decide),gB (by decide),gG rfl];simp only[h1];rw[gG ⟨trivial,e3⟩,U];rfl
theorem wE{l:List TK}{Q:Nd->Prop}(h:t7 c m l (fun n _=>Q n) head)(hb:cD (dS l) ⟨#[45]⟩=false/\cD (dS l) ⟨#[33]⟩=false)(D:l≠[]):I6 c 5 m l Q head:=wz (fT (rL h hb D)) 5
theorem Im.mono{l:List TK}{Q Q':Nd->Prop}(h:Im c l Q)(D:∀n,Q n->Q' n):Im c l Q':=by intro G s r ha hh hp hf hb;obtain⟨n',s',M,J,I⟩:=h G s r ha hh hp hf hb;exact⟨n',s',M,D _ J,I⟩
theorem SK:∀d,(∀T m head,(aa d).typ T=true->T.kind=10->t7 c m (aG (ag d T)) (fun n b=>EH n T/\b=true) head)/\(∀T,(aa d).typ T=true->Im c (aG (ag d T)) (fun n=>EH n T/\(T.kind≠10->ci n T)))
 |0=>⟨fun T _ _ h=>(by cases h),fun T h=>(by cases h)⟩
 | d+1=>by
  obtain⟨-,ihB⟩:=SK d;have hP:∀T m head,(aa (d+1)).typ T=true->T.kind=10->t7 c m (aG (ag (d+1) T)) (fun n b=>EH n T/\b=true) head:=by
   intro T m head hT I;obtain⟨k,x,l,a⟩:=T;have I:k=10:=I;subst I;have N:dH (aa d) (.mk 10 x l a)=true:=hT;unfold dH at N;rw[gG (show(Nd.mk 10 x l a).kind=10 from rfl),gA]at N;have hl:l.all (aa d).typ=true:=N.2;(have e:aG (ag (d+1) (.mk 10 x l a))=(1,x)::aG (nh (ag d) l):=by have O:(Nd.mk 10 x l a).kind=10:=rfl;unfold ag;rw[gB (by rw[O];decide),gB (by rw[O];decide),gB (by rw[O];decide),iP];rfl);rw[e];unfold nh;by_cases O:l=[]
   ·subst O;rw[gG rfl];exact(sB x a).mono fun n b h=>⟨FT h.1,h.2⟩
   ·rw[gB O,lF,aX,pN,qV];(have e2:l.map (aG∘ag d)=(l.map fun z=>(aG (ag d z),z)).map (·.1):=by rw[sv];rfl);rw[e2];refine Ar (lf:=[(1,x)]) (P:=fun n b=>EH n (.mk 10 x [] a)/\b=true) (Q:=EH) (by simpa using O) ((sB x a).mono fun n b h=>⟨FT h.1,h.2⟩) (fun z hz=>?_) (fun n b l' p h1 h2=>?_)
    ·obtain⟨y,hy,rfl⟩:=List.mem_map.1 hz;have ga:=List.all_eq_true.1 hl y hy;obtain⟨t,q,e3,ht⟩:=f9 ga;exact⟨by show cD (dS (aG (ag d y))) ⟨#[93]⟩=false;rw[e3];exact bU ht _ (by decide) (by decide) (by decide) (by decide) (by decide),by show aG (ag d y)≠[];rw[e3];simp,(ihB y ga).mono fun _ h=>h.1⟩
    ·rw[mY]at h2;exact⟨MS h1.1 h2,h1.2⟩
  refine⟨hP,fun T hT=>?_⟩;rcases typ_kind hT with I|I|I
  ·(have e:∃x l,aG (ag (d+1) T)=(1,x)::l:=by unfold ag;rw[gB (by rw[I];decide),gB (by rw[I];decide),gB (by rw[I];decide),iP];exact⟨_,_,rfl⟩);obtain⟨x,l,e⟩:=e;exact(rM (wE ((hP T true false hT I).mono fun n b h=>(⟨h.1,fun h'=>absurd I h'⟩:EH n T/\(T.kind≠10->ci n T))) (by rw[e];exact⟨rfl,rfl⟩) (by rw[e];simp))).br
  ·intro G s r ha hh hp hf hr;obtain⟨G',rfl⟩:∃G',G=G'+1:=⟨G-1,by unfold Fu at hf;omega⟩;have J:Fu c 1 G' s:=hf.more (by omega);obtain⟨n',s1,e1,g1,U,g3,g4⟩:=ia (d+1) G' T hT { s with part :=-1 } r ha (Bx hr Bw) J;(have e2:∃q,aG (ag (d+1) T)++r=(6,(⟨#[91]⟩:BA))::(6,(⟨#[93]⟩:BA))::q:=by unfold ag;rw[gG I];exact⟨_,rfl⟩);obtain⟨q,e2⟩:=e2;have D:=ha;rw[e2]at D;(have M:cN (cI G') c s=.ok (n',false) s1:=by rw[mI D (by decide),gB ((D.pt (-1)).no (by decide)),gB ((D.pt (-1)).no (by decide)),gG (by rw[(D.pt (-1)).slice];show(cD (6,(⟨#[91]⟩:BA)) ⟨#[91]⟩&&((6:Int)==6&&decide ((⟨#[93]⟩:BA)=(⟨#[93]⟩:BA))))=true;decide)];unfold iD;rw[e1,bQ.bind_ok,gG (by rw[wC U hr,jK hp];rfl)];rfl);refine⟨n',s1,?_,⟨EH.self g1 (.inr (.inl I)),fun _=>g1⟩,U,g3,g4⟩;exact pu D ⟨show cD (6,(⟨#[91]⟩:BA)) ⟨#[45]⟩=false by decide,show cD (6,(⟨#[91]⟩:BA)) ⟨#[33]⟩=false by decide⟩ M U (sy hr (wA _)) (by unfold Fu at J;omega)
  ·intro G s r ha hh hp hf hr;obtain⟨G',rfl⟩:∃G',G=G'+1:=⟨G-1,by unfold Fu at hf;omega⟩;have J:Fu c 1 G' s:=hf.more (by omega);have N:dH (aa d) T=true:=hT;unfold dH at N;rw[gB (by rw[I];decide),gB (by rw[I];decide),gG I]at N;obtain⟨ps,a1,res,a,rfl,gd,gb⟩:=rE N;have D:At c s ((2,(⟨#[102,117,110,99]⟩:BA))::(aG (eg (ag d) (.mk 12 ⟨#[]⟩ [.mk 6 ⟨#[]⟩ ps a1,res] a))++r)):=ha;have hl:=D.len;simp at hl;obtain⟨n',s1,e1,g1,U,g3,g4⟩:=Io (ia d G') gd gb (aD c s) (s:=adv { s with part :=-1 }) (r:=r) (D.pt (-1)).adv hr (by unfold Fu at J |-;show 3*(c.toks.length-(s.at_+1))+1<=G';omega);(have M:cN (cI G') c s=.ok (n',false) s1:=by rw[mI D (by decide),gB ((D.pt (-1)).no (by decide)),gG ((D.pt (-1)).yes (by decide)),jK hp,e1];rfl);refine⟨n',s1,?_,⟨EH.self g1 (.inr (.inr rfl)),fun _=>g1⟩,U,g3,g4⟩;exact pu D ⟨show cD (2,(⟨#[102,117,110,99]⟩:BA)) ⟨#[45]⟩=false by decide,show cD (2,(⟨#[102,117,110,99]⟩:BA)) ⟨#[33]⟩=false by decide⟩ M U (sy hr (wA _)) (by unfold Fu at J;omega)
theorem MT{d:Nat}{T:Nd}(hT:(aa d).typ T=true)(hk:T.kind=10){L:List (List TK×Nd)}(a:Int)(hL:Il c ⟨#[125]⟩ L):
  t7 c m (aG (ag d T)++((6,(⟨#[123]⟩:BA))::(eh dI (L.map (·.1))++[(6,(⟨#[125]⟩:BA))]))) (fun n _=>ci n (.mk 24 ⟨#[]⟩ (T::L.map (·.2)) a)) false:=by intro G s r g ha hh hp M hb;(have e:aG (ag d T)++((6,(⟨#[123]⟩:BA))::(eh dI (L.map (·.1))++[(6,(⟨#[125]⟩:BA))]))++r=aG (ag d T)++((6,(⟨#[123]⟩:BA))::(eh dI (L.map (·.1))++((6,(⟨#[125]⟩:BA))::r))):=by simp);rw[e]at ha;obtain⟨O,b0,h,n1,b1,s1,N,e1,e2,⟨⟨t,q0,q1⟩,rfl⟩,D,J,q4,q5⟩:=(SK d).1 T m false hT hk G s _ g ha hh hp M hb;obtain⟨I,rfl⟩:∃I,N=I+1:=⟨N-1,by omega⟩;have ga:=fI ha D;obtain⟨n2,U,e3,p1,p2,p3,p4⟩:=FS a q1 hL D q4 (M.le (by omega));refine⟨O,b0,h,n2,false,U,I,e1,e2.trans (SJ (Bool.eq_false_iff.2 (D.no (by decide))) (Bool.eq_false_iff.2 (D.no (by decide))) (Bool.eq_false_iff.2 (D.no (by decide))) (D.yes (by decide)) J q0 e3),p1,p2,p3.trans J,p4,?_⟩;have h1:=D.len;have h2:=p2.len;simp at h1;omega
theorem MU{d:Nat}{T:Nd}(h:(aa d).typ T=true)(hk:T.kind=11){L:List (List TK×Nd)}(a:Int)(hL:Il c ⟨#[125]⟩ L):
  t7 c m (aG (ag d T)++((6,(⟨#[123]⟩:BA))::(eh dI (L.map (·.1))++[(6,(⟨#[125]⟩:BA))]))) (fun n _=>ci n (.mk 24 ⟨#[]⟩ (T::L.map (·.2)) a)) head:=by
 intro G s r g ha hh hp U hb;(have e:aG (ag d T)++((6,(⟨#[123]⟩:BA))::(eh dI (L.map (·.1))++[(6,(⟨#[125]⟩:BA))]))++r=aG (ag d T)++((6,(⟨#[123]⟩:BA))::(eh dI (L.map (·.1))++((6,(⟨#[125]⟩:BA))::r))):=by simp);rw[e]at ha;obtain⟨n',s1,e1,g1,J,g3,g4⟩:=ia d G T h { s with part :=-1 } _ ha (by show dq (6,(⟨#[123]⟩:BA))=false;decide +kernel) U;have M:∃q,aG (ag d T)++((6,(⟨#[123]⟩:BA))::(eh dI (L.map (·.1))++((6,(⟨#[125]⟩:BA))::r)))=(6,(⟨#[91]⟩:BA))::(6,(⟨#[93]⟩:BA))::q:=by
  cases d with
  |zero=>cases h
  |succ d=>unfold ag;rw[gG hk];exact⟨_,rfl⟩
 obtain⟨q,M⟩:=M;have D:=ha;rw[M]at D;have I:=fI (s:={ s with part :=-1 }) ha J;have I:s.at_+(aG (ag d T)).length=s1.at_:=I;obtain⟨O,N,e3,p1,p2,p3,p4⟩:=FS a g1 hL J g4 (U.le (by omega));refine⟨O,false,N,O,false,N,g,?_,rfl,p1,p2,(p3.trans g3).trans hh,p4,?_⟩
 ·rw[mI D (by decide),gB ((D.pt (-1)).no (by decide)),gB ((D.pt (-1)).no (by decide)),gG (by rw[(D.pt (-1)).slice];show(cD (6,(⟨#[91]⟩:BA)) ⟨#[91]⟩&&((6:Int)==6&&decide ((⟨#[93]⟩:BA)=(⟨#[93]⟩:BA))))=true;decide)];unfold iD;rw[e1,bQ.bind_ok,gB,e3]
  ·rfl
  ·rw[wB J];simp only[gA,not_and];intro _;show ¬ (cD (6,(⟨#[123]⟩:BA)) ⟨#[44]⟩||cD (6,(⟨#[123]⟩:BA)) ⟨#[93]⟩)=true;decide
 ·have h1:=J.len;have h2:=p2.len;simp at h1;omega
theorem MV{d:Nat}{ps:List Nd}{a1 a2:Int}(a:Int){res b:Nd}{lb:List TK}(J:ps.all (d4 (aa d) aB)=true)(I:an res=true\/(aa d).typ res=true)(hB:PM c ((6,(⟨#[123]⟩:BA))::lb) b):
  t7 c m ((2,(⟨#[102,117,110,99]⟩:BA))::(aG (eg (ag d) (.mk 12 ⟨#[]⟩ [.mk 6 ⟨#[]⟩ ps a1,res] a2))++((6,(⟨#[123]⟩:BA))::lb))) (fun n _=>ci n (.mk 25 ⟨#[]⟩ [.mk 12 ⟨#[]⟩ [.mk 6 ⟨#[]⟩ ps a1,res] a2,b] a)) head:=by
 intro G s r g D hh hp hf hb;(have e:(2,(⟨#[102,117,110,99]⟩:BA))::(aG (eg (ag d) (.mk 12 ⟨#[]⟩ [.mk 6 ⟨#[]⟩ ps a1,res] a2))++((6,(⟨#[123]⟩:BA))::lb))++r=(2,(⟨#[102,117,110,99]⟩:BA))::(aG (eg (ag d) (.mk 12 ⟨#[]⟩ [.mk 6 ⟨#[]⟩ ps a1,res] a2))++((6,(⟨#[123]⟩:BA))::(lb++r))):=by simp);rw[e]at D;have O:=D.len;simp at O;obtain⟨n',M,e1,g1,N,h,U⟩:=MR a (ia d G) J I (aD c s) (decide (s.part=(s.at_:Int))) hB (s:=adv { s with part :=-1 }) (r:=r) (D.pt (-1)).adv rfl (by unfold Fu at hf |-;show 3*(c.toks.length-(s.at_+1))+1<=G;omega);refine⟨n',false,M,n',false,M,g,?_,rfl,g1,N,h.trans hh,U,?_⟩
 ·rw[mI D (by decide),gB ((D.pt (-1)).no (by decide)),gG ((D.pt (-1)).yes (by decide)),e1];rfl
 ·have h2:=N.len;omega
end
def EK(u:ByteArray):Bool :=!decide (u.data.toList.head? = some 44) && !decide (u.data.toList.head? = some 58)
def MW(t:TK):Bool:=t.1==5 || !decide (t.2=(⟨#[114,97,110,103,101]⟩:BA))
def yx(l:List TK):Prop:=∀t q,l=t::q->MW t=true/\(t.1=1->q=[]\/∃u q',q=u::q'/\EK u.2=true)
theorem FU{x:ByteArray}(h:aB x=true):MW (1,x)=true:=by unfold MW;rw[gP (by rintro rfl;revert h;decide +kernel)];rfl
theorem SL{x:ByteArray}(h:cW x=true):MW (4,x)=true:=by unfold MW;rw[gP (by rintro rfl;revert h;decide +kernel)];rfl
theorem yx.app{l:List TK}(h:yx l)(I:l≠[]){u:TK}(D:EK u.2=true)(q:List TK):yx (l++(u::q)):=by
 cases l with
 |nil=>exact absurd rfl I
 |cons t l=>
  intro t' q' e;have e:t::(l++(u::q))=t'::q':=e;injection e with e1 e2;subst e1 e2;refine⟨(h t l rfl).1,fun M=>?_⟩;rcases(h t l rfl).2 M with rfl|⟨v,l',rfl,J⟩
  ·exact .inr ⟨u,q,rfl,D⟩
  ·exact .inr ⟨v,_,rfl,J⟩
theorem yx.sign{t:TK}{q:List TK}(h:t.1≠1)(D:MW t=true:=by decide +kernel):yx (t::q):=by intro t' q' e;injection e with e1 _;subst e1;exact⟨D,fun I=>absurd I h⟩
structure Lv(c:Cx)(m:Bool)(l:List TK)(n:Nd)(head:Bool):Prop where
 beg:∃t q,l=t::q/\dq t=true
 sec:yx l
 begP:n.kind≠20->n.kind≠19->∃t q,l=t::q/\dq t=true/\(cD t ⟨#[45]⟩=false/\cD t ⟨#[33]⟩=false)
 bin:I6 c 5 m l (fun n'=>ci n' n) head
 una:n.kind≠20->SH c m l (fun n'=>ci n' n) head
 pri:n.kind≠20->n.kind≠19->t7 c m l (fun n' _=>ci n' n) head
 cha:n.kind=20->SI c (5-b8 n.text) m l (fun n'=>ci n' n) head
theorem tb(x:ByteArray):1<=b8 x/\b8 x<=5:=by
 unfold b8;split
 ·exact⟨gC _,by omega⟩
 ·split
  ·exact⟨by omega,by omega⟩
  ·split
   ·exact⟨by omega,by omega⟩
   ·split
    ·exact⟨by omega,by omega⟩
    ·exact⟨by omega,by omega⟩
section
variable {c:Cx} {m:Bool} {head:Bool} {l:List TK} {n:Nd}
theorem Lv.of_pri(D:yx l)(hb:∃t q,l=t::q/\dq t=true/\(cD t ⟨#[45]⟩=false/\cD t ⟨#[33]⟩=false))(N:n.kind≠20)(h:t7 c m l (fun n' _=>ci n' n) head):Lv c m l n head:=by obtain⟨t,q,rfl,M,J⟩:=hb;have I:=rL (Q:=fun n'=>ci n' n) h J (by simp);exact⟨⟨t,q,rfl,M⟩,D,fun _ _=>⟨t,q,rfl,M,J⟩,wz (fT I) 5,fun _=>I,fun _ _=>h,fun h'=>absurd h' N⟩
theorem Lv.of_una(D:yx l)(hb:∃t q,l=t::q/\dq t=true)(I:n.kind=19)(h:SH c m l (fun n'=>ci n' n) head):Lv c m l n head:=
 ⟨hb,D,fun _ h'=>absurd I h',wz (fT h) 5,fun _=>h,fun _ h'=>absurd I h',fun h'=>by rw[I]at h';exact absurd h' (by decide)⟩
theorem rN{k j:Nat}(D:k<=j)(h:I6 c k m l (fun n'=>ci n' n) head):I6 c j m l (fun n'=>ci n' n) head:=by
 have:=wz h (j-k)
 rwa [show k+(j-k)=j by omega]at this
theorem Lv.of_cha(D:yx l)(hb:∃t q,l=t::q/\dq t=true)(I:n.kind=20)(h:SI c (5-b8 n.text) m l (fun n'=>ci n' n) head):Lv c m l n head:=
 ⟨hb,D,fun h'=>absurd I h',rN (by have:=tb n.text;omega) (oC h),fun h'=>absurd I h',fun h'=>absurd I h',fun _=>h⟩
theorem Lv.chaK(h:Lv c m l n head){k:Nat}(J:n.kind=20->5-b8 n.text<=k):SI c k m l (fun n'=>ci n' n) head:=by
 by_cases D:n.kind=20
 ·have M:=J D;rcases kL (5-b8 n.text) k with I|I
  ·exact oB (rN I (oC (h.cha D)))
  ·(have:5-b8 n.text=k:=by omega);rw[<-this];exact h.cha D
 ·exact oB (rN (gQ _) (fT (h.una D)))
theorem Lv.binK(h:Lv c m l n head){k:Nat}(I:n.kind=20->5-b8 n.text<k):I6 c k m l (fun n'=>ci n' n) head:=by
 by_cases D:n.kind=20
 ·exact rN (I D) (oC (h.cha D))
 ·exact rN (gQ _) (fT (h.una D))
theorem Lv.exp(h:Lv c m l n head):BB c m l (fun n'=>ci n' n) head:=rM h.bin
theorem tc(h:Lv c false l n false):t7 c m ((6,(⟨#[40]⟩:BA))::(l++[(6,(⟨#[41]⟩:BA))])) (fun n' _=>ci n' n) head:=Ik h.exp
theorem td(h:Lv c false l n false):SH c m ((6,(⟨#[40]⟩:BA))::(l++[(6,(⟨#[41]⟩:BA))])) (fun n'=>ci n' n) head:=rL (Q:=fun n'=>ci n' n) (tc h) ⟨show cD (6,(⟨#[40]⟩:BA)) ⟨#[45]⟩=false by decide,show cD (6,(⟨#[40]⟩:BA)) ⟨#[33]⟩=false by decide⟩ (by simp)
end
theorem wF{F:cm}{n:Nd}(h:aH F n=true):16<=n.kind/\n.kind<=25:=by
 unfold aH at h;split at h
 ·omega
 ·split at h
  ·omega
  ·split at h
   ·omega
   ·split at h
    ·omega
    ·split at h
     ·omega
     ·split at h
      ·omega
      ·split at h
       ·omega
       ·split at h
        ·omega
        ·split at h
         ·omega
         ·obtain⟨l,a,rfl,_⟩:=cg h;exact⟨by show(16:Int)<=25;omega,by show(25:Int)<=25;omega⟩
def wG(c:Cx)(d:Nat):Prop:=∀n deep head m,(aa d).expr n=true->Lv c m (aG ((ac d).expr n deep head)) n head
def Dm(c:Cx)(d:Nat):Prop:=∀n deep,(aa d).block n=true->∃lb,aG ((ac d).block n deep)=(6,(⟨#[123]⟩:BA))::lb/\PM c ((6,(⟨#[123]⟩:BA))::lb) n
section
variable {c:Cx} {d:Nat} (hE:wG c d)
theorem nQ(n:Nd)(deep:Nat)(head:Bool):aG (aN (ac d) true n deep head)=(6,(⟨#[40]⟩:BA))::(aG ((ac d).expr n deep false)++[(6,(⟨#[41]⟩:BA))]):=by unfold aN;rw[gG rfl,lF,aX];rfl
theorem pv(n:Nd)(deep:Nat)(head:Bool):aG (aN (ac d) false n deep head)=aG ((ac d).expr n deep head):=by unfold aN;rw[gB (by decide)]
include hE
theorem Iq{n:Nd}(yes:Bool)(deep:Nat)(head:Bool)(D:(aa d).expr n=true):(∃t q,aG (aN (ac d) yes n deep head)=t::q/\dq t=true)/\yx (aG (aN (ac d) yes n deep head)):=by
 cases yes with
 |true=>rw[nQ];exact⟨⟨_,_,rfl,by decide⟩,yx.sign (by decide)⟩
 |false=>rw[pv];exact⟨(hE n deep head false D).beg,(hE n deep head false D).sec⟩
theorem sC:∀{n:Nd},(aa d).expr n=true->16<=n.kind/\n.kind<=25:=by
 have _:=hE;intro n h;cases d with
 |zero=>cases h
 |succ d=>exact wF (F:=aa d) h
theorem te{n:Nd}(deep:Nat)(head m:Bool)(J:(aa d).expr n=true):t7 c m (aG (aN (ac d) (da n) n deep head)) (fun n' _=>ci n' n) head/\(∃t q,aG (aN (ac d) (da n) n deep head)=t::q/\dq t=true/\(cD t ⟨#[45]⟩=false/\cD t ⟨#[33]⟩=false))/\yx (aG (aN (ac d) (da n) n deep head)):=by
 cases D:da n with
 |true=>rw[nQ];exact⟨tc (hE n deep false false J),⟨_,_,rfl,by decide,by decide,by decide⟩,yx.sign (by decide)⟩
 |false=>rw[pv];unfold da at D;rw[kZ,gK,gK]at D;have I:=hE n deep head m J;exact⟨I.pri D.2 D.1,I.begP D.2 D.1,I.sec⟩
theorem FV{en:ByteArray}(I:en=(⟨#[41]⟩:BA)\/en=(⟨#[125]⟩:BA))(deep:Nat){l:List Nd}(O:l.all (aa d).expr=true):Il c en (l.map fun x=>(aG (dE (ac d) deep x),x)):=by
 intro x hx;obtain⟨y,D,rfl⟩:=List.mem_map.1 hx;have D:=List.all_eq_true.1 O y D;have U:=sC hE D;(have e:dE (ac d) deep y=(ac d).expr y deep false:=by unfold dE;rw[gB (by omega)]);have M:=hE y deep false false D;obtain⟨t,q,N,J⟩:=M.beg;simp only[e];refine⟨?_,by rw[N];simp,M.exp⟩;rw[N];rcases I with rfl|rfl
 ·exact bU J _ (by decide) (by decide) (by decide) (by decide) (by decide)
 ·exact bU J _ (by decide) (by decide) (by decide) (by decide) (by decide)
theorem tf(n:Nd)(deep:Nat):aG (du (ac d) n deep)=eh dI (((n.kids.drop 1).map fun x=>(aG (dE (ac d) deep x),x)).map (·.1)):=by have _:=hE;unfold du;rw[pN,sv,qV];rfl
omit hE in
theorem pP{x:ByteArray}(h:eC x=true):∀P:ByteArray->Prop,(∀y∈dv,P y)->P x:=by intro P hP;rw[rK,qK]at h;obtain⟨y,D,e⟩:=h;rw[gD]at e;rw[e];exact hP y D
omit hE in
theorem SM{x:ByteArray}(h:eC x=true)(head:Bool):B2 (5-b8 x+1) (6,x)=true/\(∀j,1<=j->j<=5-b8 x->B2 j (6,x)=false)/\t6 head (6,x)=false:=by refine pP h (fun x=>B2 (5-b8 x+1) (6,x)=true/\(∀j,1<=j->j<=5-b8 x->B2 j (6,x)=false)/\t6 head (6,x)=false) ?_;(have key:(dv.all fun x=>B2 (5-b8 x+1) (6,x)&&((List.range 6).all (fun j =>!(decide (1<=j)&&decide (j<=5-b8 x)) || !(B2 j (6,x)))&&(!(t6 true (6,x)) && !(t6 false (6,x)))))=true:=by decide +kernel);intro y hy;have D:=List.all_eq_true.1 key y hy;simp only[gA,qD]at D;refine⟨D.1,fun j a b=>?_,by cases head<;>simp[D.2.2]⟩;have I:=List.all_eq_true.1 D.2.1 j (List.mem_range.2 (by omega));simpa[a,b]using I
theorem MX(deep:Nat){l:List Nd}(O:l.all (dJ (aa d))=true):EG c ci (l.map fun x=>(aG (dE (ac d) deep x),x)):=by
 intro x hx;obtain⟨y,D,rfl⟩:=List.mem_map.1 hx;have D:=List.all_eq_true.1 O y D;unfold dJ at D;rw[gI,gA,gD]at D;rcases D with D|⟨M,D⟩
 ·have U:=sC hE D;(have e:dE (ac d) deep y=(ac d).expr y deep false:=by unfold dE;rw[gB (by omega)]);have N:=hE y deep false true D;obtain⟨t,q,I,J⟩:=N.beg;simp only[e];refine⟨?_,by rw[I];simp,N.exp.br⟩;rw[I];exact bU J _ (by decide) (by decide) (by decide) (by decide) (by decide)
 ·have U:=typ_kind D;(have e:dE (ac d) deep y=ag d y:=by unfold dE;rw[gG (by omega)];cases d<;>rfl);obtain⟨t,q,I,J⟩:=f9 D;simp only[e];refine⟨?_,by rw[I];simp,((SK d).2 y D).mono fun n h=>h.2 M⟩;rw[I];exact bU J _ (by decide) (by decide) (by decide) (by decide) (by decide)
omit hE in
theorem dM(n:Nd):(ac d).typ n=ag d n:=by cases d<;>rfl
omit hE in
theorem PN{n:Nd}(h:(aa d).typ n=true):yx (aG (ag d n)):=by
 have D:=typ_kind h;cases d with
 |zero=>cases h
 | succ d=>
  unfold ag;rcases D with D|D|D
  ·rw[gB (by rw[D];decide),gB (by rw[D];decide),gB (by rw[D];decide),iP];intro t q e;injection e with e1 e;subst e1;(have I:aB n.text=true:=by have h:dH (aa d) n=true:=h;unfold dH at h;rw[gG D,gA]at h;exact h.1);refine⟨FU I,fun _=>?_⟩;unfold nh at e;split at e
   ·exact .inl e.symm
   ·exact .inr ⟨_,_,e.symm,by show EK ⟨#[91]⟩=true;decide +kernel⟩
  ·rw[gG D];exact yx.sign (by decide)
  ·rw[gB (by rw[D];decide),gG D];exact yx.sign (by decide)
theorem MY (hB:Dm c d):wG c (d+1):=by
 intro n deep head m M;have M:aH (aa d) n=true:=M;show Lv c m (aG (mQ (ac d) n deep head)) n head;unfold aH at M;unfold mQ;split at M
 ·rename_i J;rw[gG J];obtain⟨x,l,a,rfl,O,h0⟩:=aJ (by decide) M;cases l with
  |cons y l=>cases h0
  |nil=>(have e:aG [.tok 4 (bytes x)]=[((4:Int),x)]:=by show[((4:Int),dx (bytes x))]=_;rw[cH]);rw[show(Nd.mk 16 x [] a).text=x from rfl,e];exact Lv.of_pri (yx.sign (by show(4:Int)≠1;decide) (SL O)) ⟨_,_,rfl,rfl,rfl,rfl⟩ (by show ¬ (16:Int)=20;decide) ((PK a).mono fun n b h=>h.1)
 ·split at M
  ·rename_i I J;rw[gB I,gG J];obtain⟨x,l,a,rfl,O,h0⟩:=aJ (by decide) M;cases l with
   |cons y l=>cases h0
   |nil=>unfold ed at O;rw[gD]at O;exact Lv.of_pri (yx.sign (by show(5:Int)≠1;decide) rfl) ⟨_,_,rfl,rfl,rfl,rfl⟩ (by show ¬ (17:Int)=20;decide) ((MM (EJ O) a).mono fun n b h=>h.1)
  ·split at M
   ·rename_i I hk1 J;rw[gB I,gB hk1,gG J];obtain⟨x,l,a,rfl,O,h0⟩:=aJ (by decide) M;cases l with
    |cons y l=>cases h0
    |nil=>rw[show(Nd.mk 18 x [] a).text=x from rfl,R3];exact Lv.of_pri (fun t q e=>by injection e with N e;subst N;exact⟨FU O,fun _=>.inl e.symm⟩) ⟨_,_,rfl,rfl,rfl,rfl⟩ (by show ¬ (18:Int)=20;decide) ((sB x a).mono fun n b h=>h.1)
   ·split at M
    ·rename_i I hk1 hk2 J;rw[gB I,gB hk1,gB hk2,gG J];obtain⟨x,l,a,rfl,O,h0⟩:=aJ (by decide) M;obtain⟨y,rfl,hy⟩:=dW h0;unfold fw at O;rw[gI,gD,gD]at O;rw[show(Nd.mk 19 x [y] a).text=x from rfl,show aW (Nd.mk 19 x [y] a) 0=y from rfl,ta];refine Lv.of_una (yx.sign (by show(6:Int)≠1;decide) (by rcases O with rfl|rfl<;>decide +kernel)) ⟨_,_,rfl,by rcases O with rfl|rfl<;>decide⟩ rfl (MI a O ?_);cases hr:eT (Nd.mk 19 x [y] a) y with
     |true=>rw[nQ];exact td (hE y deep false false hy)
     |false=>rw[pv];refine(hE y deep head false hy).una fun gb=>?_;unfold eT at hr;rw[jK gb]at hr;cases hr
    ·split at M
     ·rename_i I hk1 hk2 hk3 J;rw[gB I,gB hk1,gB hk2,gB hk3,gG J];obtain⟨x,l,a,rfl,O,h0⟩:=aJ (by decide) M;obtain⟨y,z,rfl,hy,hz⟩:=iO h0;obtain⟨o1,o2,o3⟩:=SM O head;(have e:aG (aN (ac d) (eU (Nd.mk 20 x [y,z] a) y) y deep head++(aY::ow x::aY::aN (ac d) (eG (Nd.mk 20 x [y,z] a) z) z deep head))=aG (aN (ac d) (eU (Nd.mk 20 x [y,z] a) y) y deep head)++((6,x)::aG (aN (ac d) (eG (Nd.mk 20 x [y,z] a) z) z deep head)):=by rw[aX];show _++aG (ow x::aY::_)=_;rw[ta];rfl);show Lv c m (aG (aN (ac d) (eU (Nd.mk 20 x [y,z] a) y) y deep head++(aY::ow x::aY::aN (ac d) (eG (Nd.mk 20 x [y,z] a) z) z deep head))) _ head;rw[e];have gp:=tb x;have gd:=Iq hE (eU (Nd.mk 20 x [y,z] a) y) deep head hy;have gj:EK x=true:=pP O (fun x=>EK x=true) (by decide +kernel);refine Lv.of_cha (gd.2.app (by obtain⟨t,q,N,_⟩:=gd.1;rw[N];simp) gj _) ?_ rfl (MJ a o1 o2 o3 ?_ ?_)
      ·obtain⟨t,q,N,ht⟩:=gd.1;rw[N];exact⟨t,_,rfl,ht⟩
      ·cases hr:eU (Nd.mk 20 x [y,z] a) y with
       |true=>rw[nQ];exact oB (rN (gQ _) (fT (td (hE y deep false false hy))))
       |false=>rw[pv];refine(hE y deep head m hy).chaK fun gb=>?_;unfold eU at hr;rw[jK gb,jP,gK]at hr;have hr:¬ b8 y.text<b8 x:=hr;show 5-b8 y.text<=5-b8 x;omega
      ·cases hr:eG (Nd.mk 20 x [y,z] a) z with
       |true=>rw[nQ];exact rN (gQ _) (fT (td (hE z deep false false hz)))
       |false=>rw[pv];refine(hE z deep head false hz).binK fun gb=>?_;unfold eG at hr;rw[jK gb,jP,gK]at hr;have hr:¬ b8 z.text<=b8 x:=hr;have:=tb z.text;show 5-b8 z.text<5-b8 x;omega
     ·split at M
      ·rename_i I hk1 hk2 hk3 hk4 J;rw[gB I,gB hk1,gB hk2,gB hk3,gB hk4,gG J];obtain⟨k,t,l,a⟩:=n;obtain rfl:k=21:=J;rw[gA,gA,gD,gD]at M;obtain⟨ht,hl,D⟩:=M;obtain rfl:t=(⟨#[]⟩:BA):=ht;cases l with
       |nil=>exact absurd hl (by show ¬ 0<0;omega)
       |cons f args=>have D:(f::args).all (aa d).expr=true:=D;rw[jX,gA]at D;obtain⟨hp,⟨t,q,N,hb,U⟩,ga⟩:=te hE deep head m D.1;(have e:aG (aN (ac d) (da f) f deep head++(cK 40::(du (ac d) (.mk 21 ⟨#[]⟩ (f::args) a) deep++[cK 41])))=aG (aN (ac d) (da f) f deep head)++((6,(⟨#[40]⟩:BA))::(eh dI ((args.map fun x=>(aG (dE (ac d) deep x),x)).map (·.1))++[(6,(⟨#[41]⟩:BA))])):=by rw[aX,lF,aX,tf hE];rfl);show Lv c m (aG (aN (ac d) (da f) f deep head++(cK 40::(du (ac d) (.mk 21 ⟨#[]⟩ (f::args) a) deep++[cK 41])))) _ head;rw[e];have gh:=MP a hp (FV hE (.inl rfl) deep D.2);rw[mY]at gh;refine Lv.of_pri (ga.app (by rw[N];simp) (by decide +kernel) _) ?_ (by show ¬ (21:Int)=20;decide) gh;rw[N];exact⟨t,_,rfl,hb,U⟩
      ·split at M
       ·rename_i I hk1 hk2 hk3 hk4 hk5 J;rw[gB I,gB hk1,gB hk2,gB hk3,gB hk4,gB hk5,gG J];obtain⟨k,t,l,a⟩:=n;obtain rfl:k=22:=J;rw[gA,gA,gA,gD,gD]at M;obtain⟨ht,hl,hf,D⟩:=M;obtain rfl:t=(⟨#[]⟩:BA):=ht;cases l with
        |nil=>exact absurd hl (by show ¬ 1<0;omega)
        |cons f args=>
         have hf:(aa d).expr f=true:=hf;have D:args.all (dJ (aa d))=true:=D;have hl:1<(f::args).length:=hl;obtain⟨hp,⟨t,q,N,hb,U⟩,ga⟩:=te hE deep head m hf;(have e:aG (aN (ac d) (da f) f deep head++(cK 91::(du (ac d) (.mk 22 ⟨#[]⟩ (f::args) a) deep++[cK 93])))=aG (aN (ac d) (da f) f deep head)++((6,(⟨#[91]⟩:BA))::(eh dI ((args.map fun x=>(aG (dE (ac d) deep x),x)).map (·.1))++[(6,(⟨#[93]⟩:BA))])):=by rw[aX,lF,aX,tf hE];rfl);show Lv c m (aG (aN (ac d) (da f) f deep head++(cK 91::(du (ac d) (.mk 22 ⟨#[]⟩ (f::args) a) deep++[cK 93])))) _ head;rw[e];refine Lv.of_pri (ga.app (by rw[N];simp) (by decide +kernel) _) ?_ (by show ¬ (22:Int)=20;decide) ?_
         ·rw[N];exact⟨t,_,rfl,hb,U⟩
         ·refine Ar (Q:=ci) (fun h=>?_) hp (MX hE deep D) (fun n b l p h1 h2=>by rw[mY]at h2;exact ci.mk (bi.cons h1 h2.eqv) _ _);have:=jM List.length h;rw[jR]at this;rw[gO]at hl;exact absurd hl (by rw[this];decide)
       ·split at M
        ·rename_i I hk1 hk2 hk3 hk4 hk5 hk6 J;rw[gB I,gB hk1,gB hk2,gB hk3,gB hk4,gB hk5,gB hk6,gG J];obtain⟨x,l,a,rfl,O,h0⟩:=aJ (by decide) M;obtain⟨f,rfl,hf⟩:=dW h0;obtain⟨hp,⟨t,q,N,hb,U⟩,ga⟩:=te hE deep head m hf;(have e:aG (aN (ac d) (da f) f deep head++[cK 46,iq x])=aG (aN (ac d) (da f) f deep head)++[(6,(⟨#[46]⟩:BA)),(1,x)]:=by rw[aX,lF,R3];rfl);show Lv c m (aG (aN (ac d) (da f) f deep head++[cK 46,iq x])) _ head;rw[e];refine Lv.of_pri (ga.app (by rw[N];simp) (by decide +kernel) _) ?_ (by show ¬ (23:Int)=20;decide) (In a hp);rw[N];exact⟨t,_,rfl,hb,U⟩
        ·split at M
         ·rename_i I hk1 hk2 hk3 hk4 hk5 hk6 hk7 J;rw[gB I,gB hk1,gB hk2,gB hk3,gB hk4,gB hk5,gB hk6,gB hk7,gG J];obtain⟨k,t,l,a⟩:=n;obtain rfl:k=24:=J;rw[gA,gA,gA,gA,gD,gD,gD]at M;obtain⟨ht,hl,ge,hT,D⟩:=M;obtain rfl:t=(⟨#[]⟩:BA):=ht;cases l with
          |nil=>exact absurd hl (by show ¬ 0<0;omega)
          | cons T args=>
           have hT:(aa d).typ T=true:=hT;have ge:T.kind≠12:=ge;have D:args.all (aa d).expr=true:=D;(have e:∀deep,aG (oy (ac d) (.mk 24 ⟨#[]⟩ (T::args) a) deep)=aG (ag d T)++((6,(⟨#[123]⟩:BA))::(eh dI ((args.map fun x=>(aG (dE (ac d) deep x),x)).map (·.1))++[(6,(⟨#[125]⟩:BA))])):=by intro deep;unfold oy;rw[dM,aX,lF,aX,tf hE];rfl);obtain⟨t,q,N,hb⟩:=f9 hT;have U:cD t ⟨#[45]⟩=false/\cD t ⟨#[33]⟩=false:=by
            obtain⟨t',q',e2,hc⟩:=pO hT;rw[N]at e2;injection e2 with e2 _;subst e2;rcases hc with hc|rfl|⟨rfl,-⟩
            ·exact⟨mG (.inl hc) _,mG (.inl hc) _⟩
            ·exact⟨by decide,by decide⟩
            ·exact⟨by decide,by decide⟩
           have hA:=FV hE (.inr rfl) deep D;have gi:∀m head,(T.kind=10->head=false)->Lv c m (aG (oy (ac d) (.mk 24 ⟨#[]⟩ (T::args) a) deep)) (.mk 24 ⟨#[]⟩ (T::args) a) head:=by
            intro m head hh;rw[e];refine Lv.of_pri ((PN hT).app (by rw[N];simp) (by decide +kernel) _) (by rw[N];exact⟨t,_,rfl,hb,U⟩) (by show ¬ (24:Int)=20;decide) ?_;rcases typ_kind hT with J|J|J
            ·have:=MT (m:=m) hT J a hA;rw[mY]at this;rw[hh J];exact this
            ·have:=MU (m:=m) (head:=head) hT J a hA
             rwa [mY]at this
            ·exact absurd J ge
           show Lv c m (aG (if head=true/\T.kind=10 then _ else _)) _ head;split
           ·rw[lF,aX];exact Lv.of_pri (yx.sign (by show(6:Int)≠1;decide)) ⟨_,_,rfl,by decide,by decide,by decide⟩ (by show ¬ (24:Int)=20;decide) (tc (gi false false fun _=>rfl))
           ·rename_i hc;exact gi m head fun gn=>by
             cases head with
             |false=>rfl
             |true=>exact absurd ⟨rfl,gn⟩ hc
         ·rename_i I hk1 hk2 hk3 hk4 hk5 hk6 hk7 hk8;rw[gB I,gB hk1,gB hk2,gB hk3,gB hk4,gB hk5,gB hk6,gB hk7,gB hk8];obtain⟨l,a,rfl,h0⟩:=cg M;obtain⟨sg,b,rfl,gk,hb⟩:=iO h0;obtain⟨ps,a1,res,a2,rfl,gl,gg⟩:=rE gk;obtain⟨lb,N,gm⟩:=hB b deep hb;(have e:aG (f8 ⟨#[102,117,110,99]⟩::(eg (ac d).typ (.mk 12 ⟨#[]⟩ [.mk 6 ⟨#[]⟩ ps a1,res] a2)++(aY::(ac d).block b deep)))=(2,(⟨#[102,117,110,99]⟩:BA))::(aG (eg (ag d) (.mk 12 ⟨#[]⟩ [.mk 6 ⟨#[]⟩ ps a1,res] a2))++((6,(⟨#[123]⟩:BA))::lb)):=by rw[show(ac d).typ=ag d from funext dM];show(2,dx (bytes ⟨#[102,117,110,99]⟩))::aG (eg (ag d) (.mk 12 ⟨#[]⟩ [.mk 6 ⟨#[]⟩ ps a1,res] a2)++(aY::(ac d).block b deep))=_;rw[aX];show _::(_++aG ((ac d).block b deep))=_;rw[N,cH]);show Lv c m (aG (f8 ⟨#[102,117,110,99]⟩::(eg (ac d).typ (.mk 12 ⟨#[]⟩ [.mk 6 ⟨#[]⟩ ps a1,res] a2)++(aY::(ac d).block b deep)))) _ head;rw[e];exact Lv.of_pri (yx.sign (by decide)) ⟨_,_,rfl,by decide,by decide,by decide⟩ (by show ¬ (25:Int)=20;decide) (MV a gl gg gm)
end
end
end Go.Proofs.YteialcjaiocjdaaGreatDoor
