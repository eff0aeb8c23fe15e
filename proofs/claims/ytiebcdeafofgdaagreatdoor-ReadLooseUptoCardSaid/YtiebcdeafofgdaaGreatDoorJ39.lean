/-
  Parts of the proof: Ppi. By an AI agent.
-/
import Derived.Test.YtiebcdeafofgdaaGreatDoorJ38
import Derived.Test.YtiebcdeafofgdaaGreatDoorJ36
namespace Go.Proofs.YtiebcdeafofgdaaGreatDoor
section
def Be(u:ByteArray):Bool :=!decide (u.data.toList.head? = some 44) && !decide (u.data.toList.head? = some 58)
def ME(t:TK):Bool:=t.1==5 || !decide (t.2=(⟨#[114,97,110,103,101]⟩:BA))
def tK(l:List TK):Prop:=∀t q,l=t::q->ME t=true/\(t.1=1->q=[]\/∃u q',q=u::q'/\Be u.2=true)
theorem Fm{x:ByteArray}(h:aE x=true):ME (1,x)=true:=by unfold ME;rw[gM (by rintro rfl;revert h;decide +kernel)];rfl
theorem Sk{x:ByteArray}(h:dt x=true):ME (4,x)=true:=by unfold ME;rw[gM (by rintro rfl;revert h;decide +kernel)];rfl
theorem tK.app{l:List TK}(h:tK l)(I:l≠[]){u:TK}(D:Be u.2=true)(q:List TK):tK (l++(u::q)):=by
 cases l with
 |nil=>exact absurd rfl I
 |cons t l=>
  intro t' q' e;have e:t::(l++(u::q))=t'::q':=e;injection e with e1 e2;subst e1 e2;refine⟨(h t l rfl).1,fun M=>?_⟩;rcases(h t l rfl).2 M with rfl|⟨v,l',rfl,J⟩
  ·exact .inr ⟨u,q,rfl,D⟩
  ·exact .inr ⟨v,_,rfl,J⟩
theorem tK.sign{t:TK}{q:List TK}(h:t.1≠1)(D:ME t=true:=by decide +kernel):tK (t::q):=by intro t' q' e;injection e with e1 _;subst e1;exact⟨D,fun I=>absurd I h⟩
structure Lv(c:Cx)(m:Bool)(l:List TK)(n:Nd)(head:Bool):Prop where
 beg:∃t q,l=t::q/\eD t=true
 sec:tK l
 begP:n.kind≠20->n.kind≠19->∃t q,l=t::q/\eD t=true/\(cW t ⟨#[45]⟩=false/\cW t ⟨#[33]⟩=false)
 bin:ID c 5 m l (fun n'=>co n' n) head
 una:n.kind≠20->Sg c m l (fun n'=>co n' n) head
 pri:n.kind≠20->n.kind≠19->sX c m l (fun n' _=>co n' n) head
 cha:n.kind=20->Sh c (5-bR n.text) m l (fun n'=>co n' n) head
theorem sY(x:ByteArray):1<=bR x/\bR x<=5:=by
 unfold bR;split
 ·exact⟨gA _,by omega⟩
 ·split
  ·exact⟨by omega,by omega⟩
  ·split
   ·exact⟨by omega,by omega⟩
   ·split
    ·exact⟨by omega,by omega⟩
    ·exact⟨by omega,by omega⟩
section
variable {c:Cx} {m:Bool} {head:Bool} {l:List TK} {n:Nd}
theorem Lv.of_pri(D:tK l)(hb:∃t q,l=t::q/\eD t=true/\(cW t ⟨#[45]⟩=false/\cW t ⟨#[33]⟩=false))(N:n.kind≠20)(h:sX c m l (fun n' _=>co n' n) head):Lv c m l n head:=by obtain⟨t,q,rfl,M,J⟩:=hb;have I:=ru (Q:=fun n'=>co n' n) h J (by simp);exact⟨⟨t,q,rfl,M⟩,D,fun _ _=>⟨t,q,rfl,M,J⟩,Qz0 (eu I) 5,fun _=>I,fun _ _=>h,fun h'=>absurd h' N⟩
theorem Lv.of_una(D:tK l)(hb:∃t q,l=t::q/\eD t=true)(I:n.kind=19)(h:Sg c m l (fun n'=>co n' n) head):Lv c m l n head:=
 ⟨hb,D,fun _ h'=>absurd I h',Qz0 (eu h) 5,fun _=>h,fun _ h'=>absurd I h',fun h'=>by rw[I]at h';exact absurd h' (by decide)⟩
theorem og{k j:Nat}(D:k<=j)(h:ID c k m l (fun n'=>co n' n) head):ID c j m l (fun n'=>co n' n) head:=by
 have:=Qz0 h (j-k)
 rwa [show k+(j-k)=j by omega]at this
theorem Lv.of_cha(D:tK l)(hb:∃t q,l=t::q/\eD t=true)(I:n.kind=20)(h:Sh c (5-bR n.text) m l (fun n'=>co n' n) head):Lv c m l n head:=
 ⟨hb,D,fun h'=>absurd I h',og (by have:=sY n.text;omega) (od h),fun h'=>absurd I h',fun h'=>absurd I h',fun _=>h⟩
theorem Lv.chaK(h:Lv c m l n head){k:Nat}(J:n.kind=20->5-bR n.text<=k):Sh c k m l (fun n'=>co n' n) head:=by
 by_cases D:n.kind=20
 ·have M:=J D;rcases kN (5-bR n.text) k with I|I
  ·exact ms (og I (od (h.cha D)))
  ·(have:5-bR n.text=k:=by omega);rw[<-this];exact h.cha D
 ·exact ms (og (gP _) (eu (h.una D)))
theorem Lv.binK(h:Lv c m l n head){k:Nat}(I:n.kind=20->5-bR n.text<k):ID c k m l (fun n'=>co n' n) head:=by
 by_cases D:n.kind=20
 ·exact og (I D) (od (h.cha D))
 ·exact og (gP _) (eu (h.una D))
theorem Lv.exp(h:Lv c m l n head):Ba c m l (fun n'=>co n' n) head:=rv h.bin
theorem nE(h:Lv c false l n false):sX c m ((6,(⟨#[40]⟩:BA))::(l++[(6,(⟨#[41]⟩:BA))])) (fun n' _=>co n' n) head:=GY h.exp
theorem mf(h:Lv c false l n false):Sg c m ((6,(⟨#[40]⟩:BA))::(l++[(6,(⟨#[41]⟩:BA))])) (fun n'=>co n' n) head:=ru (Q:=fun n'=>co n' n) (nE h) ⟨show cW (6,(⟨#[40]⟩:BA)) ⟨#[45]⟩=false by decide,show cW (6,(⟨#[40]⟩:BA)) ⟨#[33]⟩=false by decide⟩ (by simp)
end
theorem wq{F:cQ}{n:Nd}(h:aA F n=true):16<=n.kind/\n.kind<=25:=by
 unfold aA at h;split at h
 ·omega
 ·split at h
  ·omega
  ·split at h
   ·omega
   ·split at h
    ·omega
    ·split at h
     ·omega
     ·split at h
      ·omega
      ·split at h
       ·omega
       ·split at h
        ·omega
        ·split at h
         ·omega
         ·obtain⟨l,a,rfl,_⟩:=bV h;exact⟨by show(16:Int)<=25;omega,by show(25:Int)<=25;omega⟩
def tQ(c:Cx)(d:Nat):Prop:=∀n deep head m,(aa d).expr n=true->Lv c m (aH ((ao d).expr n deep head)) n head
def CV(c:Cx)(d:Nat):Prop:=∀n deep,(aa d).block n=true->∃lb,aH ((ao d).block n deep)=(6,(⟨#[123]⟩:BA))::lb/\Pq c ((6,(⟨#[123]⟩:BA))::lb) n
section
variable {c:Cx} {d:Nat} (hE:tQ c d)
theorem nF(n:Nd)(deep:Nat)(head:Bool):aH (aK (ao d) true n deep head)=(6,(⟨#[40]⟩:BA))::(aH ((ao d).expr n deep false)++[(6,(⟨#[41]⟩:BA))]):=by unfold aK;rw[gF rfl,it,aR];rfl
theorem pc(n:Nd)(deep:Nat)(head:Bool):aH (aK (ao d) false n deep head)=aH ((ao d).expr n deep head):=by unfold aK;rw[d5 (by decide)]
include hE
theorem G1{n:Nd}(yes:Bool)(deep:Nat)(head:Bool)(D:(aa d).expr n=true):(∃t q,aH (aK (ao d) yes n deep head)=t::q/\eD t=true)/\tK (aH (aK (ao d) yes n deep head)):=by
 cases yes with
 |true=>rw[nF];exact⟨⟨_,_,rfl,by decide⟩,tK.sign (by decide)⟩
 |false=>rw[pc];exact⟨(hE n deep head false D).beg,(hE n deep head false D).sec⟩
theorem sr:∀{n:Nd},(aa d).expr n=true->16<=n.kind/\n.kind<=25:=by
 have _:=hE;intro n h;cases d with
 |zero=>cases h
 |succ d=>exact wq (F:=aa d) h
theorem sZ{n:Nd}(deep:Nat)(head m:Bool)(J:(aa d).expr n=true):sX c m (aH (aK (ao d) (da n) n deep head)) (fun n' _=>co n' n) head/\(∃t q,aH (aK (ao d) (da n) n deep head)=t::q/\eD t=true/\(cW t ⟨#[45]⟩=false/\cW t ⟨#[33]⟩=false))/\tK (aH (aK (ao d) (da n) n deep head)):=by
 cases D:da n with
 |true=>rw[nF];exact⟨nE (hE n deep false false J),⟨_,_,rfl,by decide,by decide,by decide⟩,tK.sign (by decide)⟩
 |false=>rw[pc];unfold da at D;rw[qe,gJ,gJ]at D;have I:=hE n deep head m J;exact⟨I.pri D.2 D.1,I.begP D.2 D.1,I.sec⟩
theorem Fo{en:ByteArray}(I:en=(⟨#[41]⟩:BA)\/en=(⟨#[125]⟩:BA))(deep:Nat){l:List Nd}(O:l.all (aa d).expr=true):Bc c en (l.map fun x=>(aH (dy (ao d) deep x),x)):=by
 intro x hx;obtain⟨y,D,rfl⟩:=List.mem_map.1 hx;have D:=List.all_eq_true.1 O y D;have U:=sr hE D;(have e:dy (ao d) deep y=(ao d).expr y deep false:=by unfold dy;rw[d5 (by omega)]);have M:=hE y deep false false D;obtain⟨t,q,N,J⟩:=M.beg;simp only[e];refine⟨?_,by rw[N];simp,M.exp⟩;rw[N];rcases I with rfl|rfl
 ·exact cr J _ (by decide) (by decide) (by decide) (by decide) (by decide)
 ·exact cr J _ (by decide) (by decide) (by decide) (by decide) (by decide)
theorem ta(n:Nd)(deep:Nat):aH (dq (ao d) n deep)=fg cX (((n.kids.drop 1).map fun x=>(aH (dy (ao d) deep x),x)).map (·.1)):=by have _:=hE;unfold dq;rw[sh,si,vq];rfl
omit hE in
theorem fO{x:ByteArray}(h:cU x=true):∀P:ByteArray->Prop,(∀y∈dr,P y)->P x:=by intro P hP;rw[rt,qV]at h;obtain⟨y,D,e⟩:=h;rw[gE]at e;rw[e];exact hP y D
omit hE in
theorem MF{x:ByteArray}(h:cU x=true)(head:Bool):BD (5-bR x+1) (6,x)=true/\(∀j,1<=j->j<=5-bR x->BD j (6,x)=false)/\tP head (6,x)=false:=by refine fO h (fun x=>BD (5-bR x+1) (6,x)=true/\(∀j,1<=j->j<=5-bR x->BD j (6,x)=false)/\tP head (6,x)=false) ?_;(have key:(dr.all fun x=>BD (5-bR x+1) (6,x)&&((List.range 6).all (fun j =>!(decide (1<=j)&&decide (j<=5-bR x)) || !(BD j (6,x)))&&(!(tP true (6,x)) && !(tP false (6,x)))))=true:=by decide +kernel);intro y hy;have D:=List.all_eq_true.1 key y hy;simp only[gB,qv]at D;refine⟨D.1,fun j a b=>?_,by cases head<;>simp[D.2.2]⟩;have I:=List.all_eq_true.1 D.2.1 j (List.mem_range.2 (by omega));simpa[a,b]using I
theorem MG(deep:Nat){l:List Nd}(O:l.all (dB (aa d))=true):Eo c co (l.map fun x=>(aH (dy (ao d) deep x),x)):=by
 intro x hx;obtain⟨y,D,rfl⟩:=List.mem_map.1 hx;have D:=List.all_eq_true.1 O y D;unfold dB at D;rw[gI,gB,gE]at D;rcases D with D|⟨M,D⟩
 ·have U:=sr hE D;(have e:dy (ao d) deep y=(ao d).expr y deep false:=by unfold dy;rw[d5 (by omega)]);have N:=hE y deep false true D;obtain⟨t,q,I,J⟩:=N.beg;simp only[e];refine⟨?_,by rw[I];simp,N.exp.br⟩;rw[I];exact cr J _ (by decide) (by decide) (by decide) (by decide) (by decide)
 ·have U:=typ_kind D;(have e:dy (ao d) deep y=am d y:=by unfold dy;rw[gF (by omega)];cases d<;>rfl);obtain⟨t,q,I,J⟩:=lC D;simp only[e];refine⟨?_,by rw[I];simp,((Sj d).2 y D).mono fun n h=>h.2 M⟩;rw[I];exact cr J _ (by decide) (by decide) (by decide) (by decide) (by decide)
omit hE in
theorem l7(n:Nd):(ao d).typ n=am d n:=by cases d<;>rfl
omit hE in
theorem Pr{n:Nd}(h:(aa d).typ n=true):tK (aH (am d n)):=by
 have D:=typ_kind h;cases d with
 |zero=>cases h
 | succ d=>
  unfold am;rcases D with D|D|D
  ·rw[d5 (by rw[D];decide),d5 (by rw[D];decide),d5 (by rw[D];decide),ob];intro t q e;injection e with e1 e;subst e1;(have I:aE n.text=true:=by have h:dA (aa d) n=true:=h;unfold dA at h;rw[gF D,gB]at h;exact h.1);refine⟨Fm I,fun _=>?_⟩;unfold nY at e;split at e
   ·exact .inl e.symm
   ·exact .inr ⟨_,_,e.symm,by show Be ⟨#[91]⟩=true;decide +kernel⟩
  ·rw[gF D];exact tK.sign (by decide)
  ·rw[d5 (by rw[D];decide),gF D];exact tK.sign (by decide)
theorem MH (hB:CV c d):tQ c (d+1):=by
 intro n deep head m M;have M:aA (aa d) n=true:=M;show Lv c m (aH (mA (ao d) n deep head)) n head;unfold aA at M;unfold mA;split at M
 ·rename_i J;rw[gF J];obtain⟨x,l,a,rfl,O,h0⟩:=aN (by decide) M;cases l with
  |cons y l=>cases h0
  |nil=>(have e:aH [.tok 4 (bytes x)]=[((4:Int),x)]:=by show[((4:Int),d7 (bytes x))]=_;rw[dZ]);rw[show(Nd.mk 16 x [] a).text=x from rfl,e];exact Lv.of_pri (tK.sign (by show(4:Int)≠1;decide) (Sk O)) ⟨_,_,rfl,rfl,rfl,rfl⟩ (by show ¬ (16:Int)=20;decide) ((Pp (yV O) a).mono fun n b h=>h.1)
 ·split at M
  ·rename_i I J;rw[d5 I,gF J];obtain⟨x,l,a,rfl,O,h0⟩:=aN (by decide) M;cases l with
   |cons y l=>cases h0
   |nil=>unfold dX at O;rw[gE]at O;exact Lv.of_pri (tK.sign (by show(5:Int)≠1;decide) rfl) ⟨_,_,rfl,rfl,rfl,rfl⟩ (by show ¬ (17:Int)=20;decide) ((Mu (Es O) a).mono fun n b h=>h.1)
  ·split at M
   ·rename_i I hk1 J;rw[d5 I,d5 hk1,gF J];obtain⟨x,l,a,rfl,O,h0⟩:=aN (by decide) M;cases l with
    |cons y l=>cases h0
    |nil=>rw[show(Nd.mk 18 x [] a).text=x from rfl,Mp];exact Lv.of_pri (fun t q e=>by injection e with N e;subst N;exact⟨Fm O,fun _=>.inl e.symm⟩) ⟨_,_,rfl,rfl,rfl,rfl⟩ (by show ¬ (18:Int)=20;decide) ((sn x a).mono fun n b h=>h.1)
   ·split at M
    ·rename_i I hk1 hk2 J;rw[d5 I,d5 hk1,d5 hk2,gF J];obtain⟨x,l,a,rfl,O,h0⟩:=aN (by decide) M;obtain⟨y,rfl,hy⟩:=d8 h0;unfold dW at O;rw[gI,gE,gE]at O;rw[show(Nd.mk 19 x [y] a).text=x from rfl,show bc (Nd.mk 19 x [y] a) 0=y from rfl,o5];refine Lv.of_una (tK.sign (by show(6:Int)≠1;decide) (by rcases O with rfl|rfl<;>decide +kernel)) ⟨_,_,rfl,by rcases O with rfl|rfl<;>decide⟩ rfl (CP a O ?_);cases hr:eG (Nd.mk 19 x [y] a) y with
     |true=>rw[nF];exact mf (hE y deep false false hy)
     |false=>rw[pc];refine(hE y deep head false hy).una fun gb=>?_;unfold eG at hr;rw[jO gb]at hr;cases hr
    ·split at M
     ·rename_i I hk1 hk2 hk3 J;rw[d5 I,d5 hk1,d5 hk2,d5 hk3,gF J];obtain⟨x,l,a,rfl,O,h0⟩:=aN (by decide) M;obtain⟨y,z,rfl,hy,hz⟩:=ll h0;obtain⟨o1,o2,o3⟩:=MF O head;(have e:aH (aK (ao d) (eH (Nd.mk 20 x [y,z] a) y) y deep head++(bu::iV x::bu::aK (ao d) (ei (Nd.mk 20 x [y,z] a) z) z deep head))=aH (aK (ao d) (eH (Nd.mk 20 x [y,z] a) y) y deep head)++((6,x)::aH (aK (ao d) (ei (Nd.mk 20 x [y,z] a) z) z deep head)):=by rw[aR];show _++aH (iV x::bu::_)=_;rw[o5];rfl);show Lv c m (aH (aK (ao d) (eH (Nd.mk 20 x [y,z] a) y) y deep head++(bu::iV x::bu::aK (ao d) (ei (Nd.mk 20 x [y,z] a) z) z deep head))) _ head;rw[e];have gp:=sY x;have gd:=G1 hE (eH (Nd.mk 20 x [y,z] a) y) deep head hy;have gj:Be x=true:=fO O (fun x=>Be x=true) (by decide +kernel);refine Lv.of_cha (gd.2.app (by obtain⟨t,q,N,_⟩:=gd.1;rw[N];simp) gj _) ?_ rfl (CQ a o1 o2 o3 ?_ ?_)
      ·obtain⟨t,q,N,ht⟩:=gd.1;rw[N];exact⟨t,_,rfl,ht⟩
      ·cases hr:eH (Nd.mk 20 x [y,z] a) y with
       |true=>rw[nF];exact ms (og (gP _) (eu (mf (hE y deep false false hy))))
       |false=>rw[pc];refine(hE y deep head m hy).chaK fun gb=>?_;unfold eH at hr;rw[jO gb,kK,gJ]at hr;have hr:¬ bR y.text<bR x:=hr;show 5-bR y.text<=5-bR x;omega
      ·cases hr:ei (Nd.mk 20 x [y,z] a) z with
       |true=>rw[nF];exact og (gP _) (eu (mf (hE z deep false false hz)))
       |false=>rw[pc];refine(hE z deep head false hz).binK fun gb=>?_;unfold ei at hr;rw[jO gb,kK,gJ]at hr;have hr:¬ bR z.text<=bR x:=hr;have:=sY z.text;show 5-bR z.text<5-bR x;omega
     ·split at M
      ·rename_i I hk1 hk2 hk3 hk4 J;rw[d5 I,d5 hk1,d5 hk2,d5 hk3,d5 hk4,gF J];obtain⟨k,t,l,a⟩:=n;obtain rfl:k=21:=J;rw[gB,gB,gE,gE]at M;obtain⟨ht,hl,D⟩:=M;obtain rfl:t=(⟨#[]⟩:BA):=ht;cases l with
       |nil=>exact absurd hl (by show ¬ 0<0;omega)
       |cons f args=>have D:(f::args).all (aa d).expr=true:=D;rw[kz,gB]at D;obtain⟨hp,⟨t,q,N,hb,U⟩,ga⟩:=sZ hE deep head m D.1;(have e:aH (aK (ao d) (da f) f deep head++(bS 40::(dq (ao d) (.mk 21 ⟨#[]⟩ (f::args) a) deep++[bS 41])))=aH (aK (ao d) (da f) f deep head)++((6,(⟨#[40]⟩:BA))::(fg cX ((args.map fun x=>(aH (dy (ao d) deep x),x)).map (·.1))++[(6,(⟨#[41]⟩:BA))])):=by rw[aR,it,aR,ta hE];rfl);show Lv c m (aH (aK (ao d) (da f) f deep head++(bS 40::(dq (ao d) (.mk 21 ⟨#[]⟩ (f::args) a) deep++[bS 41])))) _ head;rw[e];have gh:=Mx a hp (Fo hE (.inl rfl) deep D.2);rw[mN]at gh;refine Lv.of_pri (ga.app (by rw[N];simp) (by decide +kernel) _) ?_ (by show ¬ (21:Int)=20;decide) gh;rw[N];exact⟨t,_,rfl,hb,U⟩
      ·split at M
       ·rename_i I hk1 hk2 hk3 hk4 hk5 J;rw[d5 I,d5 hk1,d5 hk2,d5 hk3,d5 hk4,d5 hk5,gF J];obtain⟨k,t,l,a⟩:=n;obtain rfl:k=22:=J;rw[gB,gB,gB,gE,gE]at M;obtain⟨ht,hl,hf,D⟩:=M;obtain rfl:t=(⟨#[]⟩:BA):=ht;cases l with
        |nil=>exact absurd hl (by show ¬ 1<0;omega)
        |cons f args=>
         have hf:(aa d).expr f=true:=hf;have D:args.all (dB (aa d))=true:=D;have hl:1<(f::args).length:=hl;obtain⟨hp,⟨t,q,N,hb,U⟩,ga⟩:=sZ hE deep head m hf;(have e:aH (aK (ao d) (da f) f deep head++(bS 91::(dq (ao d) (.mk 22 ⟨#[]⟩ (f::args) a) deep++[bS 93])))=aH (aK (ao d) (da f) f deep head)++((6,(⟨#[91]⟩:BA))::(fg cX ((args.map fun x=>(aH (dy (ao d) deep x),x)).map (·.1))++[(6,(⟨#[93]⟩:BA))])):=by rw[aR,it,aR,ta hE];rfl);show Lv c m (aH (aK (ao d) (da f) f deep head++(bS 91::(dq (ao d) (.mk 22 ⟨#[]⟩ (f::args) a) deep++[bS 93])))) _ head;rw[e];refine Lv.of_pri (ga.app (by rw[N];simp) (by decide +kernel) _) ?_ (by show ¬ (22:Int)=20;decide) ?_
         ·rw[N];exact⟨t,_,rfl,hb,U⟩
         ·refine yS (Q:=co) (fun h=>?_) hp (MG hE deep D) (fun n b l p h1 h2=>by rw[mN]at h2;exact co.mk (bF.cons h1 h2.eqv) _ _);have:=jM List.length h;rw[jT]at this;rw[gS]at hl;exact absurd hl (by rw[this];decide)
       ·split at M
        ·rename_i I hk1 hk2 hk3 hk4 hk5 hk6 J;rw[d5 I,d5 hk1,d5 hk2,d5 hk3,d5 hk4,d5 hk5,d5 hk6,gF J];obtain⟨x,l,a,rfl,O,h0⟩:=aN (by decide) M;obtain⟨f,rfl,hf⟩:=d8 h0;obtain⟨hp,⟨t,q,N,hb,U⟩,ga⟩:=sZ hE deep head m hf;(have e:aH (aK (ao d) (da f) f deep head++[bS 46,mK x])=aH (aK (ao d) (da f) f deep head)++[(6,(⟨#[46]⟩:BA)),(1,x)]:=by rw[aR,it,Mp];rfl);show Lv c m (aH (aK (ao d) (da f) f deep head++[bS 46,mK x])) _ head;rw[e];refine Lv.of_pri (ga.app (by rw[N];simp) (by decide +kernel) _) ?_ (by show ¬ (23:Int)=20;decide) (yT a hp);rw[N];exact⟨t,_,rfl,hb,U⟩
        ·split at M
         ·rename_i I hk1 hk2 hk3 hk4 hk5 hk6 hk7 J;rw[d5 I,d5 hk1,d5 hk2,d5 hk3,d5 hk4,d5 hk5,d5 hk6,d5 hk7,gF J];obtain⟨k,t,l,a⟩:=n;obtain rfl:k=24:=J;rw[gB,gB,gB,gB,gE,gE,gE]at M;obtain⟨ht,hl,ge,hT,D⟩:=M;obtain rfl:t=(⟨#[]⟩:BA):=ht;cases l with
          |nil=>exact absurd hl (by show ¬ 0<0;omega)
          | cons T args=>
           have hT:(aa d).typ T=true:=hT;have ge:T.kind≠12:=ge;have D:args.all (aa d).expr=true:=D;(have e:∀deep,aH (nZ (ao d) (.mk 24 ⟨#[]⟩ (T::args) a) deep)=aH (am d T)++((6,(⟨#[123]⟩:BA))::(fg cX ((args.map fun x=>(aH (dy (ao d) deep x),x)).map (·.1))++[(6,(⟨#[125]⟩:BA))])):=by intro deep;unfold nZ;rw[l7,aR,it,aR,ta hE];rfl);obtain⟨t,q,N,hb⟩:=lC hT;have U:cW t ⟨#[45]⟩=false/\cW t ⟨#[33]⟩=false:=by
            obtain⟨t',q',e2,hc⟩:=sW hT;rw[N]at e2;injection e2 with e2 _;subst e2;rcases hc with hc|rfl|⟨rfl,-⟩
            ·exact⟨nD (.inl hc) _,nD (.inl hc) _⟩
            ·exact⟨by decide,by decide⟩
            ·exact⟨by decide,by decide⟩
           have hA:=Fo hE (.inr rfl) deep D;have gi:∀m head,(T.kind=10->head=false)->Lv c m (aH (nZ (ao d) (.mk 24 ⟨#[]⟩ (T::args) a) deep)) (.mk 24 ⟨#[]⟩ (T::args) a) head:=by
            intro m head hh;rw[e];refine Lv.of_pri ((Pr hT).app (by rw[N];simp) (by decide +kernel) _) (by rw[N];exact⟨t,_,rfl,hb,U⟩) (by show ¬ (24:Int)=20;decide) ?_;rcases typ_kind hT with J|J|J
            ·have:=MB (m:=m) hT J a hA;rw[mN]at this;rw[hh J];exact this
            ·have:=MC (m:=m) (head:=head) hT J a hA
             rwa [mN]at this
            ·exact absurd J ge
           show Lv c m (aH (if head=true/\T.kind=10 then _ else _)) _ head;split
           ·rw[it,aR];exact Lv.of_pri (tK.sign (by show(6:Int)≠1;decide)) ⟨_,_,rfl,by decide,by decide,by decide⟩ (by show ¬ (24:Int)=20;decide) (nE (gi false false fun _=>rfl))
           ·rename_i hc;exact gi m head fun gn=>by
             cases head with
             |false=>rfl
             |true=>exact absurd ⟨rfl,gn⟩ hc
         ·rename_i I hk1 hk2 hk3 hk4 hk5 hk6 hk7 hk8;rw[d5 I,d5 hk1,d5 hk2,d5 hk3,d5 hk4,d5 hk5,d5 hk6,d5 hk7,d5 hk8];obtain⟨l,a,rfl,h0⟩:=bV M;obtain⟨sg,b,rfl,gk,hb⟩:=ll h0;obtain⟨ps,a1,res,a2,rfl,gl,gg⟩:=sS gk;obtain⟨lb,N,gm⟩:=hB b deep hb;(have e:aH (lJ ⟨#[102,117,110,99]⟩::(fm (ao d).typ (.mk 12 ⟨#[]⟩ [.mk 6 ⟨#[]⟩ ps a1,res] a2)++(bu::(ao d).block b deep)))=(2,(⟨#[102,117,110,99]⟩:BA))::(aH (fm (am d) (.mk 12 ⟨#[]⟩ [.mk 6 ⟨#[]⟩ ps a1,res] a2))++((6,(⟨#[123]⟩:BA))::lb)):=by rw[show(ao d).typ=am d from funext l7];show(2,d7 (bytes ⟨#[102,117,110,99]⟩))::aH (fm (am d) (.mk 12 ⟨#[]⟩ [.mk 6 ⟨#[]⟩ ps a1,res] a2)++(bu::(ao d).block b deep))=_;rw[aR];show _::(_++aH ((ao d).block b deep))=_;rw[N,dZ]);show Lv c m (aH (lJ ⟨#[102,117,110,99]⟩::(fm (ao d).typ (.mk 12 ⟨#[]⟩ [.mk 6 ⟨#[]⟩ ps a1,res] a2)++(bu::(ao d).block b deep)))) _ head;rw[e];exact Lv.of_pri (tK.sign (by decide)) ⟨_,_,rfl,by decide,by decide,by decide⟩ (by show ¬ (25:Int)=20;decide) (MD a gl gg gm)
end
end
end Go.Proofs.YtiebcdeafofgdaaGreatDoor
