/-
  Parts of the proof: Ppi Ppj Ppk Ppm. By an AI agent.
-/
import Derived.Test.YtiebcdeafofgdaaGreatDoorJ19
import Derived.Test.YtiebcdeafofgdaaGreatDoorJ18
import Derived.Test.YtiebcdeafofgdaaGreatDoorJ17
namespace Go.Proofs.YtiebcdeafofgdaaGreatDoor
section
theorem gY:type_of% @Bool.or_true:=@Bool.or_true
theorem kP:type_of% @Bool.true_or:=@Bool.true_or
def FA(u:ByteArray):Bool :=!decide (u.data.toList.head? = some 44) && !decide (u.data.toList.head? = some 58)
def Nk(t:TK):Bool:=t.1==5 || !decide (t.2=(⟨#[114,97,110,103,101]⟩:BA))
def Ay(l:List TK):Prop:=∀t q,l=t::q->Nk t=true/\(t.1=1->q=[]\/∃u q',q=u::q'/\FA u.2=true)
theorem Gk{x:ByteArray}(h:aO x=true):Nk (1,x)=true:=by unfold Nk;rw[jD (by rintro rfl;revert h;decide +kernel)];rfl
theorem Sv{x:ByteArray}(h:iI x=true):Nk (4,x)=true:=by unfold Nk;rw[jD (by rintro rfl;revert h;decide +kernel)];rfl
theorem Ay.app{l:List TK}(h:Ay l)(I:l≠[]){u:TK}(D:FA u.2=true)(q:List TK):Ay (l++(u::q)):=by
 cases l with
 |nil=>exact absurd rfl I
 |cons t l=>
  intro t' q' e;have e:t::(l++(u::q))=t'::q':=e;injection e with e1 e2;subst e1 e2;refine⟨(h t l rfl).1,fun M=>?_⟩;rcases(h t l rfl).2 M with rfl|⟨v,l',rfl,J⟩
  ·exact .inr ⟨u,q,rfl,D⟩
  ·exact .inr ⟨v,_,rfl,J⟩
theorem Ay.sign{t:TK}{q:List TK}(h:t.1≠1)(D:Nk t=true:=by decide +kernel):Ay (t::q):=by intro t' q' e;injection e with e1 _;subst e1;exact⟨D,fun I=>absurd I h⟩
structure Lv(c:Cx)(m:Bool)(l:List TK)(n:Nd)(head:Bool):Prop where
 beg:∃t q,l=t::q/\dJ t=true
 sec:Ay l
 begP:n.kind≠20->n.kind≠19->∃t q,l=t::q/\dJ t=true/\(cO t ⟨#[45]⟩=false/\cO t ⟨#[33]⟩=false)
 bin:Lg c 5 m l (fun n'=>cA n' n) head
 una:n.kind≠20->Sq c m l (fun n'=>cA n' n) head
 pri:n.kind≠20->n.kind≠19->uT c m l (fun n' _=>cA n' n) head
 cha:n.kind=20->Sr c (5-bY n.text) m l (fun n'=>cA n' n) head
theorem ue(x:ByteArray):1<=bY x/\bY x<=5:=by
 unfold bY;split
 ·exact⟨d5 _,by omega⟩
 ·split
  ·exact⟨by omega,by omega⟩
  ·split
   ·exact⟨by omega,by omega⟩
   ·split
    ·exact⟨by omega,by omega⟩
    ·exact⟨by omega,by omega⟩
section
variable {c:Cx} {m:Bool} {head:Bool} {l:List TK} {n:Nd}
theorem Lv.of_pri(D:Ay l)(hb:∃t q,l=t::q/\dJ t=true/\(cO t ⟨#[45]⟩=false/\cO t ⟨#[33]⟩=false))(N:n.kind≠20)(h:uT c m l (fun n' _=>cA n' n) head):Lv c m l n head:=by obtain⟨t,q,rfl,M,J⟩:=hb;have I:=sn (Q:=fun n'=>cA n' n) h J (by simp);exact⟨⟨t,q,rfl,M⟩,D,fun _ _=>⟨t,q,rfl,M,J⟩,yI (il I) 5,fun _=>I,fun _ _=>h,fun h'=>absurd h' N⟩
theorem Lv.of_una(D:Ay l)(hb:∃t q,l=t::q/\dJ t=true)(I:n.kind=19)(h:Sq c m l (fun n'=>cA n' n) head):Lv c m l n head:=
 ⟨hb,D,fun _ h'=>absurd I h',yI (il h) 5,fun _=>h,fun _ h'=>absurd I h',fun h'=>by rw[I]at h';exact absurd h' (by decide)⟩
theorem sr{k j:Nat}(D:k<=j)(h:Lg c k m l (fun n'=>cA n' n) head):Lg c j m l (fun n'=>cA n' n) head:=by
 have:=yI h (j-k)
 rwa [show k+(j-k)=j by omega]at this
theorem Lv.of_cha(D:Ay l)(hb:∃t q,l=t::q/\dJ t=true)(I:n.kind=20)(h:Sr c (5-bY n.text) m l (fun n'=>cA n' n) head):Lv c m l n head:=
 ⟨hb,D,fun h'=>absurd I h',sr (by have:=ue n.text;omega) (ph h),fun h'=>absurd I h',fun h'=>absurd I h',fun _=>h⟩
theorem Lv.chaK(h:Lv c m l n head){k:Nat}(J:n.kind=20->5-bY n.text<=k):Sr c k m l (fun n'=>cA n' n) head:=by
 by_cases D:n.kind=20
 ·have M:=J D;rcases jZ (5-bY n.text) k with I|I
  ·exact pg (sr I (ph (h.cha D)))
  ·(have:5-bY n.text=k:=by omega);rw[<-this];exact h.cha D
 ·exact pg (sr (gP _) (il (h.una D)))
theorem Lv.binK(h:Lv c m l n head){k:Nat}(I:n.kind=20->5-bY n.text<k):Lg c k m l (fun n'=>cA n' n) head:=by
 by_cases D:n.kind=20
 ·exact sr (I D) (ph (h.cha D))
 ·exact sr (gP _) (il (h.una D))
theorem Lv.exp(h:Lv c m l n head):Co c m l (fun n'=>cA n' n) head:=sq h.bin
theorem ug(h:Lv c false l n false):uT c m ((6,(⟨#[40]⟩:BA))::(l++[(6,(⟨#[41]⟩:BA))])) (fun n' _=>cA n' n) head:=IL h.exp
theorem uh(h:Lv c false l n false):Sq c m ((6,(⟨#[40]⟩:BA))::(l++[(6,(⟨#[41]⟩:BA))])) (fun n'=>cA n' n) head:=sn (Q:=fun n'=>cA n' n) (ug h) ⟨show cO (6,(⟨#[40]⟩:BA)) ⟨#[45]⟩=false by decide,show cO (6,(⟨#[40]⟩:BA)) ⟨#[33]⟩=false by decide⟩ (by simp)
end
theorem yO{F:dM}{n:Nd}(h:dc F n=true):16<=n.kind/\n.kind<=25:=by
 unfold dc at h;split at h
 ·omega
 ·split at h
  ·omega
  ·split at h
   ·omega
   ·split at h
    ·omega
    ·split at h
     ·omega
     ·split at h
      ·omega
      ·split at h
       ·omega
       ·split at h
        ·omega
        ·split at h
         ·omega
         ·obtain⟨l,a,rfl,_⟩:=ch h;exact⟨by show(16:Int)<=25;omega,by show(25:Int)<=25;omega⟩
def yP(c:Cx)(d:Nat):Prop:=∀n deep head m,(aj d).expr n=true->Lv c m (aF ((ac d).expr n deep head)) n head
def Ee(c:Cx)(d:Nat):Prop:=∀n deep,(aj d).block n=true->∃lb,aF ((ac d).block n deep)=(6,(⟨#[123]⟩:BA))::lb/\PH c ((6,(⟨#[123]⟩:BA))::lb) n
section
variable {c:Cx} {d:Nat} (hE:yP c d)
theorem oN(n:Nd)(deep:Nat)(head:Bool):aF (aM (ac d) true n deep head)=(6,(⟨#[40]⟩:BA))::(aF ((ac d).expr n deep false)++[(6,(⟨#[41]⟩:BA))]):=by unfold aM;rw[gE rfl,mc,aZ];rfl
theorem re(n:Nd)(deep:Nat)(head:Bool):aF (aM (ac d) false n deep head)=aF ((ac d).expr n deep head):=by unfold aM;rw[gA (by decide)]
include hE
theorem IR{n:Nd}(yes:Bool)(deep:Nat)(head:Bool)(D:(aj d).expr n=true):(∃t q,aF (aM (ac d) yes n deep head)=t::q/\dJ t=true)/\Ay (aF (aM (ac d) yes n deep head)):=by
 cases yes with
 |true=>rw[oN];exact⟨⟨_,_,rfl,by decide⟩,Ay.sign (by decide)⟩
 |false=>rw[re];exact⟨(hE n deep head false D).beg,(hE n deep head false D).sec⟩
theorem tF:∀{n:Nd},(aj d).expr n=true->16<=n.kind/\n.kind<=25:=by
 have _:=hE;intro n h;cases d with
 |zero=>cases h
 |succ d=>exact yO (F:=aj d) h
theorem ui{n:Nd}(deep:Nat)(head m:Bool)(J:(aj d).expr n=true):uT c m (aF (aM (ac d) (dr n) n deep head)) (fun n' _=>cA n' n) head/\(∃t q,aF (aM (ac d) (dr n) n deep head)=t::q/\dJ t=true/\(cO t ⟨#[45]⟩=false/\cO t ⟨#[33]⟩=false))/\Ay (aF (aM (ac d) (dr n) n deep head)):=by
 cases D:dr n with
 |true=>rw[oN];exact⟨ug (hE n deep false false J),⟨_,_,rfl,by decide,by decide,by decide⟩,Ay.sign (by decide)⟩
 |false=>rw[re];unfold dr at D;rw[kZ,gK,gK]at D;have I:=hE n deep head m J;exact⟨I.pri D.2 D.1,I.begP D.2 D.1,I.sec⟩
theorem Gl{en:ByteArray}(I:en=(⟨#[41]⟩:BA)\/en=(⟨#[125]⟩:BA))(deep:Nat){l:List Nd}(O:l.all (aj d).expr=true):IM c en (l.map fun x=>(aF (dy (ac d) deep x),x)):=by
 intro x hx;obtain⟨y,D,rfl⟩:=List.mem_map.1 hx;have D:=List.all_eq_true.1 O y D;have U:=tF hE D;(have e:dy (ac d) deep y=(ac d).expr y deep false:=by unfold dy;rw[gA (by omega)]);have M:=hE y deep false false D;obtain⟨t,q,N,J⟩:=M.beg;simp only[e];refine⟨?_,by rw[N];simp,M.exp⟩;rw[N];rcases I with rfl|rfl
 ·exact bS J _ (by decide) (by decide) (by decide) (by decide) (by decide)
 ·exact bS J _ (by decide) (by decide) (by decide) (by decide) (by decide)
theorem uj(n:Nd)(deep:Nat):aF (di (ac d) n deep)=eO dU (((n.kids.drop 1).map fun x=>(aF (dy (ac d) deep x),x)).map (·.1)):=by have _:=hE;unfold di;rw[rv,tw,ql];rfl
omit hE in
theorem ry{x:ByteArray}(h:iu x=true):∀P:ByteArray->Prop,(∀y∈tB,P y)->P x:=by intro P hP;rw[Fs,vq]at h;obtain⟨y,D,e⟩:=h;rw[gC]at e;rw[e];exact hP y D
omit hE in
theorem Sw{x:ByteArray}(h:iu x=true)(head:Bool):CN (5-bY x+1) (6,x)=true/\(∀j,1<=j->j<=5-bY x->CN j (6,x)=false)/\uS head (6,x)=false:=by refine ry h (fun x=>CN (5-bY x+1) (6,x)=true/\(∀j,1<=j->j<=5-bY x->CN j (6,x)=false)/\uS head (6,x)=false) ?_;(have key:(tB.all fun x=>CN (5-bY x+1) (6,x)&&((List.range 6).all (fun j =>!(decide (1<=j)&&decide (j<=5-bY x)) || !(CN j (6,x)))&&(!(uS true (6,x)) && !(uS false (6,x)))))=true:=by decide +kernel);intro y hy;have D:=List.all_eq_true.1 key y hy;simp only[gB,qr]at D;refine⟨D.1,fun j a b=>?_,by cases head<;>simp[D.2.2]⟩;have I:=List.all_eq_true.1 D.2.1 j (List.mem_range.2 (by omega));simpa[a,b]using I
theorem Nl(deep:Nat){l:List Nd}(O:l.all (f9 (aj d))=true):Fw c cA (l.map fun x=>(aF (dy (ac d) deep x),x)):=by
 intro x hx;obtain⟨y,D,rfl⟩:=List.mem_map.1 hx;have D:=List.all_eq_true.1 O y D;unfold f9 at D;rw[gH,gB,gC]at D;rcases D with D|⟨M,D⟩
 ·have U:=tF hE D;(have e:dy (ac d) deep y=(ac d).expr y deep false:=by unfold dy;rw[gA (by omega)]);have N:=hE y deep false true D;obtain⟨t,q,I,J⟩:=N.beg;simp only[e];refine⟨?_,by rw[I];simp,N.exp.br⟩;rw[I];exact bS J _ (by decide) (by decide) (by decide) (by decide) (by decide)
 ·have U:=cR D;(have e:dy (ac d) deep y=af d y:=by unfold dy;rw[gE (by omega)];cases d<;>rfl);obtain⟨t,q,I,J⟩:=iA D;simp only[e];refine⟨?_,by rw[I];simp,((Su d).2 y D).mono fun n h=>h.2 M⟩;rw[I];exact bS J _ (by decide) (by decide) (by decide) (by decide) (by decide)
omit hE in
theorem dY(n:Nd):(ac d).typ n=af d n:=by cases d<;>rfl
omit hE in
theorem PI{n:Nd}(h:(aj d).typ n=true):Ay (aF (af d n)):=by
 have D:=cR h;cases d with
 |zero=>cases h
 |succ d=>
  unfold af;rcases D with D|D|D
  ·rw[gA (by rw[D];decide),gA (by rw[D];decide),gA (by rw[D];decide),lj];intro t q e;injection e with e1 e;subst e1;(have I:aO n.text=true:=by have h:l5 (aj d) n=true:=h;unfold l5 at h;rw[gE D,gB]at h;exact h.1);refine⟨Gk I,fun _=>?_⟩;unfold nu at e;split at e
   ·exact .inl e.symm
   ·exact .inr ⟨_,_,e.symm,by show FA ⟨#[91]⟩=true;decide +kernel⟩
  ·rw[gE D];exact Ay.sign (by decide)
  ·rw[gA (by rw[D];decide),gE D];exact Ay.sign (by decide)
theorem Nm(hB:Ee c d):yP c (d+1):=by
 intro n deep head m M;have M:dc (aj d) n=true:=M;show Lv c m (aF (mI (ac d) n deep head)) n head;unfold dc at M;unfold mI;split at M
 ·rename_i J;rw[gE J];obtain⟨x,l,a,rfl,O,h0⟩:=aJ (by decide) M;cases l with
  |cons y l=>cases h0
  |nil=>(have e:aF [.tok 4 (bytes x)]=[((4:Int),x)]:=by show[((4:Int),d8 (bytes x))]=_;rw[cT]);rw[show(Nd.mk 16 x [] a).text=x from rfl,e];exact Lv.of_pri (Ay.sign (by show(4:Int)≠1;decide) (Sv O)) ⟨_,_,rfl,rfl,rfl,rfl⟩ (by show ¬ (16:Int)=20;decide) ((PF (BB O) a).mono fun n b h=>h.1)
 ·split at M
  ·rename_i I J;rw[gA I,gE J];obtain⟨x,l,a,rfl,O,h0⟩:=aJ (by decide) M;cases l with
   |cons y l=>cases h0
   |nil=>unfold iS at O;rw[gC]at O;exact Lv.of_pri (Ay.sign (by show(5:Int)≠1;decide) rfl) ⟨_,_,rfl,rfl,rfl,rfl⟩ (by show ¬ (17:Int)=20;decide) ((M8 (Fz O) a).mono fun n b h=>h.1)
  ·split at M
   ·rename_i I hk1 J;rw[gA I,gA hk1,gE J];obtain⟨x,l,a,rfl,O,h0⟩:=aJ (by decide) M;cases l with
    |cons y l=>cases h0
    |nil=>rw[show(Nd.mk 18 x [] a).text=x from rfl,RM];exact Lv.of_pri (fun t q e=>by injection e with N e;subst N;exact⟨Gk O,fun _=>.inl e.symm⟩) ⟨_,_,rfl,rfl,rfl,rfl⟩ (by show ¬ (18:Int)=20;decide) ((tD x a).mono fun n b h=>h.1)
   ·split at M
    ·rename_i I hk1 hk2 J;rw[gA I,gA hk1,gA hk2,gE J];obtain⟨x,l,a,rfl,O,h0⟩:=aJ (by decide) M;obtain⟨y,rfl,hy⟩:=ep h0;unfold ng at O;rw[gH,gC,gC]at O;rw[show(Nd.mk 19 x [y] a).text=x from rfl,show aV (Nd.mk 19 x [y] a) 0=y from rfl,ud];refine Lv.of_una (Ay.sign (by show(6:Int)≠1;decide) (by rcases O with rfl|rfl<;>decide +kernel)) ⟨_,_,rfl,by rcases O with rfl|rfl<;>decide⟩ rfl (M4 a O ?_);cases hr:fa (Nd.mk 19 x [y] a) y with
     |true=>rw[oN];exact uh (hE y deep false false hy)
     |false=>rw[re];refine(hE y deep head false hy).una fun gb=>?_;unfold fa at hr;rw[kN gb]at hr;cases hr
    ·split at M
     ·rename_i I hk1 hk2 hk3 J;rw[gA I,gA hk1,gA hk2,gA hk3,gE J];obtain⟨x,l,a,rfl,O,h0⟩:=aJ (by decide) M;obtain⟨y,z,rfl,hy,hz⟩:=li h0;obtain⟨o1,o2,o3⟩:=Sw O head;(have e:aF (aM (ac d) (fb (Nd.mk 20 x [y,z] a) y) y deep head++(bc::pb x::bc::aM (ac d) (eM (Nd.mk 20 x [y,z] a) z) z deep head))=aF (aM (ac d) (fb (Nd.mk 20 x [y,z] a) y) y deep head)++((6,x)::aF (aM (ac d) (eM (Nd.mk 20 x [y,z] a) z) z deep head)):=by rw[aZ];show _++aF (pb x::bc::_)=_;rw[ud];rfl);show Lv c m (aF (aM (ac d) (fb (Nd.mk 20 x [y,z] a) y) y deep head++(bc::pb x::bc::aM (ac d) (eM (Nd.mk 20 x [y,z] a) z) z deep head))) _ head;rw[e];have gp:=ue x;have gd:=IR hE (fb (Nd.mk 20 x [y,z] a) y) deep head hy;have gj:FA x=true:=ry O (fun x=>FA x=true) (by decide +kernel);refine Lv.of_cha (gd.2.app (by obtain⟨t,q,N,_⟩:=gd.1;rw[N];simp) gj _) ?_ rfl (M5 a o1 o2 o3 ?_ ?_)
      ·obtain⟨t,q,N,ht⟩:=gd.1;rw[N];exact⟨t,_,rfl,ht⟩
      ·cases hr:fb (Nd.mk 20 x [y,z] a) y with
       |true=>rw[oN];exact pg (sr (gP _) (il (uh (hE y deep false false hy))))
       |false=>rw[re];refine(hE y deep head m hy).chaK fun gb=>?_;unfold fb at hr;rw[kN gb,vx,gK]at hr;have hr:¬ bY y.text<bY x:=hr;show 5-bY y.text<=5-bY x;omega
      ·cases hr:eM (Nd.mk 20 x [y,z] a) z with
       |true=>rw[oN];exact sr (gP _) (il (uh (hE z deep false false hz)))
       |false=>rw[re];refine(hE z deep head false hz).binK fun gb=>?_;unfold eM at hr;rw[kN gb,vx,gK]at hr;have hr:¬ bY z.text<=bY x:=hr;have:=ue z.text;show 5-bY z.text<5-bY x;omega
     ·split at M
      ·rename_i I hk1 hk2 hk3 hk4 J;rw[gA I,gA hk1,gA hk2,gA hk3,gA hk4,gE J];obtain⟨k,t,l,a⟩:=n;obtain rfl:k=21:=J;rw[gB,gB,gC,gC]at M;obtain⟨ht,hl,D⟩:=M;obtain rfl:t=(⟨#[]⟩:BA):=ht;cases l with
       |nil=>exact absurd hl (by show ¬ 0<0;omega)
       |cons f args=>have D:(f::args).all (aj d).expr=true:=D;rw[kC,gB]at D;obtain⟨hp,⟨t,q,N,hb,U⟩,ga⟩:=ui hE deep head m D.1;(have e:aF (aM (ac d) (dr f) f deep head++(cX 40::(di (ac d) (.mk 21 ⟨#[]⟩ (f::args) a) deep++[cX 41])))=aF (aM (ac d) (dr f) f deep head)++((6,(⟨#[40]⟩:BA))::(eO dU ((args.map fun x=>(aF (dy (ac d) deep x),x)).map (·.1))++[(6,(⟨#[41]⟩:BA))])):=by rw[aZ,mc,aZ,uj hE];rfl);show Lv c m (aF (aM (ac d) (dr f) f deep head++(cX 40::(di (ac d) (.mk 21 ⟨#[]⟩ (f::args) a) deep++[cX 41])))) _ head;rw[e];have gh:=Nb a hp (Gl hE (.inl rfl) deep D.2);rw[nX]at gh;refine Lv.of_pri (ga.app (by rw[N];simp) (by decide +kernel) _) ?_ (by show ¬ (21:Int)=20;decide) gh;rw[N];exact⟨t,_,rfl,hb,U⟩
      ·split at M
       ·rename_i I hk1 hk2 hk3 hk4 hk5 J;rw[gA I,gA hk1,gA hk2,gA hk3,gA hk4,gA hk5,gE J];obtain⟨k,t,l,a⟩:=n;obtain rfl:k=22:=J;rw[gB,gB,gB,gC,gC]at M;obtain⟨ht,hl,hf,D⟩:=M;obtain rfl:t=(⟨#[]⟩:BA):=ht;cases l with
        |nil=>exact absurd hl (by show ¬ 1<0;omega)
        |cons f args=>
         have hf:(aj d).expr f=true:=hf;have D:args.all (f9 (aj d))=true:=D;have hl:1<(f::args).length:=hl;obtain⟨hp,⟨t,q,N,hb,U⟩,ga⟩:=ui hE deep head m hf;(have e:aF (aM (ac d) (dr f) f deep head++(cX 91::(di (ac d) (.mk 22 ⟨#[]⟩ (f::args) a) deep++[cX 93])))=aF (aM (ac d) (dr f) f deep head)++((6,(⟨#[91]⟩:BA))::(eO dU ((args.map fun x=>(aF (dy (ac d) deep x),x)).map (·.1))++[(6,(⟨#[93]⟩:BA))])):=by rw[aZ,mc,aZ,uj hE];rfl);show Lv c m (aF (aM (ac d) (dr f) f deep head++(cX 91::(di (ac d) (.mk 22 ⟨#[]⟩ (f::args) a) deep++[cX 93])))) _ head;rw[e];refine Lv.of_pri (ga.app (by rw[N];simp) (by decide +kernel) _) ?_ (by show ¬ (22:Int)=20;decide) ?_
         ·rw[N];exact⟨t,_,rfl,hb,U⟩
         ·refine By (Q:=cA) (fun h=>?_) hp (Nl hE deep D) (fun n b l p h1 h2=>by rw[nX]at h2;exact cA.mk (bm.cons h1 h2.eqv) _ _);have:=jH List.length h;rw[jV]at this;rw[gM]at hl;exact absurd hl (by rw[this];decide)
       ·split at M
        ·rename_i I hk1 hk2 hk3 hk4 hk5 hk6 J;rw[gA I,gA hk1,gA hk2,gA hk3,gA hk4,gA hk5,gA hk6,gE J];obtain⟨x,l,a,rfl,O,h0⟩:=aJ (by decide) M;obtain⟨f,rfl,hf⟩:=ep h0;obtain⟨hp,⟨t,q,N,hb,U⟩,ga⟩:=ui hE deep head m hf;(have e:aF (aM (ac d) (dr f) f deep head++[cX 46,iN x])=aF (aM (ac d) (dr f) f deep head)++[(6,(⟨#[46]⟩:BA)),(1,x)]:=by rw[aZ,mc,RM];rfl);show Lv c m (aF (aM (ac d) (dr f) f deep head++[cX 46,iN x])) _ head;rw[e];refine Lv.of_pri (ga.app (by rw[N];simp) (by decide +kernel) _) ?_ (by show ¬ (23:Int)=20;decide) (IP a hp);rw[N];exact⟨t,_,rfl,hb,U⟩
        ·split at M
         ·rename_i I hk1 hk2 hk3 hk4 hk5 hk6 hk7 J;rw[gA I,gA hk1,gA hk2,gA hk3,gA hk4,gA hk5,gA hk6,gA hk7,gE J];obtain⟨k,t,l,a⟩:=n;obtain rfl:k=24:=J;rw[gB,gB,gB,gB,gC,gC,gC]at M;obtain⟨ht,hl,ge,hT,D⟩:=M;obtain rfl:t=(⟨#[]⟩:BA):=ht;cases l with
          |nil=>exact absurd hl (by show ¬ 0<0;omega)
          |cons T args=>
           have hT:(aj d).typ T=true:=hT;have ge:T.kind≠12:=ge;have D:args.all (aj d).expr=true:=D;(have e:∀deep,aF (oJ (ac d) (.mk 24 ⟨#[]⟩ (T::args) a) deep)=aF (af d T)++((6,(⟨#[123]⟩:BA))::(eO dU ((args.map fun x=>(aF (dy (ac d) deep x),x)).map (·.1))++[(6,(⟨#[125]⟩:BA))])):=by intro deep;unfold oJ;rw[dY,aZ,mc,aZ,uj hE];rfl);obtain⟨t,q,N,hb⟩:=iA hT;have U:cO t ⟨#[45]⟩=false/\cO t ⟨#[33]⟩=false:=by
            obtain⟨t',q',e2,hc⟩:=rx hT;rw[N]at e2;injection e2 with e2 _;subst e2;rcases hc with hc|rfl|⟨rfl,-⟩
            ·exact⟨nA (.inl hc) _,nA (.inl hc) _⟩
            ·exact⟨by decide,by decide⟩
            ·exact⟨by decide,by decide⟩
           have hA:=Gl hE (.inr rfl) deep D;have gi:∀m head,(T.kind=10->head=false)->Lv c m (aF (oJ (ac d) (.mk 24 ⟨#[]⟩ (T::args) a) deep)) (.mk 24 ⟨#[]⟩ (T::args) a) head:=by
            intro m head hh;rw[e];refine Lv.of_pri ((PI hT).app (by rw[N];simp) (by decide +kernel) _) (by rw[N];exact⟨t,_,rfl,hb,U⟩) (by show ¬ (24:Int)=20;decide) ?_;rcases cR hT with J|J|J
            ·have:=Nh (m:=m) hT J a hA;rw[nX]at this;rw[hh J];exact this
            ·have:=Ni (m:=m) (head:=head) hT J a hA
             rwa [nX]at this
            ·exact absurd J ge
           show Lv c m (aF (if head=true/\T.kind=10 then _ else _)) _ head;split
           ·rw[mc,aZ];exact Lv.of_pri (Ay.sign (by show(6:Int)≠1;decide)) ⟨_,_,rfl,by decide,by decide,by decide⟩ (by show ¬ (24:Int)=20;decide) (ug (gi false false fun _=>rfl))
           ·rename_i hc;exact gi m head fun gn=>by
             cases head with
             |false=>rfl
             |true=>exact absurd ⟨rfl,gn⟩ hc
         ·rename_i I hk1 hk2 hk3 hk4 hk5 hk6 hk7 hk8;rw[gA I,gA hk1,gA hk2,gA hk3,gA hk4,gA hk5,gA hk6,gA hk7,gA hk8];obtain⟨l,a,rfl,h0⟩:=ch M;obtain⟨sg,b,rfl,gk,hb⟩:=li h0;obtain⟨ps,a1,res,a2,rfl,gl,gg⟩:=sc gk;obtain⟨lb,N,gm⟩:=hB b deep hb;(have e:aF (iy ⟨#[102,117,110,99]⟩::(ez (ac d).typ (.mk 12 ⟨#[]⟩ [.mk 6 ⟨#[]⟩ ps a1,res] a2)++(bc::(ac d).block b deep)))=(2,(⟨#[102,117,110,99]⟩:BA))::(aF (ez (af d) (.mk 12 ⟨#[]⟩ [.mk 6 ⟨#[]⟩ ps a1,res] a2))++((6,(⟨#[123]⟩:BA))::lb)):=by rw[show(ac d).typ=af d from funext dY];show(2,d8 (bytes ⟨#[102,117,110,99]⟩))::aF (ez (af d) (.mk 12 ⟨#[]⟩ [.mk 6 ⟨#[]⟩ ps a1,res] a2)++(bc::(ac d).block b deep))=_;rw[aZ];show _::(_++aF ((ac d).block b deep))=_;rw[N,cT]);show Lv c m (aF (iy ⟨#[102,117,110,99]⟩::(ez (ac d).typ (.mk 12 ⟨#[]⟩ [.mk 6 ⟨#[]⟩ ps a1,res] a2)++(bc::(ac d).block b deep)))) _ head;rw[e];exact Lv.of_pri (Ay.sign (by decide)) ⟨_,_,rfl,by decide,by decide,by decide⟩ (by show ¬ (25:Int)=20;decide) (Nj a gl gg gm)
end
def Ef:TK:=(6,(⟨#[10]⟩:BA))
theorem Cs(h:Bool):iY h Ef:=by cases h<;>exact lP (by decide +kernel) (by decide +kernel) (by decide +kernel) (by decide +kernel) (by decide +kernel) (by decide +kernel)
theorem PJ(h:Bool):iY h (6,(⟨#[61]⟩:BA)):=by cases h<;>exact lP (by decide +kernel) (by decide +kernel) (by decide +kernel) (by decide +kernel) (by decide +kernel) (by decide +kernel)
theorem Nn(h:Bool):iY h (6,(⟨#[58,61]⟩:BA)):=by cases h<;>exact lP (by decide +kernel) (by decide +kernel) (by decide +kernel) (by decide +kernel) (by decide +kernel) (by decide +kernel)
theorem No(h:Bool):iY h (6,(⟨#[43,43]⟩:BA)):=by cases h<;>exact lP (by decide +kernel) (by decide +kernel) (by decide +kernel) (by decide +kernel) (by decide +kernel) (by decide +kernel)
theorem Np(h:Bool):iY h (6,(⟨#[45,45]⟩:BA)):=by cases h<;>exact lP (by decide +kernel) (by decide +kernel) (by decide +kernel) (by decide +kernel) (by decide +kernel) (by decide +kernel)
theorem BD(h:Bool):iY h (6,(⟨#[59]⟩:BA)):=by cases h<;>exact lP (by decide +kernel) (by decide +kernel) (by decide +kernel) (by decide +kernel) (by decide +kernel) (by decide +kernel)
theorem pj:iY true (6,(⟨#[123]⟩:BA)):=lP (by decide +kernel) (by decide +kernel) (by decide +kernel) (by decide +kernel) (by decide +kernel) (by decide +kernel)
def EC(c:Cx)(f:Nat->R Nd)(k:Nat)(l:List TK)(n:Nd):Prop:=∀G s r,At c s (l++r)->s.head=false->s.part = -1->Fu c k G s->et r=Ef->oL c s r n (-1) (f G c s)
section
variable {c:Cx} {d:Nat} (hE:yP c d)
include hE
theorem nD{n:Nd}(h:(aj d).expr n=true):n.kind≠0:=by have:=tF hE h;omega
omit hE in
theorem Sx{n:Nd}(h:(aj d).typ n=true):n.kind≠0:=by have:=cR h;omega
theorem pk{n:Nd}(deep:Nat){head:Bool}(I:(aj d).expr n=true){G:Nat}{s:St}{r:List TK}(h:At c s (aF ((ac d).expr n deep head)++r))(J:s.head=head)(D:s.part = -1)(M:Fu c 2 G s)(hs:iY head (et r)):oL c s r n (-1) ((cF G).expr c s):=
 (hE n deep head false I).exp G s r h J (sm.no D) M hs
theorem Gm{n:Nd}(deep:Nat)(hn:oU (aj d) n=true):EC c (fun G=>dW (cF G)) 2 (aF (pc (ac d) n deep)) n:=by
 intro G s r h hh hp hf hr;unfold oU at hn;rw[gB]at hn;obtain⟨x,l,a,rfl,hx,h0⟩:=aJ (by decide) hn.1;obtain⟨t,v,rfl,M,N⟩:=li h0;(have gg:aE t=true->aE v=true->False:=fun h1 h2=>by have J:=hn.2;show False;rw[show(Nd.mk 5 x [t,v] a).kids.getD 0 bU=t from rfl,show(Nd.mk 5 x [t,v] a).kids.getD 1 bU=v from rfl,h1,h2]at J;cases J);unfold dv at M N;rw[gH]at M N;(have e:aF (pc (ac d) (.mk 5 x [t,v] a) deep)++r=(2,(⟨#[118,97,114]⟩:BA))::(1,x)::(aF (if t.kind=0 then[]else bc::af d t)++(aF (if v.kind=0 then[]else bc::cX 61::bc::(ac d).expr v deep false)++r)):=by show aF (iy ⟨#[118,97,114]⟩::bc::iN x::((if t.kind=0 then[]else bc::(ac d).typ t)++(if v.kind=0 then[]else bc::cX 61::bc::(ac d).expr v deep false)))++r=_;rw[dY];show(2,d8 (bytes ⟨#[118,97,114]⟩))::(aF (iN x::_)++r)=_;rw[lj,aZ,cT,gV,gL]);rw[e]at h;obtain⟨f1,f2⟩:=hf.adv h;have D:=h.adv.adv;have f3:Fu c 2 G (adv (adv s)):=hf.le (by show s.at_<=s.at_+1+1;omega);show oL c s r _ (-1) (dW (cF G) c s);unfold dW;rw[fl h ⟨#[118,97,114]⟩ (by decide),bH.bind_ok,mr h.adv,bH.bind_ok];have O:∀(t':Nd)(I:St),cA t' t->At c I (aF (if v.kind=0 then[]else bc::cX 61::bc::(ac d).expr v deep false)++r)->I.head=s.head->I.part = -1->Fu c 2 G I->(aE v=true->(t'=t'/\True)) ->
   oL c s r (.mk 5 x [t,v] a) (-1) (if aP c I ⟨#[61]⟩then((cF G).expr c (adv I)).bind fun v s4=>.ok (.mk 5 x [t',v] (av c s)) s4 else .ok (.mk 5 x [t',bU] (av c s)) I):=by
  intro t' I ht' J U gb gh _;rcases N with N|N
  ·obtain⟨a',rfl⟩:=bP N;have J:At c I r:=J;rw[gA (by rw[J.is,hr];decide)];exact⟨_,I,rfl,cA.mk (bm.cons ht' (bm.one (fu a'))) _ _,J,U,gb⟩
  ·rw[gA (nD hE N)]at J;have J:At c I ((6,(⟨#[61]⟩:BA))::(aF ((ac d).expr v deep false)++r)):=J;obtain⟨v',s4,g1,g2,g3,g4,g5⟩:=pk hE deep N J.adv (U.trans hh) gb (gh.le (jE _)) (by rw[hr];exact Cs _);rw[gE (J.yes (by decide)),g1,bH.bind_ok];exact⟨_,s4,rfl,cA.mk (bm.cons ht' (bm.one g2)) _ _,g3,g4.trans U,g5⟩
 rcases M with M|M
 ·obtain⟨a',rfl⟩:=bP M;have gd:(aj d).expr v=true:=N.resolve_left fun h=>gg M h;have h2:At c (adv (adv s)) (aF (if v.kind=0 then[]else bc::cX 61::bc::(ac d).expr v deep false)++r):=D;have ga:=O bU _ (fu a') h2 rfl hp f3 (fun _=>⟨rfl,trivial⟩);rw[gA (nD hE gd)]at h2;have h2:At c (adv (adv s)) ((6,(⟨#[61]⟩:BA))::(aF ((ac d).expr v deep false)++r)):=h2;rw[gE (h2.yes (by decide))]at ga |-;exact ga
 ·rw[gA (Sx M)]at D;have D:At c (adv (adv s)) (aF (af d t)++(aF (if v.kind=0 then[]else bc::cX 61::bc::(ac d).expr v deep false)++r)):=D;obtain⟨t0,q0,e0,gi⟩:=iA M;(have ge:aP c (adv (adv s)) ⟨#[61]⟩=false:=by rw[D.is,e0];exact bS gi _ (by decide) (by decide) (by decide) (by decide) (by decide));rw[gA (by rw[ge];decide)];have hb:dJ (et (aF (if v.kind=0 then[]else bc::cX 61::bc::(ac d).expr v deep false)++r))=false:=by
   split
   ·show dJ (et r)=false;rw[hr];decide +kernel
   ·show dJ (6,(⟨#[61]⟩:BA))=false;decide +kernel
  obtain⟨t',I,g1,g2,g3,g4,g5⟩:=iB d G t M _ _ D hb (by have:=f3;unfold Fu at *;omega);rw[g1,bH.bind_ok];exact O t' I g2 g3 g4 (g5.trans hp) (f3.le (by have:=fT D g3;omega)) (fun _=>⟨rfl,trivial⟩)
def BE(head:Bool)(t:TK):Prop:=iY head t/\cO t ⟨#[61]⟩=false/\cO t ⟨#[43,43]⟩=false/\cO t ⟨#[45,45]⟩=false
def TO(c:Cx)(l:List TK)(n:Nd)(head:Bool):Prop:=∀G s r,At c s (l++r)->s.head=head->s.part = -1->Fu c 2 G s->BE head (et r) ->
 ∃x s1,(cF G).expr c s=.ok x s1/\(n.kind≠29->aP c s1 ⟨#[123]⟩=false)/\∀p,oL c s r n (-1) (fW (cF G) p x c s1)
def dK(F:dM)(n:Nd):Bool:=ia F n||(mF F n||(mE F n||mw F n))
theorem Ct{n:Nd}(deep:Nat)(head:Bool)(I:dK (aj d) n=true):TO c (aF (cr (ac d) n deep head)) n head:=by
 intro G s r h hh hp hf hr;unfold dK at I;rw[gH,gH,gH]at I;(have gb:1<=G:=by unfold Fu at hf;omega);rcases I with I|I|I|I
 ·obtain⟨x,l,a,rfl,O,h0⟩:=aJ (by decide) I;obtain⟨v,rfl,hv⟩:=ep h0;unfold ev at O;rw[gB,gC]at O;(have e:aF (cr (ac d) (.mk 26 x [v] a) deep head)++r=(1,x)::(6,(⟨#[58,61]⟩:BA))::(aF ((ac d).expr v deep head)++r):=by show aF (iN x::bc::pb ⟨#[58,61]⟩::bc::(ac d).expr v deep head)++r=_;rw[lj];show(1,x)::(aF (pb ⟨#[58,61]⟩::bc::(ac d).expr v deep head)++r)=_;rw[ud];rfl);rw[e]at h;have ga:=sq (yN (c:=c) (m:=false) (head:=head) (Q:=fun n=>cA n (.mk 18 x [] 0)) ((tD x 0).mono fun n b h=>h.1) ⟨rfl,rfl⟩ (by simp)) G s _ (show At c s ([(1,x)]++_)from h) hh (sm.no hp) hf (Nn head);obtain⟨y,M,g1,J,D,N,g5⟩:=ga;refine⟨y,M,g1,fun _=>Bool.eq_false_iff.2 (D.no (by decide)),fun p=>?_⟩;obtain⟨v',s2,p1,p2,p3,p4,p5⟩:=pk hE deep hv D.adv (N.trans hh) g5 (hf.le (by have:=fT (a:=[(1,x)]) h D;show s.at_<=M.at_+1;omega)) hr.1;unfold fW;rw[gE ⟨J.kind,by rw[J.text];exact O.2,D.yes (by decide)⟩,p1,bH.bind_ok,J.text];exact⟨_,s2,rfl,cA.mk (bm.one p2) _ _,p3,p4.trans N,p5⟩
 ·obtain⟨l,a,rfl,h0⟩:=ch I;obtain⟨y,v,rfl,U,hv⟩:=li h0;(have e:aF (cr (ac d) (.mk 27 ⟨#[]⟩ [y,v] a) deep head)++r=aF ((ac d).expr y deep head)++((6,(⟨#[61]⟩:BA))::(aF ((ac d).expr v deep head)++r)):=by show aF ((ac d).expr y deep head++(bc::cX 61::bc::(ac d).expr v deep head))++r=_;rw[aZ,gL];rfl);rw[e]at h;obtain⟨y',M,g1,J,D,N,g5⟩:=pk hE deep U h hh hp hf (PJ head);refine⟨y',M,g1,fun _=>Bool.eq_false_iff.2 (D.no (by decide)),fun p=>?_⟩;obtain⟨v',s2,p1,p2,p3,p4,p5⟩:=pk hE deep hv D.adv (N.trans hh) g5 (hf.le (by have:=fT h D;show s.at_<=M.at_+1;omega)) hr.1;unfold fW;rw[gA (fun h=>D.no (by decide) h.2.2),gE (D.yes (by decide)),p1,bH.bind_ok];exact⟨_,s2,rfl,cA.mk (bm.cons J (bm.one p2)) _ _,p3,p4.trans N,p5⟩
 ·obtain⟨x,l,a,rfl,O,h0⟩:=aJ (by decide) I;obtain⟨y,rfl,U⟩:=ep h0;unfold pu at O;rw[gH,gC,gC]at O;(have e:aF (cr (ac d) (.mk 28 x [y] a) deep head)++r=aF ((ac d).expr y deep head)++((6,x)::r):=by show aF ((ac d).expr y deep head++[pb x])++r=_;rw[aZ,ud,gL];rfl);rw[e]at h;obtain⟨y',M,g1,J,D,N,g5⟩:=pk hE deep U h hh hp hf (by rcases O with rfl|rfl;exact No _;exact Np _);refine⟨y',M,g1,fun _=>Bool.eq_false_iff.2 (D.no (by rcases O with rfl|rfl<;>decide)),fun p=>?_⟩;unfold fW;rcases O with rfl|rfl
  ·rw[gA (fun h=>D.no (by decide) h.2.2),gA (D.no (by decide)),gE (D.yes (by decide))];exact⟨_,_,rfl,cA.mk (bm.one J) _ _,D.adv,N,g5⟩
  ·rw[gA (fun h=>D.no (by decide) h.2.2),gA (D.no (by decide)),gA (D.no (by decide)),gE (D.yes (by decide))];exact⟨_,_,rfl,cA.mk (bm.one J) _ _,D.adv,N,g5⟩
 ·obtain⟨l,a,rfl,h0⟩:=ch I;obtain⟨y,rfl,U⟩:=ep h0;unfold oA at U;rw[gB,gC]at U;have h:At c s (aF ((ac d).expr y deep head)++r):=h;obtain⟨y',M,g1,J,D,N,g5⟩:=pk hE deep U.2 h hh hp hf hr.1;refine⟨y',M,g1,fun h=>absurd rfl h,fun p=>?_⟩;have hk:y'.kind=21:=J.kind.trans U.1;unfold fW;rw[gA (fun h=>by rw[hk]at h;exact absurd h.1 (by decide)),gA (by rw[D.is,hr.2.1];decide),gA (by rw[D.is,hr.2.2.1];decide),gA (by rw[D.is,hr.2.2.2];decide),gE hk];exact⟨_,M,rfl,cA.mk (bm.one J) _ _,D,N,g5⟩
end
def IS(t:TK):Prop:=cO t ⟨#[125]⟩=false/\cO t ⟨#[59]⟩=false/\cO t ⟨#[10]⟩=false
theorem RN{t:TK}(h:dJ t=true):IS t:=⟨bS h _ (by decide) (by decide) (by decide) (by decide) (by decide),bS h _ (by decide) (by decide) (by decide) (by decide) (by decide),bS h _ (by decide) (by decide) (by decide) (by decide) (by decide)⟩
def IT(c:Cx)(d:Nat):Prop:=∀n deep,(aj d).stmt n=true->(∃t q,aF ((ac d).stmt n deep false)=t::q/\IS t)/\EC c (fun G=>(cF G).stmt) 3 (aF ((ac d).stmt n deep false)) n
section
variable {c:Cx} {d:Nat}
theorem wq{s:St}{r:List TK}(h:At c s (Ef::r)):dV c s=true:=by unfold dV;rw[h.yes (x:=(⟨#[10]⟩:BA)) (by decide)];simp
theorem uL(hS:IT c d)(deep:Nat)(p:Int){G:Nat}:∀(l:List Nd)(g:Nat)(acc acc':List Nd)(s:St)(r:List TK),l.all (aj d).stmt=true ->
  At c s (l.flatMap (fun x=>aF ((ac d).stmt x deep false)++[Ef])++((6,(⟨#[125]⟩:BA))::r))->s.head=false->s.part = -1->Fu c 3 G s->c.toks.length-s.at_<g->bm acc' acc ->
  yE c s r (fun n'=>∃l',n'=.mk 36 ⟨#[]⟩ l' p/\bm l' (acc++l)) (-1) (dh (cF G) p g acc' c s)
 |_,0,_,_,_,_,_,_,_,_,_,U,_=>absurd U (by omega)
 |[],g+1,acc,acc',s,r,_,h,O,M,_,_,ha=>by have h:At c s ((6,(⟨#[125]⟩:BA))::r):=h;unfold dh;rw[gE (h.yes (by decide))];exact⟨_,_,rfl,⟨acc',rfl,by rwa [kG]⟩,h.adv,rfl,M⟩
 |x::l,g+1,acc,acc',s,r,N,h,O,M,hf,U,ha=>by
  rw[kC,gB]at N;obtain⟨⟨t,q,e1,b1,b2,b3⟩,hx⟩:=hS x deep N.1;rw[jA,gL,gL]at h;have I:=h;rw[e1]at I;unfold dh;rw[gA (by rw[I.is];show ¬ cO t ⟨#[125]⟩=true;rw[b1];decide),gA]
  ·obtain⟨n',D,g1,g2,J,g4,g5⟩:=hx G s _ h O M hf rfl;have ga:=fT h J;rw[show(cF G).stmt c s=.ok n' D from g1,bH.bind_ok,gE (wq J)];(have hb:c.toks.length-(adv D).at_<g:=by have:=J.len;simp at this;show c.toks.length-(D.at_+1)<g;omega);obtain⟨n2,s2,k1,⟨l',k2,k3⟩,k4,k5,k6⟩:=uL hS deep p l g (acc++[x]) (acc'++[n']) (adv D) r N.2 J.adv (g4.trans O) g5 (hf.le (by show s.at_<=D.at_+1;omega)) hb (ha.app (bm.one g2));exact⟨n2,s2,k1,⟨l',k2,by simpa using k3⟩,k4,k5.trans g4,k6⟩
  ·unfold dV;rw[I.is,I.is];show ¬ (cO t ⟨#[59]⟩||cO t ⟨#[10]⟩)=true;rw[b2,b3];decide
theorem Cu:∀n,aF (nI n)=[]
 |0=>rfl
 |n+1=>Cu n
theorem tG{α:Type}(f:α->List It):∀l:List α,aF (l.flatMap f)=l.flatMap fun x=>aF (f x)
 |[]=>rfl
 |x::l=>by rw[jA,jA,aZ,tG f l]
theorem yQ(n:Nd)(deep:Nat):aF (og (ac d) n deep)=(6,(⟨#[123]⟩:BA))::(n.kids.flatMap (fun x=>aF ((ac d).stmt x (deep+1) false)++[Ef])++[(6,(⟨#[125]⟩:BA))]):=by unfold og;rw[mc];show _::aF (n.kids.flatMap _++(nI deep++[cX 125]))=_;rw[aZ,aZ,Cu,tG];congr 2;refine jH (fun f=>n.kids.flatMap f) (funext fun x=>?_);rw[aZ,aZ,Cu];rfl
theorem Gn(hS:IT c d){n:Nd}(deep:Nat)(D:dj (aj d) n=true):PH c (aF (og (ac d) n deep)) n:=by intro G s r h hp hf;obtain⟨k,t,l,a⟩:=n;unfold dj at D;rw[gB,gB,gC,gC]at D;obtain⟨hk,ht,hl⟩:=D;obtain rfl:k=36:=hk;obtain rfl:t=(⟨#[]⟩:BA):=ht;rw[yQ]at h;have h:At c s ((6,(⟨#[123]⟩:BA))::(l.flatMap (fun x=>aF ((ac d).stmt x (deep+1) false)++[Ef])++[(6,(⟨#[125]⟩:BA))]++r)):=h;rw[gL]at h;obtain⟨f1,f2⟩:=hf.adv h;have I:At c { s with head:=false } ((6,(⟨#[123]⟩:BA))::(l.flatMap (fun x=>aF ((ac d).stmt x (deep+1) false)++[Ef])++([(6,(⟨#[125]⟩:BA))]++r))):=h;obtain⟨M,J,k1,⟨l',k2,U⟩,O,k5,N⟩:=uL hS (deep+1) (av c { s with head:=false }) (G:=G) l G [] [] (adv { s with head:=false }) r hl I.adv rfl hp (f2.more (by omega)) (by have:=I.len;simp at this;unfold Fu at hf;show c.toks.length-(s.at_+1)<G;omega) bm.nil;(have e:bE (cF G) c s=.ok M { J with head:=s.head } :=by refine Cq ?_;unfold mO;rw[fl I ⟨#[123]⟩ (by decide),bH.bind_ok,oM];exact k1);subst k2;exact⟨_,_,e,cA.mk U _ _,O,rfl,N⟩
theorem Nq(D:IT c d):Ee c (d+1):=fun n deep hn=>⟨_,yQ n deep,by rw[<-yQ];exact Gn D deep hn⟩
theorem ws{α:Type}{p:R α}{s s1:St}{a:α}(h:p c { s with head:=true }=.ok a s1):cZ p c s=.ok a { s1 with head:=s.head } :=by unfold cZ;rw[h];rfl
theorem yR(hE:yP c d){n:Nd}(deep:Nat)(I:(aj d).expr n=true){G:Nat}{s:St}{r:List TK}(h:At c s (aF ((ac d).expr n deep true)++r))(D:s.part = -1)(J:Fu c 2 G s)(hs:iY true (et r)):oL c s r n (-1) (cZ (cF G).expr c s):=by obtain⟨n',U,e,O,N,g4,M⟩:=pk hE deep I (s:={ s with head:=true }) h rfl D J hs;exact⟨n',_,ws e,O,N,rfl,M⟩
def Tx(c:Cx)(d:Nat):Prop:=∀n deep,(aj d).ifS n=true->n.kind=30/\EC c (fun G=>(cF G).ifS) 3 (aF ((ac d).stmt n deep false)) n
theorem Nr(hE:yP c d)(hB:Ee c d)(hI:Tx c d)(ge:∀n deep,(aj d).block n=true->aF ((ac d).stmt n deep false)=aF ((ac d).block n deep)){n:Nd}(deep:Nat)(hn:GQ (aj d) n=true):EC c (fun G=>GO (cF G)) 2 (aF (cr (ac d) n deep false)) n:=by
 intro G s r h hh hp hf hr;obtain⟨l,a,rfl,h0⟩:=ch hn;obtain⟨x,b,o,rfl,hx,hb,I⟩:=DW h0;obtain⟨lb,eb,gd⟩:=hB b deep hb;(have e:aF (cr (ac d) (.mk 30 ⟨#[]⟩ [x,b,o] a) deep false)++r=(2,(⟨#[105,102]⟩:BA))::(aF ((ac d).expr x deep true)++((6,(⟨#[123]⟩:BA))::(lb++(aF (if o.kind=0 then[]else bc::iy ⟨#[101,108,115,101]⟩::bc::(ac d).stmt o deep false)++r)))):=by show aF (iy ⟨#[105,102]⟩::bc::((ac d).expr x deep true++(bc::((ac d).block b deep++(if o.kind=0 then[]else bc::iy ⟨#[101,108,115,101]⟩::bc::(ac d).stmt o deep false)))))++r=_;show(2,d8 (bytes ⟨#[105,102]⟩))::(aF ((ac d).expr x deep true++(bc::((ac d).block b deep++(if o.kind=0 then[]else bc::iy ⟨#[101,108,115,101]⟩::bc::(ac d).stmt o deep false))))++r)=_;rw[cT,aZ];show _::(_++aF ((ac d).block b deep++_)++r)=_;rw[aZ,eb,gL,gV,gV,gL]);rw[e]at h;obtain⟨f1,f2⟩:=hf.adv h;show oL c s r _ (-1) (GO (cF G) c s);unfold GO;rw[fl h ⟨#[105,102]⟩ (by decide),bH.bind_ok];obtain⟨x',s1,g1,g2,g3,g4,g5⟩:=yR hE deep hx (G:=G) h.adv hp (f2.more (by omega)) pj;rw[g1,bH.bind_ok];have l1:=fT h.adv g3;obtain⟨b',J,k1,k2,D,k4,k5⟩:=gd G s1 _ g3 g5 (by have:(adv s).at_=s.at_+1:=rfl;unfold Fu at *;omega);rw[k1,bH.bind_ok];have l2:=fT (a:=(6,(⟨#[123]⟩:BA))::lb) g3 D;have ea:(adv s).at_=s.at_+1:=rfl;unfold dv at I;rw[gH,gH]at I;rcases I with(I|I)|I
 ·obtain⟨a',rfl⟩:=bP I;have D:At c J r:=D;rw[gA (by rw[D.is,hr];decide)];exact⟨_,J,rfl,cA.mk (bm.cons g2 (bm.cons k2 (bm.one (fu a')))) _ _,D,k4.trans g4,k5⟩
 ·have M:o.kind=36:=by
   cases d with
   |zero=>cases I
   |succ d=>have I:dj (aj d) o=true:=I;unfold dj at I;rw[gB,gC]at I;exact I.1
  obtain⟨lo,eo,N⟩:=hB o deep I;rw[gA (by rw[M];decide)]at D;have D:At c J ((2,d8 (bytes ⟨#[101,108,115,101]⟩))::(aF ((ac d).stmt o deep false)++r)):=D;rw[cT,ge o deep I,eo]at D;have U:At c (adv J) ((6,(⟨#[123]⟩:BA))::(lo++r)):=D.adv;rw[gE (D.yes (by decide)),gA (U.no (by decide))];obtain⟨o',s3,q1,q2,q3,q4,q5⟩:=N G (adv J) r U k5 (by have:(adv J).at_=J.at_+1:=rfl;unfold Fu at *;omega);rw[q1,bH.bind_ok];exact⟨_,s3,rfl,cA.mk (bm.cons g2 (bm.cons k2 (bm.one q2))) _ _,q3,q4.trans (k4.trans g4),q5⟩
 ·obtain⟨M,N⟩:=hI o deep I;rw[gA (by rw[M];decide)]at D;have D:At c J ((2,d8 (bytes ⟨#[101,108,115,101]⟩))::(aF ((ac d).stmt o deep false)++r)):=D;rw[cT]at D;have gb:∃q,aF ((ac d).stmt o deep false)=(2,(⟨#[105,102]⟩:BA))::q:=by
   cases d with
   |zero=>cases I
   |succ d=>show ∃q,aF (cr (ac d) o deep false)=_;unfold cr;rw[gA (by rw[M];decide),gA (by rw[M];decide),gA (by rw[M];decide),gA (by rw[M];decide),gA (by rw[M];decide),gE M];exact⟨_,rfl⟩
  obtain⟨q,eq⟩:=gb;have O:=D.adv;rw[eq]at O;rw[gE (D.yes (by decide)),gE (O.yes (by decide))];have ga:=D.len;obtain⟨o',s3,q1,q2,q3,q4,q5⟩:=N G (adv J) r D.adv (k4.trans (g4.trans hh)) k5 (by have:(adv J).at_=J.at_+1:=rfl;simp at ga;unfold Fu at *;omega) hr;rw[show(cF G).ifS c (adv J)=.ok o' s3 from q1,bH.bind_ok];exact⟨_,s3,rfl,cA.mk (bm.cons g2 (bm.cons k2 (bm.one q2))) _ _,q3,q4.trans (k4.trans g4),q5⟩
end
end
section
open Go.Lib
theorem ss(t:cY)(r:List cY):bytes (r.foldl (fun a u=>a++(⟨#[32]⟩:BA)++u.text) t.text)=bytes t.text++r.flatMap fun u=>32::bytes u.text:=by
 suffices h:∀(r:List cY)(x:ByteArray),bytes (r.foldl (fun a u=>a++(⟨#[32]⟩:BA)++u.text) x)=bytes x++r.flatMap (fun u=>32::bytes u.text)from h r _;intro r;induction r with
 |nil=>intro x;simp
 |cons u r ih=>intro x;rw[vz,ih,jA,aY,aY,gL,gL];rfl
theorem pl{a b:cY}{r:List cY}{Z:ByteArray}{u:UInt8}{y:List UInt8}(M:u≠32)(I:bytes Z=bytes a.text++32::u::y)(h:dE (a::b::r)=Z):
  (bytes b.text).head? = some u/\(a::b::r).any (fun t=>t.kind==5)=false/\(b::r).flatMap (fun u=>32::bytes u.text)=32::u::y:=by
 unfold dE at h;split at h
 ·rw[<-h]at I;exact absurd (jH List.length I) (by simp[bytes])
 ·rename_i N;have h:((b::r).foldl (fun a u=>a++(⟨#[32]⟩:BA)++u.text) a.text)=Z:=h;have J:=jH bytes h;rw[ss,I]at J;have D:=List.append_cancel_left J;refine⟨?_,by simpa using N,D⟩;rw[jA,gV]at D;injection D with _ D;cases hb:bytes b.text with
  |nil=>
   rw[hb]at D;cases r with
   |nil=>cases D
   |cons v r=>rw[jA]at D;injection D with D _;exact absurd D.symm M
  |cons v l=>rw[hb]at D;injection D with D _;rw[D];rfl
theorem At.two{c:Cx}{s:St}{a b:TK}{r:List TK}(h:At c s (a::b::r)):∃a' b' r',c.toks.drop s.at_=a'::b'::r'/\OK a'=a/\OK b'=b/\r'.map OK=r:=by
 have D:=h.2;cases I:c.toks.drop s.at_ with
 |nil=>rw[I]at D;cases D
 |cons a' l=>
  rw[I]at D;cases l with
  |nil=>cases D
  |cons b' l=>injection D with e1 D;injection D with e2 D;exact⟨a',b',l,rfl,e1,e2,D⟩
theorem Gp{t:TK}(h:Nk t=true):cO t ⟨#[114,97,110,103,101]⟩=false:=by
 unfold Nk at h;unfold cO;rw[gH]at h;rcases h with h|h
 ·(have:t.1=5:=by simpa using h);rw[this];rfl
 ·(have:t.2≠(⟨#[114,97,110,103,101]⟩:BA):=by simpa using h);rw[jD this,vk]
section
variable {c:Cx} {s:St}
theorem mY{a:TK}{r:List TK}(h:At c s (a::r))(I:cO a ⟨#[114,97,110,103,101]⟩=false)(J:a.1≠1):bI c s=none:=by
 (have I:aP c s ⟨#[114,97,110,103,101]⟩=false:=by rw[h.is];exact I);unfold bI;rw[I];simp only[gT,jY];split
 ·rename_i a' b' d' r' hl;have D:=h.2;rw[hl]at D;injection D with D _;(have D:a'.kind≠1:=by rw[<-D]at J;exact J);rw[gA (fun h=>D h.1),gA (fun h=>D h.1)]
 ·rfl
theorem Cw{a b:TK}{r:List TK}(h:At c s (a::b::r))(N:Nk a=true)(hb:a.1=1->FA b.2=true):bI c s=none:=by
 by_cases M:a.1=1
 ·(have O:aP c s ⟨#[114,97,110,103,101]⟩=false:=by rw[h.is];exact Gp N);obtain⟨a',b',r',U,e1,e2,e3⟩:=h.two;have hb:=hb M;unfold bI;rw[O,U];simp only[gT,jY];(have D:b'.text=b.2:=by rw[<-e2];rfl);have no:∀{q Z u y},u=58\/u=44->bytes Z=bytes a'.text++32::u::y->¬ dE (a'::b'::q)=Z:=by
   intro q Z u y J hZ hc;have:=(pl (by rcases J with rfl|rfl<;>decide) hZ hc).1;rw[D]at this;unfold FA at hb;unfold bytes at this;rw[this]at hb;rcases J with rfl|rfl
   ·exact absurd hb (by decide)
   ·exact absurd hb (by decide)
  cases r' with
  |nil=>rfl
  |cons d' r'=>
   show(if _ then _ else _)=_;rw[gA,gA]
   ·rintro⟨-,-,-,I⟩;exact no (q:=d'::r'.take 2) (u:=44) (y:=32::bytes d'.text++bytes ⟨#[32,58,61,32,114,97,110,103,101]⟩) (.inr rfl) (by rw[aY,aY,aY,gL,gL]<;>rfl) I
   ·rintro⟨-,-,I⟩;exact no (q:=[d']) (u:=58) (y:=bytes ⟨#[61,32,114,97,110,103,101]⟩) (.inl rfl) (by rw[aY]<;>rfl) I
 ·exact mY h (Gp N) M
theorem Cy{x:ByteArray}{t:TK}{r:List TK}(h:At c s ((1,x)::(6,(⟨#[58,61]⟩:BA))::t::r))(I:Nk t=true):bI c s=none:=by
 (have hr:aP c s ⟨#[114,97,110,103,101]⟩=false:=by rw[h.is];rfl);obtain⟨a',b',r',hl,e1,e2,M⟩:=h.two;cases r' with
 |nil=>cases M
 |cons d' r'=>
  injection M with M _;unfold bI;rw[hr,hl];simp only[gT,jY];have J:b'.text=(⟨#[58,61]⟩:BA):=jH Prod.snd e2;have N:d'.text=t.2:=jH Prod.snd M;have O:d'.kind=t.1:=jH Prod.fst M;rw[gA,gA]
  ·rintro⟨-,-,-,U⟩;have:=(pl (b:=b') (r:=d'::r'.take 2) (u:=44) (y:=32::bytes d'.text++bytes ⟨#[32,58,61,32,114,97,110,103,101]⟩) (by decide) (by rw[aY,aY,aY,gL,gL]<;>rfl) U).1;rw[J]at this;exact absurd this (by decide +kernel)
  ·rintro⟨-,-,U⟩;obtain⟨-,h5,D⟩:=pl (b:=b') (r:=[d']) (u:=58) (y:=bytes ⟨#[61,32,114,97,110,103,101]⟩) (by decide) (by rw[aY]<;>rfl) U;rw[jA,J]at D;have D:32::58::61::32::(bytes d'.text++[])=32::58::bytes ⟨#[61,32,114,97,110,103,101]⟩:=D;(have h7:bytes d'.text=bytes ⟨#[114,97,110,103,101]⟩:=by rw[kG]at D;injection D with _ D;injection D with _ D;(have e:bytes ⟨#[61,32,114,97,110,103,101]⟩=61::32::bytes ⟨#[114,97,110,103,101]⟩:=by decide +kernel);rw[e]at D;injection D with _ D;injection D with _ D);have h8:=cm h7;unfold Nk at I;rw[gH]at I;rcases I with I|I
   ·rw[<-O]at I;rw[List.any_eq_false]at h5;exact absurd I (by simpa using h5 d' (by simp))
   ·rw[<-N,h8]at I;exact absurd I (by decide)
theorem FC{x:ByteArray}{r:List TK}(h:At c s ((1,x)::(6,(⟨#[58,61]⟩:BA))::(2,(⟨#[114,97,110,103,101]⟩:BA))::r))(O:x≠(⟨#[95]⟩:BA)):bI c s=some (x,{ s with at_:=s.at_+3 }):=by
 (have U:aP c s ⟨#[114,97,110,103,101]⟩=false:=by rw[h.is];rfl);obtain⟨a',b',r',hl,N,M,D⟩:=h.two;cases r' with
 |nil=>cases D
 |cons d' r'=>injection D with D _;unfold bI;rw[U,hl];simp only[gT,jY];have J:a'.kind=1:=jH Prod.fst N;have I:a'.text=x:=jH Prod.snd N;have h3:b'.kind=6:=jH Prod.fst M;have h4:b'.text=(⟨#[58,61]⟩:BA):=jH Prod.snd M;have h5:d'.kind=2:=jH Prod.fst D;have h6:d'.text=(⟨#[114,97,110,103,101]⟩:BA):=jH Prod.snd D;(have key:dE [a',b',d']=a'.text++(⟨#[32,58,61,32,114,97,110,103,101]⟩:BA):=by unfold dE;rw[gA (by simp[J,h3,h5])];refine cm ?_;show bytes ([b',d'].foldl (fun a u=>a++(⟨#[32]⟩:BA)++u.text) a'.text)=_;rw[ss,aY];refine jH (bytes a'.text ++ ·) ?_;show(32::bytes b'.text)++((32::bytes d'.text)++[])=_;rw[h4,h6];decide +kernel);rw[gE ⟨J,by rw[I];exact O,key⟩,I]
theorem FD{x y:ByteArray}{r:List TK}(h:At c s ((1,x)::(6,(⟨#[44]⟩:BA))::(1,y)::(6,(⟨#[58,61]⟩:BA))::(2,(⟨#[114,97,110,103,101]⟩:BA))::r))(hy:y≠(⟨#[95]⟩:BA)):bI c s=some (x++(⟨#[44]⟩:BA)++y,{ s with at_:=s.at_+5 }):=by
 (have hr:aP c s ⟨#[114,97,110,103,101]⟩=false:=by rw[h.is];rfl);obtain⟨a',b',r',hl,e1,e2,J⟩:=h.two;cases r' with
 |nil=>cases J
 |cons d' r'=>
  injection J with J I;cases r' with
  |nil=>cases I
  |cons f' r'=>
   injection I with I D;cases r' with
   |nil=>cases D
   |cons g' r'=>injection D with D _;unfold bI;rw[hr,hl];simp only[gT,jY];have h1:a'.kind=1:=jH Prod.fst e1;have h2:a'.text=x:=jH Prod.snd e1;have h3:b'.kind=6:=jH Prod.fst e2;have h4:b'.text=(⟨#[44]⟩:BA):=jH Prod.snd e2;have U:d'.kind=1:=jH Prod.fst J;have O:d'.text=y:=jH Prod.snd J;have h7:f'.kind=6:=jH Prod.fst I;have h8:f'.text=(⟨#[58,61]⟩:BA):=jH Prod.snd I;have h9:g'.kind=2:=jH Prod.fst D;have N:g'.text=(⟨#[114,97,110,103,101]⟩:BA):=jH Prod.snd D;(have key:dE [a',b',d',f',g']=a'.text++(⟨#[32,44,32]⟩:BA)++d'.text++(⟨#[32,58,61,32,114,97,110,103,101]⟩:BA):=by unfold dE;rw[gA (by simp[h1,h3,U,h7,h9])];refine cm ?_;show bytes ([b',d',f',g'].foldl (fun a u=>a++(⟨#[32]⟩:BA)++u.text) a'.text)=_;rw[ss,aY,aY,aY,gL,gL];refine jH (bytes a'.text ++ ·) ?_;show(32::bytes b'.text)++((32::bytes d'.text)++((32::bytes f'.text)++((32::bytes g'.text)++[])))=_;rw[h4,h8,N];show 32::44::32::(bytes d'.text++(32::bytes ⟨#[58,61]⟩++(32::bytes ⟨#[114,97,110,103,101]⟩++[])))=32::44::32::(bytes d'.text++bytes ⟨#[32,58,61,32,114,97,110,103,101]⟩);refine jH (fun l=>(32:UInt8)::44::32::(bytes d'.text++l)) ?_;decide +kernel);rw[gA,gE ⟨h1,U,by rw[O];exact hy,key⟩,h2,O];rintro⟨-,-,M⟩;have:=(pl (b:=b') (r:=[d']) (u:=58) (y:=bytes ⟨#[61,32,114,97,110,103,101]⟩) (by decide) (by rw[aY]<;>rfl) M).1;rw[h4]at this;exact absurd this (by decide +kernel)
end
theorem su{c:Cx}{s:St}{L:List TK}(h:At c s L)(hS:Ay L):bI c s=none:=by
 cases L with
 |nil=>(have I:aP c s ⟨#[114,97,110,103,101]⟩=false:=by rw[h.is];rfl);have M:=h.2;unfold bI;rw[I,List.map_eq_nil_iff.1 M];rfl
 |cons t q=>
  obtain⟨N,M⟩:=hS t q rfl;by_cases O:t.1=1
  ·rcases M O with rfl|⟨u,q',rfl,U⟩
   ·(have I:aP c s ⟨#[114,97,110,103,101]⟩=false:=by rw[h.is];exact Gp N);have D:=h.2;cases J:c.toks.drop s.at_ with
    |nil=>rw[J]at D;cases D
    |cons a l=>rw[J]at D;injection D with _ D;unfold bI;rw[I,J,List.map_eq_nil_iff.1 D];rfl
   ·exact Cw h N fun _=>U
  ·exact mY h (Gp N) O
theorem im{F:dM}{n:Nd}(h:dK F n=true):26<=n.kind/\n.kind<=29:=by
 unfold dK at h;rw[gH,gH,gH]at h;rcases h with h|h|h|h
 ·obtain⟨x,l,a,rfl,_⟩:=aJ (by decide) h;exact⟨by show(26:Int)<=26;omega,by show(26:Int)<=29;omega⟩
 ·obtain⟨l,a,rfl,_⟩:=ch h;exact⟨by show(26:Int)<=27;omega,by show(27:Int)<=29;omega⟩
 ·obtain⟨x,l,a,rfl,_⟩:=aJ (by decide) h;exact⟨by show(26:Int)<=28;omega,by show(28:Int)<=29;omega⟩
 ·obtain⟨l,a,rfl,_⟩:=ch h;exact⟨by show(26:Int)<=29;omega,by show(29:Int)<=29;omega⟩
theorem yS{head:Bool}{t:TK}(h:iY head t)(J:cO t ⟨#[61]⟩=false)(I:cO t ⟨#[43,43]⟩=false)(D:cO t ⟨#[45,45]⟩=false):BE head t:=⟨h,J,I,D⟩
section
variable {c:Cx} {d:Nat} (hE:yP c d)
include hE
theorem Cz{n:Nd}(deep:Nat)(head:Bool)(D:dK (aj d) n=true):∃t q,aF (cr (ac d) n deep head)=t::q/\dJ t=true:=by
 unfold dK at D;rw[gH,gH,gH]at D;rcases D with D|D|D|D
 ·obtain⟨x,l,a,rfl,N,J⟩:=aJ (by decide) D;exact⟨(1,d8 (bytes x)),_,rfl,rfl⟩
 ·obtain⟨l,a,rfl,J⟩:=ch D;obtain⟨y,v,rfl,I,O⟩:=li J;obtain⟨t,q,e,M⟩:=(hE y deep head false I).beg;refine⟨t,q++aF (bc::cX 61::bc::(ac d).expr v deep head),?_,M⟩;show aF ((ac d).expr y deep head++_)=_;rw[aZ,e];rfl
 ·obtain⟨x,l,a,rfl,N,J⟩:=aJ (by decide) D;obtain⟨y,rfl,I⟩:=ep J;obtain⟨t,q,e,M⟩:=(hE y deep head false I).beg;refine⟨t,q++aF [pb x],?_,M⟩;show aF ((ac d).expr y deep head++_)=_;rw[aZ,e];rfl
 ·obtain⟨l,a,rfl,J⟩:=ch D;obtain⟨y,rfl,I⟩:=ep J;unfold oA at I;rw[gB]at I;exact(hE y deep head false I.2).beg
theorem PK{n:Nd}(deep:Nat)(head:Bool)(D:dK (aj d) n=true)(hk:n.kind≠29){s:St}{r:List TK}(h:At c s (aF (cr (ac d) n deep head)++r)):bI c s=none:=by
 unfold dK at D;rw[gH,gH,gH]at D;rcases D with D|D|D|D
 ·obtain⟨x,l,a,rfl,N,J⟩:=aJ (by decide) D;obtain⟨v,rfl,O⟩:=ep J;obtain⟨t,q,e,U⟩:=(hE v deep head false O).beg;have hS:=(hE v deep head false O).sec;(have M:aF (cr (ac d) (.mk 26 x [v] a) deep head)++r=(1,x)::(6,(⟨#[58,61]⟩:BA))::(aF ((ac d).expr v deep head)++r):=by show aF (iN x::bc::pb ⟨#[58,61]⟩::bc::(ac d).expr v deep head)++r=_;rw[lj];show(1,x)::(aF (pb ⟨#[58,61]⟩::bc::(ac d).expr v deep head)++r)=_;rw[ud];rfl);rw[M,e]at h;exact Cy (r:=q++r) h (hS t q e).1
 ·obtain⟨l,a,rfl,J⟩:=ch D;obtain⟨y,v,rfl,I,O⟩:=li J;obtain⟨t,q,e,U⟩:=(hE y deep head false I).beg;(have M:aF (cr (ac d) (.mk 27 ⟨#[]⟩ [y,v] a) deep head)++r=aF ((ac d).expr y deep head)++((6,(⟨#[61]⟩:BA))::(aF ((ac d).expr v deep head)++r)):=by show aF ((ac d).expr y deep head++(bc::cX 61::bc::(ac d).expr v deep head))++r=_;rw[aZ,gL];rfl);rw[M]at h;exact su h ((hE y deep head false I).sec.app (by rw[e];simp) (by decide +kernel) _)
 ·obtain⟨x,l,a,rfl,N,J⟩:=aJ (by decide) D;obtain⟨y,rfl,I⟩:=ep J;unfold pu at N;rw[gH,gC,gC]at N;obtain⟨t,q,e,U⟩:=(hE y deep head false I).beg;(have M:aF (cr (ac d) (.mk 28 x [y] a) deep head)++r=aF ((ac d).expr y deep head)++((6,x)::r):=by show aF ((ac d).expr y deep head++[pb x])++r=_;rw[aZ,ud,gL];rfl);rw[M]at h;exact su h ((hE y deep head false I).sec.app (by rw[e];simp) (by rcases N with rfl|rfl<;>decide +kernel) _)
 ·obtain⟨l,a,rfl,_⟩:=ch D;exact absurd rfl hk
theorem Nu{p:Nd}(deep:Nat)(I:dK (aj d) p=true)(D:p.kind≠26){G:Nat}{s:St}{r:List TK}(h:At c s (aF (eS (ac d) p deep true)++r))(O:s.part = -1)(U:Fu c 2 G s)(hs:BE true (et r)):oL c s r p (-1) (cZ (mJ (cF G)) c s):=by rw[<-pe _ (im I)]at h;obtain⟨x,s1,g1,_,g3⟩:=Ct hE deep true I G { s with head:=true } r h rfl O U hs;obtain⟨n',J,N,p2,p3,p4,M⟩:=g3 (av c { s with head:=true });(have e:mJ (cF G) c { s with head:=true }=.ok n' J:=by unfold mJ fO;rw[g1,bH.bind_ok,N,bH.bind_ok,gA (by rw[p2.kind];exact D)]);exact⟨n',_,ws e,p2,p3,rfl,M⟩
theorem IU{i:Nd}(deep:Nat)(I:dK (aj d) i=true)(D:i.kind≠29){G:Nat}{s:St}{r:List TK}(h:At c s (aF (eS (ac d) i deep true)++r))(O:s.part = -1)(U:Fu c 2 G s)(hs:BE true (et r)):oL c s r i (-1) (cZ (eW (cF G)) c s):=by rw[<-pe _ (im I)]at h;obtain⟨x,s1,g1,g2,g3⟩:=Ct hE deep true I G { s with head:=true } r h rfl O U hs;obtain⟨n',J,N,p2,p3,p4,M⟩:=g3 (av c { s with head:=true });(have e:eW (cF G) c { s with head:=true }=.ok n' J:=by unfold eW;rw[g1,bH.bind_ok,gA (by rw[g2 D];decide),N]);exact⟨n',_,ws e,p2,p3,rfl,M⟩
theorem Nv{x:Nd}(deep:Nat)(M:(aj d).expr x=true){G:Nat}{s:St}{r:List TK}(h:At c s (aF ((ac d).expr x deep true)++((6,(⟨#[123]⟩:BA))::r)))(J:s.part = -1)(N:Fu c 2 G s):oL c s ((6,(⟨#[123]⟩:BA))::r) x (-1) (cZ (eW (cF G)) c s):=by obtain⟨n',I,e,U,D,g4,O⟩:=pk hE deep M (s:={ s with head:=true }) h rfl J N pj;(have e:eW (cF G) c { s with head:=true }=.ok n' I:=by unfold eW;rw[e,bH.bind_ok,gE (D.yes (by decide))]);exact⟨n',_,ws e,U,D,rfl,O⟩
theorem Eg{e p:Nd}(deep:Nat)(N:aE e=true\/(aj d).expr e=true)(J:aE p=true\/(dK (aj d) p=true/\p.kind≠26))(a':Nd){G:Nat}{s:St}{r:List TK}
  (h:At c s ((6,(⟨#[59]⟩:BA))::(aF (if e.kind≠0 then(ac d).expr e deep true else[])++((6,(⟨#[59]⟩:BA))::(aF (if p.kind≠0 then eS (ac d) p deep true++[bc]else[])++((6,(⟨#[123]⟩:BA))::r))))))(hp:s.part = -1)(hf:Fu c 2 G s):
  ∃e' p' s',rO (cF G) a' c s=.ok (a',e',p') s'/\cA e' e/\cA p' p/\At c s' ((6,(⟨#[123]⟩:BA))::r)/\s'.head=s.head/\s'.part = -1:=by
 unfold rO;rw[fl h ⟨#[59]⟩ (by decide),bH.bind_ok];have U:∃e' D,(if aP c (adv s) ⟨#[59]⟩then .ok bU (adv s)else cZ (cF G).expr c (adv s))=bH.ok e' D/\cA e' e/\At c D ((6,(⟨#[59]⟩:BA))::(aF (if p.kind≠0 then eS (ac d) p deep true++[bc]else[])++((6,(⟨#[123]⟩:BA))::r)))/\D.head=s.head/\D.part = -1:=by
  have O:=h.adv;rcases N with N|N
  ·obtain⟨a,rfl⟩:=bP N;have O:At c (adv s) ((6,(⟨#[59]⟩:BA))::(aF (if p.kind≠0 then eS (ac d) p deep true++[bc]else[])++((6,(⟨#[123]⟩:BA))::r))):=O;rw[gE (O.yes (by decide))];exact⟨_,_,rfl,fu a,O,rfl,hp⟩
  ·rw[gE (nD hE N)]at O;obtain⟨t,q,e1,ht⟩:=(hE e deep true false N).beg;(have M:aP c (adv s) ⟨#[59]⟩=false:=by rw[O.is,e1];exact bS ht _ (by decide) (by decide) (by decide) (by decide) (by decide));rw[gA (by rw[M];decide)];obtain⟨e',D,g1,g2,g3,g4,g5⟩:=yR hE deep N (G:=G) O hp (hf.le (jE _)) (BD true);exact⟨e',D,g1,g2,g3,g4,g5⟩
 obtain⟨e',D,g1,g2,g3,g4,g5⟩:=U;rw[g1,bH.bind_ok];unfold pN;rw[fl g3 ⟨#[59]⟩ (by decide),bH.bind_ok];have ga:Fu c 2 G (adv D):=hf.le (by have l1:=h.len;have l2:=g3.adv.len;have l3:(adv D).at_=D.at_+1:=rfl;simp only[gM,gJ]at l1 l2;omega);have I:=g3.adv;rcases J with J|⟨J,gb⟩
 ·obtain⟨a,rfl⟩:=bP J;have I:At c (adv D) ((6,(⟨#[123]⟩:BA))::r):=I;rw[gE (I.yes (by decide)),bH.bind_ok];exact⟨_,_,_,rfl,g2,fu a,I,g4,g5⟩
 ·rw[gE (by have:=im J;omega),aZ,gL]at I;have I:At c (adv D) (aF (eS (ac d) p deep true)++((6,(⟨#[123]⟩:BA))::r)):=I;obtain⟨t,q,e1,ht⟩:=Cz hE deep true J;(have M:aP c (adv D) ⟨#[123]⟩=false:=by rw[I.is,<-pe _ (im J),e1];exact bS ht _ (by decide) (by decide) (by decide) (by decide) (by decide));rw[gA (by rw[M];decide)];obtain⟨p',s4,k1,k2,k3,k4,k5⟩:=Nu hE deep J gb I g5 ga (show BE true (6,(⟨#[123]⟩:BA))from yS pj (by decide) (by decide) (by decide));rw[k1,bH.bind_ok];exact⟨_,_,_,rfl,g2,k2,k3,k4.trans g4,k5⟩
theorem PL(hB:Ee c d){n:Nd}(deep:Nat)(hn:fc 31 [dv (dv aE (ia (aj d))) (dv (mF (aj d)) (mE (aj d))),dv aE (aj d).expr,dv (dv aE (mF (aj d))) (dv (mE (aj d)) (mw (aj d))),(aj d).block] n=true):EC c (fun G=>rV (cF G)) 2 (aF (cr (ac d) n deep false)) n:=by
 intro G s r h hh hp hf hr;obtain⟨l,a,rfl,h0⟩:=ch hn;obtain⟨i,e,p,b,rfl,D,J,hq,hb⟩:=Pz h0;have D:aE i=true\/(dK (aj d) i=true/\i.kind≠29):=by
  unfold dv at D;rw[gH,gH,gH]at D;rcases D with(D|D)|(D|D)
  ·exact .inl D
  ·exact .inr ⟨by unfold dK;rw[D];rfl,by obtain⟨x,l,a,rfl,_⟩:=aJ (by decide) D;show ¬ (26:Int)=29;omega⟩
  ·exact .inr ⟨by unfold dK;rw[D,kP,gY],by obtain⟨l,a,rfl,_⟩:=ch D;show ¬ (27:Int)=29;omega⟩
  ·exact .inr ⟨by unfold dK;rw[D,kP,gY,gY],by obtain⟨x,l,a,rfl,_⟩:=aJ (by decide) D;show ¬ (28:Int)=29;omega⟩
 have hq:aE p=true\/(dK (aj d) p=true/\p.kind≠26):=by
  unfold dv at hq;rw[gH,gH,gH]at hq;rcases hq with(D|D)|(D|D)
  ·exact .inl D
  ·exact .inr ⟨by unfold dK;rw[D,kP,gY],by obtain⟨l,a,rfl,_⟩:=ch D;show ¬ (27:Int)=26;omega⟩
  ·exact .inr ⟨by unfold dK;rw[D,kP,gY,gY],by obtain⟨x,l,a,rfl,_⟩:=aJ (by decide) D;show ¬ (28:Int)=26;omega⟩
  ·exact .inr ⟨by unfold dK;rw[D,gY,gY,gY],by obtain⟨l,a,rfl,_⟩:=ch D;show ¬ (29:Int)=26;omega⟩
 have J:aE e=true\/(aj d).expr e=true:=by
  unfold dv at J
  rwa [gH]at J
 obtain⟨lb,eb,gj⟩:=hB b deep hb;(have e1:aF (cr (ac d) (.mk 31 ⟨#[]⟩ [i,e,p,b] a) deep false)++r=(2,(⟨#[102,111,114]⟩:BA))::(aF (si (ac d) (.mk 31 ⟨#[]⟩ [i,e,p,b] a) deep)++((6,(⟨#[123]⟩:BA))::(lb++r))):=by show aF (iy ⟨#[102,111,114]⟩::bc::(si (ac d) (.mk 31 ⟨#[]⟩ [i,e,p,b] a) deep++(ac d).block b deep))++r=_;show(2,d8 (bytes ⟨#[102,111,114]⟩))::(aF (si (ac d) (.mk 31 ⟨#[]⟩ [i,e,p,b] a) deep++(ac d).block b deep)++r)=_;rw[cT,aZ,eb,gL,gV]);rw[e1]at h;obtain⟨f1,f2⟩:=hf.adv h;show oL c s r _ (-1) (rV (cF G) c s);unfold rV;rw[fl h ⟨#[102,111,114]⟩ (by decide),bH.bind_ok];have gb:=h.len;have I:=h.adv;have gk:(adv s).at_=s.at_+1:=rfl;have key:bI c (adv s)=none/\∃i' e' p' M,(if aP c (adv s) ⟨#[123]⟩then .ok (bU,bU,bU) (adv s)else nK (cF G) c (adv s))=bH.ok (i',e',p') M/\cA i' i/\cA e' e/\cA p' p/\At c M ((6,(⟨#[123]⟩:BA))::(lb++r))/\M.head=s.head/\M.part = -1:=by
  unfold si at I;have k0:aV (.mk 31 ⟨#[]⟩ [i,e,p,b] a) 0=i:=rfl;have k1:aV (.mk 31 ⟨#[]⟩ [i,e,p,b] a) 1=e:=rfl;have k2:aV (.mk 31 ⟨#[]⟩ [i,e,p,b] a) 2=p:=rfl;rw[k0,k1,k2]at I;split at I
  ·rename_i hc;have ee:aF ((if i.kind≠0 then eS (ac d) i deep true else[])++(cX 59::bc::((if e.kind≠0 then(ac d).expr e deep true else[])++(cX 59::bc::(if p.kind≠0 then eS (ac d) p deep true++[bc]else[])))))++((6,(⟨#[123]⟩:BA))::(lb++r)) =
     aF (if i.kind≠0 then eS (ac d) i deep true else[])++((6,(⟨#[59]⟩:BA))::(aF (if e.kind≠0 then(ac d).expr e deep true else[])++((6,(⟨#[59]⟩:BA))::(aF (if p.kind≠0 then eS (ac d) p deep true++[bc]else[])++((6,(⟨#[123]⟩:BA))::(lb++r)))))):=by rw[aZ];show(_++((6,d8 [59])::aF (_++_)))++_=_;rw[aZ];show(_++((6,d8 [59])::(_++((6,d8 [59])::aF _))))++_=_;rw[gL,gV,gL,gV];rfl
   rw[ee]at I;rcases D with D|⟨D,ga⟩
   ·obtain⟨ai,rfl⟩:=bP D;have I:At c (adv s) ((6,(⟨#[59]⟩:BA))::(aF (if e.kind≠0 then(ac d).expr e deep true else[])++((6,(⟨#[59]⟩:BA))::(aF (if p.kind≠0 then eS (ac d) p deep true++[bc]else[])++((6,(⟨#[123]⟩:BA))::(lb++r)))))):=I;refine⟨mY I (by decide) (by decide),?_⟩;obtain⟨e',p',M,g1,O,g3,g4,g5,g6⟩:=Eg hE deep J hq bU (G:=G) I hp (f2.more (by omega));rw[gA (I.no (by decide)),sU,gE (I.yes (by decide))];exact⟨bU,e',p',M,g1,fu ai,O,g3,g4,g5,g6⟩
   ·rw[gE (by have:=im D;omega)]at I;have U:=I;rw[<-pe _ (im D)]at U;refine⟨PK hE deep true D ga U,?_⟩;obtain⟨t,q,e2,ht⟩:=Cz hE deep true D;have N:∀x,x=(⟨#[123]⟩:BA)\/x=(⟨#[59]⟩:BA)->aP c (adv s) x=false:=by
     rintro x(rfl|rfl)
     ·rw[U.is,e2];exact bS ht _ (by decide) (by decide) (by decide) (by decide) (by decide)
     ·rw[U.is,e2];exact bS ht _ (by decide) (by decide) (by decide) (by decide) (by decide)
    obtain⟨i',M,g1,O,g3,g4,g5⟩:=IU hE deep D ga (G:=G) I hp (f2.more (by omega)) (show BE true (6,(⟨#[59]⟩:BA))from yS (BD true) (by decide) (by decide) (by decide));have gi:Fu c 2 G M:=hf.le (by have l1:=fT I g3;omega);obtain⟨e',p',s3,k1,k2,k3,k4,k5,k6⟩:=Eg hE deep J hq i' (G:=G) g3 g5 gi;have gl:=im D;rw[gA (by rw[N _ (.inl rfl)];decide),sU,gA (by rw[N _ (.inr rfl)];decide),g1,bH.bind_ok,gA (by rw[O.kind];exact ga),gA (by rw[O.kind];omega)];exact⟨i',e',p',s3,k1,O,k2,k3,k4,k5.trans g4,k6⟩
  ·rename_i hc;have gh:aE i=true:=D.resolve_right fun h=>hc (.inl (by have:=im h.1;omega));have ge:aE p=true:=hq.resolve_right fun h=>hc (.inr (by have:=im h.1;omega));obtain⟨ai,rfl⟩:=bP gh;obtain⟨ap,rfl⟩:=bP ge;rcases J with J|J
   ·obtain⟨ae,rfl⟩:=bP J;have I:At c (adv s) ((6,(⟨#[123]⟩:BA))::(lb++r)):=I;refine⟨mY I (by decide) (by decide),?_⟩;rw[gE (I.yes (by decide))];exact⟨_,_,_,_,rfl,fu ai,fu ae,fu ap,I,rfl,hp⟩
   ·rw[gE (nD hE J),aZ,gL]at I;have I:At c (adv s) (aF ((ac d).expr e deep true)++((6,(⟨#[123]⟩:BA))::(lb++r))):=I;obtain⟨t,q,e2,ht⟩:=(hE e deep true false J).beg;refine⟨su I ((hE e deep true false J).sec.app (by rw[e2];simp) (by decide +kernel) _),?_⟩;have N:∀x,x=(⟨#[123]⟩:BA)\/x=(⟨#[59]⟩:BA)->aP c (adv s) x=false:=by
     rintro x(rfl|rfl)
     ·rw[I.is,e2];exact bS ht _ (by decide) (by decide) (by decide) (by decide) (by decide)
     ·rw[I.is,e2];exact bS ht _ (by decide) (by decide) (by decide) (by decide) (by decide)
    obtain⟨e',M,g1,O,g3,g4,g5⟩:=Nv hE deep J (G:=G) I hp (f2.more (by omega));have gm:=tF hE J;rw[gA (by rw[N _ (.inl rfl)];decide),sU,gA (by rw[N _ (.inr rfl)];decide),g1,bH.bind_ok,gA (by rw[O.kind];omega),gE (by rw[O.kind];omega)];exact⟨_,_,_,_,rfl,fu ai,O,fu ap,g3,g4,g5⟩
 obtain⟨gd,i',e',p',M,g1,O,g3,g4,g5,g6,g7⟩:=key;rw[gd];show oL c s r _ (-1) ((if aP c (adv s) ⟨#[123]⟩then .ok (bU,bU,bU) (adv s)else nK (cF G) c (adv s)).bind fun h M=>(bE (cF G) c M).bind fun b s3=>.ok (.mk 31 ⟨#[]⟩ [h.1,h.2.1,h.2.2,b] (av c s)) s3);rw[g1,bH.bind_ok];have gg:=g5.len;obtain⟨b',s3,q1,q2,q3,q4,q5⟩:=gj G M _ g5 g7 (by simp only[gM,gJ]at gb gg;unfold Fu at *;omega);rw[q1,bH.bind_ok];exact⟨_,s3,rfl,cA.mk (bm.cons O (bm.cons g3 (bm.cons g4 (bm.one q2)))) _ _,q3,q4.trans g6,q5⟩
theorem IV(hB:Ee c d){n:Nd}(deep:Nat)(hn:fc 32 [(aj d).expr,(aj d).block] (aG ew n)=true):EC c (fun G=>rV (cF G)) 2 (aF (cr (ac d) n deep false)) n:=by
 intro G s r h hh hp hf hr;obtain⟨x,l,a,rfl,hx,h0⟩:=aJ (by decide) hn;obtain⟨e,b,rfl,he,hb⟩:=li h0;obtain⟨lb,eb,gg⟩:=hB b deep hb;(have e1:aF (cr (ac d) (.mk 32 x [e,b] a) deep false)++r=(2,(⟨#[102,111,114]⟩:BA))::(aF (ij x)++((2,(⟨#[114,97,110,103,101]⟩:BA))::(aF ((ac d).expr e deep true)++((6,(⟨#[123]⟩:BA))::(lb++r))))):=by show aF (iy ⟨#[102,111,114]⟩::bc::(ij x++(iy ⟨#[114,97,110,103,101]⟩::bc::((ac d).expr e deep true++(bc::(ac d).block b deep)))))++r=_;show(2,d8 (bytes ⟨#[102,111,114]⟩))::(aF (ij x++(iy ⟨#[114,97,110,103,101]⟩::bc::((ac d).expr e deep true++(bc::(ac d).block b deep))))++r)=_;rw[cT,aZ,gL];show _::(_++((2,d8 (bytes ⟨#[114,97,110,103,101]⟩))::(aF ((ac d).expr e deep true++(bc::(ac d).block b deep))++r)))=_;rw[cT,aZ,gL];show _::(_++(_::(_++(aF ((ac d).block b deep)++r))))=_;rw[eb];rfl);rw[e1]at h;obtain⟨f1,f2⟩:=hf.adv h;show oL c s r _ (-1) (rV (cF G) c s);unfold rV;rw[fl h ⟨#[102,111,114]⟩ (by decide),bH.bind_ok];have J:=h.len;have D:=h.adv;have key:∃U,bI c (adv s)=some (x,U)/\At c U (aF ((ac d).expr e deep true)++((6,(⟨#[123]⟩:BA))::(lb++r)))/\U.head=s.head/\U.part = -1:=by
  by_cases M:x=(⟨#[]⟩:BA)
  ·subst M;have D:At c (adv s) ((2,(⟨#[114,97,110,103,101]⟩:BA))::(aF ((ac d).expr e deep true)++((6,(⟨#[123]⟩:BA))::(lb++r)))):=D;refine⟨adv (adv s),?_,D.adv,rfl,hp⟩;unfold bI;rw[gE (D.yes (by decide))]
  ·unfold ew at hx;rw[jD M,vw,gH,gB,gB,gB]at hx;unfold ij at D;rw[gA M]at D;rcases hx with⟨hc,I,N⟩|⟨hc,I⟩
   ·rw[gE hc]at D;have D:At c (adv s) ((1,d8 (iJ x).1)::(6,(⟨#[44]⟩:BA))::(1,d8 (iJ x).2.1)::(6,(⟨#[58,61]⟩:BA))::(2,(⟨#[114,97,110,103,101]⟩:BA))::(aF ((ac d).expr e deep true)++((6,(⟨#[123]⟩:BA))::(lb++r)))):=D;unfold ev at N;rw[gB,gC]at N;have O:=FD D N.2;(have ex:d8 (iJ x).1++(⟨#[44]⟩:BA)++d8 (iJ x).2.1=x:=by refine cm ?_;rw[aY,aY,bO,bO,gL];exact(Cv x.data.toList hc).symm);rw[ex]at O;exact⟨_,O,D.adv.adv.adv.adv.adv,rfl,hp⟩
   ·(have hc:(iJ x).2.2=false:=by simpa using hc);rw[gA (by rw[hc];decide)]at D;have D:At c (adv s) ((1,d8 (iJ x).1)::(6,(⟨#[58,61]⟩:BA))::(2,(⟨#[114,97,110,103,101]⟩:BA))::(aF ((ac d).expr e deep true)++((6,(⟨#[123]⟩:BA))::(lb++r)))):=D;unfold ev at I;rw[gB,gC]at I;have O:=FC D I.2;(have ex:d8 (iJ x).1=x:=by refine cm ?_;rw[bO];exact FB x.data.toList hc);rw[ex]at O;exact⟨_,O,D.adv.adv.adv,rfl,hp⟩
 obtain⟨U,O,h2,ge,ga⟩:=key;rw[O];show oL c s r _ (-1) ((cZ (cF G).expr c U).bind fun e s3=>(bE (cF G) c s3).bind fun b s4=>.ok (.mk 32 x [e,b] (av c s)) s4);have gd:=h2.len;obtain⟨e',s3,g1,g2,g3,g4,g5⟩:=yR hE deep he (G:=G) h2 ga (by simp only[gM,gJ]at J gd;unfold Fu at *;omega) pj;rw[g1,bH.bind_ok];have gb:=g3.len;obtain⟨b',s4,q1,q2,q3,q4,q5⟩:=gg G s3 _ g3 g5 (by simp only[gM,gJ]at J gb;unfold Fu at *;omega);rw[q1,bH.bind_ok];exact⟨_,s4,rfl,cA.mk (bm.cons g2 (bm.one q2)) _ _,q3,q4.trans (g4.trans ge),q5⟩
end
end
end Go.Proofs.YtiebcdeafofgdaaGreatDoor
