/-
  Parts of the proof: Psc Pwd Pwe Pwa Pwb Pwh. By an AI agent.
-/
import Derived.Test.YtiebcdeafofgdaaGreatDoorJ43
import Derived.Test.YtiebcdeafofgdaaGreatDoorJ42
import Derived.Test.YtiebcdeafofgdaaGreatDoorJ35
import Derived.Test.YtiebcdeafofgdaaGreatDoorJ34
import Derived.Test.YtiebcdeafofgdaaGreatDoorJ09
import Derived.Test.YtiebcdeafofgdaaGreatDoorJ00
import Derived.BigQuiet
open Go.Proofs.Tryz
set_option maxRecDepth 100000
set_option maxHeartbeats 8000000
namespace Go.Proofs.YtiebcdeafofgdaaGreatDoor
section
open Go.Lib
def FN:List UInt8->Bool
 |[a]=>Ib a 10&&nd [a]
 |[a,b]=>Tu a b&&(nd [a]&&a != 47)
 |_=>false
theorem PN{x:List UInt8}(h:FN x=true)(r:List UInt8):ft (10::r) 6 x:=by
 unfold FN at h;split at h
 ·rw[gB]at h;exact .one h.1 h.2 fun _=>⟨by decide,by decide⟩
 ·rw[gB,gB]at h;exact .two h.1 h.2.1 (by simpa using h.2.2)
 ·cases h
theorem RA:∀(L:List (List It)),(∀l∈L,Pc l)->∀e r,lK r->bj e (y5 L++[bS 41]) r
 |[],_,_,_,D=>nH (by decide) (stp_ne D) trivial
 |x::L,h,e,r,D=>by(have I:y5 (x::L)++[bS 41]=x++(bS 44::.gap 10::(y5 L++[bS 41])):=by show((x++[bS 44,.gap 10])++y5 L)++[bS 41]=_;simp);rw[I];refine bj.app ((h x (by simp)).ok e _ (lK.sg (a:=44) (by decide) _)) (nH (by decide) ?_ ⟨.inr (.inr ⟨rfl,by decide +kernel⟩),RA L (fun l hl=>h l (by simp[hl])) _ r D⟩);rw[cD];show(10::_)++_≠[];simp
theorem Tv{L:List (List It)}(h:∀l∈L,Pc l):Pc (bS 40::(y5 L++[bS 41])):=by
 refine⟨fun e r hr=>nH (by decide) ?_ (RA L h _ r hr),fun e=>?_,⟨40,_,rfl⟩⟩
 ·rw[iR];show(_++(41::_))++_≠[];simp
 ·show oF (nB 6 [40]) (y5 L++[bS 41])=true;rw[fh];exact Bn (.inl rfl)
theorem SE{t:ByteArray}{w:List It}{q:List UInt8}(I:t=(⟨#[45]⟩:BA)\/t=(⟨#[33]⟩:BA))(D:Pc w)(eb:fX w=40::q):Pc (iV t::w):=by
 rcases I with rfl|rfl
 ·refine⟨fun e r hr=>⟨?_,D.ok _ r hr⟩,fun e=>D.fin _,⟨45,_,rfl⟩⟩;rw[eb];exact .one (a:=45) (Dc 40 ⟨by decide,by decide,by decide⟩) (by decide +kernel) fun h=>absurd h (by decide)
 ·refine⟨fun e r hr=>⟨?_,D.ok _ r hr⟩,fun e=>D.fin _,⟨33,_,rfl⟩⟩;rw[eb];exact .one (a:=33) (MY 40 (by decide)) (by decide +kernel) fun h=>absurd h (by decide)
theorem SF(z:List It):fX (my z)=40::(fX (z++[bS 41])):=by unfold my;rw[cD];rfl
theorem SG{t:ByteArray}{x y:List It}(J:cU t=true)(U:Pc x)(I:Pc y):Pc (x++(iV t::.gap 10::y)):=by
 have N:FN (bytes t)=true:=fO J (fun y=>FN (bytes y)=true) (by decide +kernel);have O:nB 6 (bytes t)=false:=fO J (fun y=>nB 6 (bytes y)=false) (by decide +kernel);have D:∀r,lK (bytes t++r):=by
  have hb:((bytes t).head?.all fun b =>!(aL (b.toNat:Int)))=true/\bytes t≠[]:=fO J (fun y=>((bytes y).head?.all fun b =>!(aL (b.toNat:Int)))=true/\bytes y≠[]) (by decide +kernel);intro r;cases I:bytes t with
  |nil=>exact absurd I hb.2
  |cons b q=>have h:=hb.1;rw[I]at h;exact⟨b,q++r,rfl,by simpa using h⟩
 (have M:Pc (iV t::.gap 10::y):=by refine⟨fun e r M=>⟨PN N _,.inr (.inr ⟨rfl,O⟩),I.ok _ r M⟩,fun e=>I.fin _,?_⟩;rw[cD];obtain⟨b,q,e,_⟩:=D [];rw[kG]at e;show ∃b q,bytes t++_=b::q;rw[e];exact⟨b,_,rfl⟩);refine U.app M fun r _=>?_;rw[cD,gO];exact D _
theorem SH{t:ByteArray}{w:List It}(D:t=(⟨#[45]⟩:BA)\/t=(⟨#[33]⟩:BA))(I:Gd w):Gd (iV t::w):=Gd.cons (by rcases D with rfl|rfl<;>decide +kernel) I
theorem SI{t:ByteArray}{x y:List It}(I:cU t=true)(M:Gd x)(J:Gd y):Gd (x++(iV t::.gap 10::y)):=by have D:mP (iV t)=true:=fO I (fun y=>mP (iV y)=true) (by decide +kernel);exact M.app (Gd.cons D (Gd.cons (by decide) J))
theorem Tw{x:List It}{L:List (List It)}(D:Gd x)(I:∀z∈L,Gd z):Gd (x++(bS 40::(y5 L++[bS 41]))):=by refine D.app (Gd.cons (by decide +kernel) (Gd.app ?_ (Gd.c1 (by decide +kernel))));show Gd (L.flatMap fun x=>x++[bS 44,.gap 10]);exact Gd.flat fun z hz=>(I z hz).app (Gd.cons (by decide +kernel) (Gd.c1 (by decide)))
theorem SJ{t:ByteArray}{x:List It}(D:aE t=true)(I:Gd x):Gd (x++[bS 46,mK t]):=I.app (Gd.cons (by decide +kernel) (Gd.c1 (lm D)))
theorem RB{d:Nat}{t:ByteArray}{l:List Nd}{a:Int}(I:aA (aa d) (.mk 19 t l a)=true):(t=(⟨#[45]⟩:BA)\/t=(⟨#[33]⟩:BA))/\∃y,l=[y]/\(aa d).expr y=true:=by have I:cA 19 [(aa d).expr] (au dW (.mk 19 t l a))=true:=I;obtain⟨x,l',a',e,D,M⟩:=aN (by decide) I;injection e with _ e1 e2 _;subst e1 e2;obtain⟨y,rfl,J⟩:=d8 M;unfold dW at D;rw[gI,gE,gE]at D;exact⟨D,y,rfl,J⟩
theorem RC{d:Nat}{t:ByteArray}{l:List Nd}{a:Int}(D:aA (aa d) (.mk 20 t l a)=true):cU t=true/\∃y z,l=[y,z]/\(aa d).expr y=true/\(aa d).expr z=true:=by have D:cA 20 [(aa d).expr,(aa d).expr] (au cU (.mk 20 t l a))=true:=D;obtain⟨x,l',a',e,M,N⟩:=aN (by decide) D;injection e with _ e1 e2 _;subst e1 e2;obtain⟨y,z,rfl,J,I⟩:=ll N;exact⟨M,y,z,rfl,J,I⟩
theorem RD{d:Nat}{t:ByteArray}{l:List Nd}{a:Int}(D:aA (aa d) (.mk 23 t l a)=true):aE t=true/\∃y,l=[y]/\(aa d).expr y=true:=by have D:cA 23 [(aa d).expr] (au aE (.mk 23 t l a))=true:=D;obtain⟨x,l',a',e,J,M⟩:=aN (by decide) D;injection e with _ e1 e2 _;subst e1 e2;obtain⟨y,rfl,I⟩:=d8 M;exact⟨J,y,rfl,I⟩
theorem Nl:∀(d:Nat)(n:Nd),(aa d).expr n=true->Pc (bh d n)
 |0,_,h=>by cases h
 | d+1,n,U=>by
  have N:aA (aa d) n=true:=U;have gg:=((M8 (d+1)).1 n 0 false U).1;have O:=Nl d;obtain⟨k,t,l,a⟩:=n;unfold bh;by_cases ge:k=19
  ·subst ge;rw[gF (show(Nd.mk 19 t l a).kind=19 from rfl)];obtain⟨I,y,rfl,J⟩:=RB N;have hp:=(mx (O y J)).1;show Pc (iV t::my (bh d y));exact SE I hp (SF _)
  rw[d5 (show ¬ (Nd.mk k t l a).kind=19 from ge)];by_cases gd:k=20
  ·subst gd;rw[gF (show(Nd.mk 20 t l a).kind=20 from rfl)];obtain⟨I,y,z,rfl,J,hz⟩:=RC N;have hp:=(mx (O y J)).1;have hq:=(mx (O z hz)).1;show Pc (my (bh d y)++(iV t::.gap 10::my (bh d z)));exact SG I hp hq
  rw[d5 (show ¬ (Nd.mk k t l a).kind=20 from gd)];by_cases gb:k=21
  ·subst gb;rw[gF (show(Nd.mk 21 t l a).kind=21 from rfl)];have N:(decide (t=(⟨#[]⟩:BA))&&(decide (0<l.length)&&l.all (aa d).expr))=true:=N;rw[gB,gB,gE,gE]at N;obtain⟨ht,hl,D⟩:=N;cases l with
   |nil=>exact absurd hl (by show ¬ 0<0;omega)
   |cons f args=>rw[kz,gB]at D;show Pc (my (bh d f)++(bS 40::(y5 (args.map (bh d))++[bS 41])));refine(mx (O f D.1)).1.app (Tv fun y J=>?_) fun r _=>lK.sg (a:=40) (by decide) _;obtain⟨x,I,rfl⟩:=List.mem_map.1 J;exact O x (List.all_eq_true.1 D.2 x I)
  rw[d5 (show ¬ (Nd.mk k t l a).kind=21 from gb)];by_cases ga:k=23
  ·subst ga;rw[gF (show(Nd.mk 23 t l a).kind=23 from rfl)];obtain⟨I,y,rfl,J⟩:=RD N;have M:=Bp I;show Pc (my (bh d y)++[bS 46,mK t]);refine(mx (O y J)).1.app ⟨fun e r hr=>⟨?_,M.ok _ r hr⟩,fun e=>M.fin (nB 6 [46]),⟨46,_,rfl⟩⟩ fun r _=>⟨46,_,rfl,by decide +kernel⟩;obtain⟨b,q,e⟩:=M.hd;show ft (fX [mK t]++r) 6 [46];rw[e];have hw:aL (b.toNat:Int)=true:=by
    have h2:=(ot I).1;have e2:bytes t=b::q:=by
     have e3:bytes t++[]=b::q:=e
     rwa [kG]at e3
    rw[e2]at h2;unfold mM at h2;rw[gB]at h2;unfold aL;rw[h2.1];rfl
   exact .one (MZ b hw) (by decide +kernel) fun h=>absurd h (by decide)
  rw[d5 (show ¬ (Nd.mk k t l a).kind=23 from ga)];exact gg
theorem Dh{z:List It}(h:Gd z):Gd (my z):=Gd.cons (by decide +kernel) (h.app (Gd.c1 (by decide +kernel)))
theorem Nm:∀(d:Nat)(n:Nd),(aa d).expr n=true->Gd (bh d n)
 |0,_,h=>by cases h
 | d+1,n,O=>by
  have J:aA (aa d) n=true:=O;have ge:=(Nf (d+1)).1 n 0 false O;have M:=Nm d;obtain⟨k,t,l,a⟩:=n;unfold bh;by_cases gd:k=19
  ·subst gd;rw[gF (show(Nd.mk 19 t l a).kind=19 from rfl)];obtain⟨I,y,rfl,N⟩:=RB J;show Gd (iV t::my (bh d y));exact SH I (Dh (M y N))
  rw[d5 (show ¬ (Nd.mk k t l a).kind=19 from gd)];by_cases gb:k=20
  ·subst gb;rw[gF (show(Nd.mk 20 t l a).kind=20 from rfl)];obtain⟨I,y,z,rfl,N,hz⟩:=RC J;show Gd (my (bh d y)++(iV t::.gap 10::my (bh d z)));exact SI I (Dh (M y N)) (Dh (M z hz))
  rw[d5 (show ¬ (Nd.mk k t l a).kind=20 from gb)];by_cases ga:k=21
  ·subst ga;rw[gF (show(Nd.mk 21 t l a).kind=21 from rfl)];have J:(decide (t=(⟨#[]⟩:BA))&&(decide (0<l.length)&&l.all (aa d).expr))=true:=J;rw[gB,gB,gE,gE]at J;obtain⟨ht,hl,D⟩:=J;cases l with
   |nil=>exact absurd hl (by show ¬ 0<0;omega)
   |cons f args=>rw[kz,gB]at D;show Gd (my (bh d f)++(bS 40::(y5 (args.map (bh d))++[bS 41])));refine Tw (Dh (M f D.1)) fun z hz=>?_;obtain⟨x,I,rfl⟩:=List.mem_map.1 hz;exact M x (List.all_eq_true.1 D.2 x I)
  rw[d5 (show ¬ (Nd.mk k t l a).kind=21 from ga)];by_cases U:k=23
  ·subst U;rw[gF (show(Nd.mk 23 t l a).kind=23 from rfl)];obtain⟨I,y,rfl,N⟩:=RD J;show Gd (my (bh d y)++[bS 46,mK t]);exact SJ I (Dh (M y N))
  rw[d5 (show ¬ (Nd.mk k t l a).kind=23 from U)];exact ge
theorem Ij{x y:List UInt8}(h:pX (x++(y++[10]))=x.length):pX (x++y)=x.length:=by
 rw[<-gO]at h;(have M:x.length<=(x++y).length:=by simp);generalize x++y=l at h M |-;have key:∀k,k<=l.length->(l++[10]).take k=l.take k:=fun k hk=>List.take_append_of_le_length hk;unfold pX at h |-;rw[gL,show([10]:List UInt8).length=1 from rfl]at h;by_cases D:3<=l.length/\Lib.contains (32::bytes oC++[32]) (32::l.take 3++[32])=true
 ·rw[gF ⟨by omega,by rw[key 3 D.1];exact D.2⟩]at h;rw[gF D];exact h
 rw[d5 D];split at h
 ·rename_i g;exact absurd ⟨by omega,by rw[<-key 3 (by omega)];exact g.2⟩ D
 by_cases I:2<=l.length/\Lib.contains (32::bytes oP++[32]) (32::l.take 2++[32])=true
 ·rw[gF ⟨by omega,by rw[key 2 I.1];exact I.2⟩]at h;rw[gF I];exact h
 rw[d5 I];split at h
 ·rename_i g;exact absurd ⟨by omega,by rw[<-key 2 (by omega)];exact g.2⟩ I
 by_cases J:1<=l.length/\Lib.contains (32::bytes sN++[32]) (32::l.take 1++[32])=true
 ·rw[gF ⟨by omega,by rw[key 1 J.1];exact J.2⟩]at h;rw[gF J];exact h
 rw[d5 J];split at h
 ·rename_i g;exact absurd ⟨by omega,by rw[<-key 1 (by omega)];exact g.2⟩ J
 ·exact h
theorem wJ{l:List UInt8}{a b:UInt8}(h:hasPrefix (l++[10]) [a,b]=false):hasPrefix l [a,b]=false:=by
 cases D:hasPrefix l [a,b]with
 |false=>rfl
 |true=>
  rw[<-h];cases l with
  |nil=>cases D
  | cons x l=>cases l with
    |nil=>simp[hasPrefix]at D
    |cons y l=>exact D.symm.trans (by rfl)
theorem ft.nil{y x:List UInt8}{k:Int}(h:ft (y++[10]) k x):ft y k x:=by
 have hs:tH (y++[10])=true->tH y=true:=fun h=>by
  cases y with
  |nil=>rfl
  |cons b q=>exact h
 cases h with
 |word h hr=>exact .word h (hs hr)
 |num h hr=>exact .num h (hs hr)
 |text h=>exact .text h
 |sign h hl h1 h2=>rw[<-gO]at h1 h2;exact .sign h (Ij hl) (wJ h1) (wJ h2)
theorem bj.nil:∀{z:List It}{e:Bool},bj e z [10]->bj e z []
 |[],_,_=>trivial
 | .nl::_,_,h=>⟨h.1,bj.nil h.2⟩
 | .gap _::_,_,h=>⟨h.1,bj.nil h.2⟩
 | .tok k x::z,_,h=>⟨by rw[kG];exact ft.nil h.1,bj.nil h.2⟩
theorem SK{d:Nat}{n:Nd}(D:(aa d).expr n=true):bj false (bh d n) []:=bj.nil ((Nl d n D).ok false [10] (M1 []))
end
section
open Go.RowKit Go.Lib Go.Proofs
attribute [local go_sem ↓] Go.wp_at_zero Go.wp_at_succ
def tR(f:Nd->List It)(p:Nd):List It:=dx p.text++f (bc p 0)
theorem SN(f:Nd->List It)(l:List Nd)(b:Nd)(q p:Int):tx (fm f (.mk 12 ⟨#[]⟩ [.mk 6 ⟨#[]⟩ l q,b] p))=(⟨#[40]⟩:BA)++tx (dk cG (l.map (tR f)))++(⟨#[41]⟩:BA)++(if b.kind=0 then(⟨#[]⟩:BA)else(⟨#[32]⟩:BA)++tx (f b)):=by
 show tx (bS 40::(dk cG (l.map (tR f))++(bS 41::(if b.kind=0 then[]else bu::f b))))=_;rw[aI,bE,aI (bS 41),sx,sx,az,az];split
 ·rfl
 ·rw[aI,y6]
theorem Dl(d:Nat)(HT:TS 37 (aa d).typ (am d)){so:ByteArray->Bool}:TS 38 (io (aa d) so) (fm (am d)):=by
 intro v n w hv hn hM;obtain⟨l,q,b,p,rfl,hl,hb⟩:=sS hn;have gm:=hid HT;have HL:=hid (List.all_eq_true.1 hl);have HB:=hid hb;have HR:=hid (SN (am d) l b q p);rw[HR.out,gD,gD,gD]at hM;obtain⟨A,cp,rfl,hC⟩:=hv.toC;have yk:=ud cG (by decide) (tR (am d)) l;clear hn hl hb HT hC;have hB:=(aj w #[.int .i64 12,.string ⟨#[]⟩,.slice A 2 cp,.int .i64 p]).1;have ge:aF w (.agg #[.int .i64 12,.string ⟨#[]⟩,.slice A 2 cp,.int .i64 p]) (.mk 12 ⟨#[]⟩ [.mk 6 ⟨#[]⟩ l q,b] p):=hv;have gs:=(aj w #[.int .i64 12,.string ⟨#[]⟩,.slice A 2 cp,.int .i64 p]).2;obtain⟨bk,off,A0,c0,rfl,ha⟩:=eV ge 0 (by simp);obtain⟨bk',off',A1,c1,e,hb⟩:=eV ge 1 (by simp);injection e with e;injection e with e1 e2;subst e1 e2;simp only[Nd.kids_mk,gT,kL,jK,jD,qC]at ha hb;have ha:=ha.below hB;have hb:=hb.below hB;have gv:=hid (show aF _ (.agg #[.int .i64 6,.string ⟨#[]⟩,.slice A0 l.length c0,.int .i64 q]) (.mk 6 ⟨#[]⟩ l q)from ha.2.2.2.2);have gw:=hid hb;obtain⟨a0,a1,a2,a3,-⟩:=ha;simp only[Nd.kind_mk,Nd.text_mk,Nd.kids_mk,Nd.pos_mk]at a0 a1 a2 a3;clear hv ge hb;(go_enter func38,ntmps38);go_wp2_with fail;generalize w.alloc (.cells #[.int .i64 12,.string ⟨#[]⟩,.slice (some ⟨bk,off,none⟩) 2 cp,.int .i64 p] 24)=w0 at *;go_loopg [3,5] l.length (fun k u3 u5 wr=>∃i:Nat,i<=l.length/\l.length-i<=k/\u5=.int .i64 (i:Int)/\u3=.string ((⟨#[40]⟩:BA)++tx (dk cG ((l.take i).map (tR (am d)))))/\Below w0 w0 wr)
 case atStart=>exact⟨0,gP _,by omega,rfl,rfl,gG _ _⟩
 case round=>
  obtain⟨i,hi,hk,rfl,rfl,N⟩:=hrel;have gq:=pI cG (tR (am d)) l i hi;by_cases O:i<l.length
  ·(have gj:(i:Int)<(l.length:Int):=by omega);(have h0:(0:Int)<=(i:Int):=by omega);obtain⟨bp,op,A2,c2,gu,hp⟩:=eV (af.below gv.out N) i O;simp only[Nd.kids_mk]at hp;subst gu;have D:=hid (Bs cG (tR (am d)) l i O);have I:=pI cG (tR (am d)) l (i+1) O;rw[D.out,gD,gD]at I;have gn:=hid (SM (HL.out _ (gX O)));generalize l[i]=q1 at *;obtain⟨t,x,pp,rfl,gp,hx⟩:=gn.out;have HX:=hid hx;have gh:Hid (tR (am d) (.mk 8 t [x] pp)=dx t++am d x):=hid rfl;rw[gh.out]at D;rw[gh.out,bE,gD]at I;obtain⟨bx,ox,A3,c3,rfl,ga⟩:=eV hp.2.2.2.2 0 (by simp);simp only[Nd.kids_mk,gT,jK,jD]at ga;have gg:=hid (gm.out _ x wr ga.2.2.2.2 HX.out (by omega));obtain⟨p0,p1,p2,p3,-⟩:=hp;obtain⟨x0,x1,x2,x3,-⟩:=ga;simp only[Nd.kind_mk,Nd.text_mk,Nd.kids_mk,Nd.pos_mk]at p0 p1 p2 p3;rw[bE]at D;generalize tx (dk cG ((l.take i).map (tR (am d))))=S at *;generalize tx (am d x)=X at *;clear gn hx gp gh;by_cases U:t=(⟨#[]⟩:BA)<;>rcases kR i with J|J;subst U;(have gb:¬ (0:Int)<(i:Int):=by omega);rw[wN cG J,Dj]at D I;simp only[mQ]at D
   rotate_left
   subst U;(have gb:(0:Int)<(i:Int):=by omega);rw[wO cG J,Dj,wM]at D I;simp only[mQ]at D
   rotate_left
   (have gi:t.toList.isEmpty=false:=by rw[aq];simpa using U);(have gb:¬ (0:Int)<(i:Int):=by omega);rw[wN cG J,FP t U]at D I;rw[gD]at I;simp only[mQ]at D;clear U
   rotate_left
   (have gi:t.toList.isEmpty=false:=by rw[aq];simpa using U);(have gb:(0:Int)<(i:Int):=by omega);rw[wO cG J,FP t U,wM]at D I;rw[gD]at I;clear U
   rotate_left
   (all_goals clear J);all_goals
    go_wp2_with fail;refine gg.out.mono ?_;rintro e w3⟨rfl,gd⟩;clear p0 p1 p2 p3 x0 x1 x2 x3;go_wp2_with fail;go_roundg (l.length-(i+1))
    case measure=>omega
    case rel=>exact⟨i+1,by omega,gA _,by go_num,by rw[D.out];simp only[az],aD N gd⟩
  ·(have gj:¬ (i:Int)<(l.length:Int):=by omega);have D:=hid (show tx (dk cG ((l.take i).map (tR (am d))))=tx (dk cG (l.map (tR (am d))))by rw[jA (by omega)]);rw[<-D.out]at HR hM gq yk;generalize tx (dk cG ((l.take i).map (tR (am d))))=S at *;obtain⟨n0,n1,n2,n3,-,-,-,-⟩:=ab (gs.bl N);have gl:=gw.out.below N;have gr:=gl.2.2.2.2;obtain⟨b0,b1,b2,b3,-⟩:=gl;by_cases M:b.kind=0
   ·rw[gF M]at HR hM;rw[M]at b0;go_wp2_with fail;go_ret;exact⟨by rw[HR.out,pi];rfl,aD hB N⟩
   ·rw[d5 M]at HR hM;rw[gD]at hM;(have gi:(b.kind != 0)=true:=by simpa using M);have gg:=hid (gm.out _ b wr gr (HB.out.resolve_left (fun h=>by obtain⟨a,rfl⟩:=bI h;exact M rfl)) (by omega));generalize tx (am d b)=X at *;clear M;go_wp2_with fail;refine gg.out.mono ?_;rintro e w3⟨rfl,gd⟩;clear n0 n1 n2 n3 b0 b1 b2 b3;go_wp2_with fail;go_ret;have gt:=aD N gd;exact⟨by rw[HR.out];simp only[az];rfl,aD hB gt⟩
theorem Np{x:ByteArray}(h:x≠(⟨#[]⟩:BA)):0<x.size:=by
 rcases kR x.size with D|D
 ·exact absurd (ByteArray.size_eq_zero_iff.1 D) h
 ·exact D
theorem wP{d:Nat}{n:Nd}(h:(aa (d+1)).typ n=true):
  (∃t l p,n=.mk 10 t l p/\aE t=true/\l.all (aa d).typ=true)\/(∃x p,n=.mk 11 ⟨#[]⟩ [x] p/\(aa d).typ x=true)\/(n.kind=12/\io (aa d) dV n=true):=by
 have h:dA (aa d) n=true:=h;unfold dA at h;split at h
 ·rename_i I;rw[gB]at h;exact .inl ⟨n.text,n.kids,n.pos,by rw[<-I];exact n.eta,h⟩
 ·split at h
  ·rename_i O I;unfold cA at h;rw[gB,gB,gE,gE]at h;obtain⟨-,D,N⟩:=h;obtain⟨x,J,M⟩:=d8 N;exact .inr (.inl ⟨x,n.pos,by rw[<-I,<-D,<-J];exact n.eta,M⟩)
  ·split at h
   ·rename_i D;exact .inr (.inr ⟨D,h⟩)
   ·cases h
theorem y7(g:Nat)(t:ByteArray)(l:List Nd)(p:Int):tx (am (g+1) (.mk 10 t l p))=t++tx (nY (am g) l):=by show tx (mK t::nY (am g) l)=_;rw[aI,wL]
theorem SO(f:Nd->List It)(l:List Nd):tx (nY f l)=if l=[]then(⟨#[]⟩:BA)else(⟨#[91]⟩:BA)++(tx (dk cG (l.map f))++(⟨#[93]⟩:BA)):=by
 unfold nY;split
 ·rfl
 ·rw[aI,bE,sx,sx]
theorem y8(g:Nat)(x:Nd)(p:Int):tx (am (g+1) (.mk 11 ⟨#[]⟩ [x] p))=(⟨#[91,93]⟩:BA)++tx (am g x):=by show tx (bS 91::bS 93::am g x)=_;rw[aI,aI (bS 93),<-az];rfl
theorem y9(g:Nat){n:Nd}(h:n.kind=12):tx (am (g+1) n)=(⟨#[102,117,110,99]⟩:BA)++tx (fm (am g) n):=by(have e:am (g+1) n=lJ ⟨#[102,117,110,99]⟩::fm (am g) n:=by unfold am;rw[d5 (by omega),gF h]);rw[e,aI,FO]
theorem FR{d:Nat}{n:Nd}(h:(aa d).typ n=true):0<(tx (am d n)).size:=by
 cases d with
 |zero=>cases h
 |succ d=>
  rcases wP h with⟨t,l,p,rfl,D,-⟩|⟨x,p,rfl,-⟩|⟨I,-⟩
  ·(have:t≠(⟨#[]⟩:BA):=by unfold aE dP at D;simp only[gB,gE]at D;exact D.2.2.1);have:=Np this;rw[y7,gD];omega
  ·rw[y8,gD];show 0<2+_;omega
  ·rw[y9 d I,gD];show 0<4+_;omega
theorem PO{d:Nat}:∀{l:List Nd},l.all (aa d).typ=true->l≠[]->0<(tx (dk cG (l.map (am d)))).size
 |[],_,h=>absurd rfl h
 |[x],h,_=>FR (d:=d) (List.all_eq_true.1 h x (by simp))
 |x::y::l,h,_=>by have:=FR (d:=d) (List.all_eq_true.1 h x (by simp));show 0<(tx (am d x++_)).size;rw[bE,gD];omega
theorem sy:∀d,TS 37 (aa d).typ (am d):=by
 intro d;induction d with
 |zero=>exact fun _ _ _ _ h=>by cases h
 | succ d ih=>
  intro v n w hv hn hM;have gl:=hid ih;rcases wP hn with⟨t,l,p,rfl,ht,hl⟩|⟨x,p,rfl,hx⟩|⟨hk,hs⟩
  ·have HL:=hid (List.all_eq_true.1 hl);have gd:=hid (PO (d:=d) hl);have N:=hid (y7 d t l p);have I:=hid (SO (am d) l);rw[N.out,gD]at hM;obtain⟨A,cp,rfl,hC⟩:=hv.toC;have gj:=ud cG (by decide) (am d) l;have hS:(tx (dk cG (l.map (am d)))).size<=10000000000000000:=by
    rw[I.out]at hM;split at hM
    ·rename_i h;subst h;exact gP _
    ·rw[gD,gD]at hM;omega
   have gr:Hid (aF w (.agg #[.int .i64 10,.string t,.slice A l.length cp,.int .i64 p]) (.mk 10 t l p)):=hid hv;have hB:=(aj w #[.int .i64 10,.string t,.slice A l.length cp,.int .i64 p]).1;have gg:=(aj w #[.int .i64 10,.string t,.slice A l.length cp,.int .i64 p]).2;clear hn hl hC hv ih ht;simp only[Nd.kind_mk,Nd.text_mk,Nd.kids_mk,Nd.pos_mk];(go_enter func37,ntmps37);go_wp2_with fail;generalize w.alloc (.cells #[.int .i64 10,.string t,.slice A l.length cp,.int .i64 p] 24)=w0 at *;go_loopg [3,5] l.length (fun k u3 u5 wr=>∃i:Nat,i<=l.length/\l.length-i<=k/\u5=.int .i64 (i:Int)/\u3=.string (tx (dk cG ((l.take i).map (am d))))/\Below w0 w0 wr)
   case atStart=>exact⟨0,gP _,by omega,rfl,rfl,gG _ _⟩
   case round=>
    obtain⟨i,hi,hk,rfl,rfl,M⟩:=hrel;have gn:=pI cG (am d) l i hi;obtain⟨n0,n1,n2,n3,-,-,-,-⟩:=ab (gg.bl M);by_cases U:i<l.length
    ·(have gi:(i:Int)<(l.length:Int):=by omega);(have h0:(0:Int)<=(i:Int):=by omega);obtain⟨bp,op,A2,c2,gq,O⟩:=eV (af.below gr.out (aD hB M)) i U;simp only[Nd.kids_mk]at O;subst gq;have D:=hid (Bs cG (am d) l i U);have ge:=pI cG (am d) l (i+1) U;rw[D.out,gD,gD]at ge;have HX:=hid (HL.out _ (gX U));generalize l[i]=x at *;have gh:=hid (gl.out _ x wr O.2.2.2.2 HX.out (by omega));obtain⟨p0,p1,p2,p3,-⟩:=O;generalize tx (dk cG ((l.take i).map (am d)))=S at *;generalize tx (am d x)=X at *;rcases kR i with gb|gb;(have gp:¬ (0:Int)<(i:Int):=by omega);rw[wN cG gb]at D ge;simp only[mQ]at D
     rotate_left
     (have gp:(0:Int)<(i:Int):=by omega);rw[wO cG gb,wM]at D ge
     rotate_left
     all_goals
      clear gb;go_wp2_with fail;refine gh.out.mono ?_;rintro e w3⟨rfl,J⟩;clear p0 p1 p2 p3 n0 n1 n2 n3;go_wp2_with fail;go_roundg (l.length-(i+1))
      case measure=>omega
      case rel=>exact⟨i+1,by omega,gA _,by go_num,by first|exact jM Value.string D.out.symm|(rw[D.out];simp only[az]),aD M J⟩
    ·(have gi:¬ (i:Int)<(l.length:Int):=by omega);have D:=hid (show tx (dk cG ((l.take i).map (am d)))=tx (dk cG (l.map (am d)))by rw[jA (by omega)]);rw[<-D.out]at I hS gn gj gd;generalize tx (dk cG ((l.take i).map (am d)))=S at *;by_cases ga:l=[]
     ·subst ga;rw[gF rfl]at I;rw[I.out]at N;have gs:S=(⟨#[]⟩:BA):=D.out;subst gs;go_wp2_with fail;go_ret;exact⟨by rw[N.out];rfl,aD hB M⟩
     ·have O:=gd.out ga;(have gt:S.toList.isEmpty=false:=by rw[aq,gJ];rintro rfl;exact absurd O (by decide));rw[d5 ga]at I;rw[I.out]at N hM;rw[gD,gD]at hM;clear ga;go_wp2_with fail;go_ret;exact⟨by rw[N.out];simp only[az];rfl,aD hB M⟩
  ·have N:=hid (y8 d x p);rw[N.out,gD]at hM;have HX:=hid hx;obtain⟨A,cp,rfl,hC⟩:=hv.toC;have yk:aF w (.agg #[.int .i64 11,.string ⟨#[]⟩,.slice A 1 cp,.int .i64 p]) (.mk 11 ⟨#[]⟩ [x] p):=hv;have hB:=(aj w #[.int .i64 11,.string ⟨#[]⟩,.slice A 1 cp,.int .i64 p]).1;obtain⟨bp,op,A2,c2,rfl,O⟩:=eV (af.below yk hB) 0 (by simp);simp only[Nd.kids_mk,gT,jK,jD]at O;have gh:=hid (gl.out _ x _ O.2.2.2.2 HX.out (by omega));obtain⟨p0,p1,p2,p3,-⟩:=O;clear hn hC hv yk ih hx;generalize tx (am d x)=X at *;(go_enter func37,ntmps37);go_wp2_with fail;refine gh.out.mono ?_;rintro e w3⟨rfl,J⟩;go_wp2_with fail;go_ret;exact⟨by rw[N.out];rfl,aD hB J⟩
  ·have N:=hid (y9 d hk);rw[N.out,gD]at hM;obtain⟨A,cp,rfl,hC⟩:=hv.toC;have hB:=(aj w #[n.kind,n.text,.slice A n.kids.length cp,n.pos]).1;have gg:=(aj w #[n.kind,n.text,.slice A n.kids.length cp,n.pos]).2;have gm:=hid (Dl d ih _ n _ (af.below hv hB) hs (by omega));obtain⟨x0,x1,x2,x3,-,-,-,-⟩:=ab gg;generalize tx (fm (am d) n)=X at *;clear hn hC hv ih hs;rw[hk]at gm x0 hB |-;(go_enter func37,ntmps37);go_wp2_with fail;refine gm.out.mono ?_;rintro e w3⟨rfl,J⟩;go_wp2_with fail;go_ret;exact⟨by rw[N.out];rfl,aD hB J⟩
theorem tf(s:ByteArray)(w:World):Calls prog 35 #[s] w fun e w'=>e=.returned (.int .i64 (bR s:Int))/\w=w':=by
 (have key:∀x∈([(⟨#[124,124]⟩:BA),(⟨#[38,38]⟩:BA),(⟨#[43]⟩:BA),(⟨#[45]⟩:BA),(⟨#[42]⟩:BA),(⟨#[47]⟩:BA),(⟨#[37]⟩:BA)]:List ByteArray),Calls prog 35 #[.string x] w fun e w'=>e=.returned (.int .i64 (bR x:Int))/\w=w':=by intro x hx;simp only[qS,qJ,vE]at hx;rcases hx with rfl|rfl|rfl|rfl|rfl|rfl|rfl;all_goals(go_enter func35,ntmps35);go_wp2_with fail;go_ret;exact⟨rfl,rfl⟩);by_cases h:s∈([(⟨#[124,124]⟩:BA),(⟨#[38,38]⟩:BA),(⟨#[43]⟩:BA),(⟨#[45]⟩:BA),(⟨#[42]⟩:BA),(⟨#[47]⟩:BA),(⟨#[37]⟩:BA)]:List ByteArray)
 ·exact key s h
 ·simp only[qS,qJ,vE,not_or]at h;obtain⟨U,O,N,M,J,I,D⟩:=h;(have hL:bR s=3:=by unfold bR;rw[d5 U,d5 O,d5 (by simp[N,M]),d5 (by simp[J,I,D])]);(have k1:(s.toList==[124,124])=false:=by rw[<-ck s [124,124]];exact gM U);(have k2:(s.toList==[38,38])=false:=by rw[<-ck s [38,38]];exact gM O);(have k3:(s.toList==[43])=false:=by rw[<-ck s [43]];exact gM N);(have k4:(s.toList==[45])=false:=by rw[<-ck s [45]];exact gM M);(have k5:(s.toList==[42])=false:=by rw[<-ck s [42]];exact gM J);(have k6:(s.toList==[47])=false:=by rw[<-ck s [47]];exact gM I);(have k7:(s.toList==[37])=false:=by rw[<-ck s [37]];exact gM D);clear U O N M J I D key;rw[hL];(go_enter func35,ntmps35);go_wp2_with fail;go_ret;exact⟨rfl,rfl⟩
def wQ(k:Nat):ByteArray:=d7 (fX (mz k))
theorem tg(k:Nat):(wQ k).size=k:=by
 rw[<-cm];unfold wQ;rw[bH];induction k with
 |zero=>rfl
 |succ k ih=>show([9]++fX (mz k)).length=k+1;rw[gL,ih];simp[Nat.add_comm]
theorem Im(k:Nat):wQ k++(⟨#[9]⟩:BA)=wQ (k+1):=by
 apply cg;rw[aO];unfold wQ;rw[bH,bH];induction k with
 |zero=>rfl
 |succ k ih=>show([9]++fX (mz k))++_=[9]++fX (mz (k+1));rw[gO,ih]
theorem Dm(k:Nat)(J:k<=1000)(w:World):Calls prog 68 #[(k:Int)] w fun e w'=>e=.returned (.string (wQ k))/\Below w w w':=by
 (go_enter func68,ntmps68);go_wp2_with fail;go_loopg [3,4] k (fun g u3 u4 wr=>∃i:Nat,i<=k/\k-i<=g/\u4=.int .i64 (i:Int)/\u3=.string (wQ i)/\Below w w wr)
 case atStart=>exact⟨0,gP _,by omega,rfl,rfl,gG _ _⟩
 case round=>
  obtain⟨i,M,N,rfl,rfl,hB⟩:=hrel;by_cases I:i<k
  ·(have D:(i:Int)<(k:Int):=by omega);(have O:(0:Int)<=(i:Int):=by omega);have hs:=tg i;go_wp2_with fail;go_roundg (k-(i+1))
   case measure=>omega
   case rel=>exact⟨i+1,by omega,by omega,by go_num,by rw[<-Im],hB⟩
  ·(have D:¬ (i:Int)<(k:Int):=by omega);(obtain rfl:i=k:=by omega);go_wp2_with fail;go_ret;exact⟨rfl,hB⟩
def ie(d:Nat):Prop:=∀(v:Value)(n:Nd)(w:World)(deep:Nat)(head:Bool),aF w v n->(aa d).expr n=true->deep+d<=1000->(tx ((ao d).expr n deep head)).size<=10000000000000000 ->
 Calls prog 15 #[v,(deep:Int),.bool head] w fun e w'=>e=.returned (.string (tx ((ao d).expr n deep head)))/\Below w w w'
def pj(d:Nat):Prop:=∀(v:Value)(n:Nd)(w:World)(deep:Nat),aF w v n->(aa d).block n=true->deep+d<=1000->(tx ((ao d).block n deep)).size<=10000000000000000 ->
 Calls prog 39 #[v,(deep:Int)] w fun e w'=>e=.returned (.string (tx ((ao d).block n deep)))/\Below w w w'
def wR(d:Nat):Prop:=∀(v:Value)(n:Nd)(w:World)(deep:Nat),aF w v n->(aa d).stmt n=true->deep+d<=1000->(tx ((ao d).stmt n deep false)).size<=10000000000000000 ->
 Calls prog 69 #[v,(deep:Int),.bool false] w fun e w'=>e=.returned (.string (tx ((ao d).stmt n deep false)))/\Below w w w'
theorem Nq(F:CI)(n:Nd)(deep:Nat)(head:Bool):tx (aK F true n deep head)=(⟨#[40]⟩:BA)++tx (F.expr n deep false)++(⟨#[41]⟩:BA):=by show tx (bS 40::(F.expr n deep false++[bS 41]))=_;rw[aI,bE,az];rfl
theorem pJ(d:Nat)(N:ie d)(v:Value)(n:Nd)(w:World)(yes:Bool)(deep:Nat)(head:Bool)(I:aF w v n)(J:(aa d).expr n=true)(hd:deep+d<=1000)(O:(tx (aK (ao d) yes n deep head)).size<=10000000000000000):
  Calls prog 34 #[v,.bool yes,(deep:Int),.bool head] w fun e w'=>e=.returned (.string (tx (aK (ao d) yes n deep head)))/\Below w w w':=by
 obtain⟨A,cp,rfl,h⟩:=I.toC;have hB:=(aj w #[n.kind,n.text,.slice A n.kids.length cp,n.pos]).1;cases yes with
 |true=>have M:=hid (Nq (ao d) n deep head);rw[M.out,gD,gD]at O;have U:=hid (N _ n _ deep false (af.below I hB) J hd (by omega));generalize tx ((ao d).expr n deep false)=X at *;clear I J h N hd;(go_enter func34,ntmps34);go_wp2_with fail;refine U.out.mono ?_;rintro e w3⟨rfl,D⟩;go_wp2_with fail;go_ret;exact⟨by rw[M.out];rfl,aD hB D⟩
 |false=>have U:=hid (N _ n _ deep head (af.below I hB) J hd O);have M:=hid (show tx (aK (ao d) false n deep head)=tx ((ao d).expr n deep head)from rfl);generalize tx ((ao d).expr n deep head)=X at *;clear I J h N hd O;(go_enter func34,ntmps34);go_wp2_with fail;refine U.out.mono ?_;rintro e w3⟨rfl,D⟩;go_wp2_with fail;go_ret;exact⟨by rw[M.out];rfl,aD hB D⟩
theorem wS(d:Nat)(HE:ie d)(v:Value)(n:Nd)(w:World)(deep:Nat)(hv:aF w v n)(hn:∀x∈n.kids.drop 1,(if x.kind=11\/x.kind=12 then(aa d).typ x else(aa d).expr x)=true)(hd:deep+d<=1000)(hM:(tx (dq (ao d) n deep)).size<=10000000000000000):
  Calls prog 36 #[v,(deep:Int)] w fun e w'=>e=.returned (.string (tx (dq (ao d) n deep)))/\Below w w w':=by
 obtain⟨A,cp,rfl,hC⟩:=hv.toC;have gj:=hid (sy d);have yk:=hid HE;have HN:=hid hn;have HR:=hid (show tx (dq (ao d) n deep)=tx (dk cG ((n.kids.drop 1).map (dy (ao d) deep)))from rfl);rw[HR.out]at hM;have gl:=ud cG (by decide) (dy (ao d) deep) (n.kids.drop 1);have HV:=hid hv;have hB:=(aj w #[n.kind,n.text,.slice A n.kids.length cp,n.pos]).1;have gh:=(aj w #[n.kind,n.text,.slice A n.kids.length cp,n.pos]).2;clear hv hC HE hn;(go_enter func36,ntmps36);go_wp2_with fail;generalize w.alloc (.cells #[n.kind,n.text,.slice A n.kids.length cp,n.pos] 24)=w0 at *;have gn:(n.kids.drop 1).length=n.kids.length-1:=gY ..;go_loopg [5,6] (n.kids.drop 1).length (fun k u5 u6 wr=>∃i:Nat,i<=(n.kids.drop 1).length/\(n.kids.drop 1).length-i<=k/\u6=.int .i64 ((i+1:Nat):Int)/\u5=.string (tx (dk cG (((n.kids.drop 1).take i).map (dy (ao d) deep))))/\Below w0 w0 wr)
 case atStart=>exact⟨0,gP _,by omega,rfl,rfl,gG _ _⟩
 case round=>
  obtain⟨i,hi,N,rfl,rfl,M⟩:=hrel;have gm:=pI cG (dy (ao d) deep) (n.kids.drop 1) i hi;obtain⟨n0,n1,n2,n3,-,-,-,-⟩:=ab (gh.bl M);by_cases ga:i<(n.kids.drop 1).length
  ·(have gg:i+1<n.kids.length:=by omega);(have ge:((i+1:Nat):Int)<(n.kids.length:Int):=by omega);(have h0:(0:Int)<=((i+1:Nat):Int):=by omega);obtain⟨bp,op,A2,c2,gi,hp⟩:=eV (af.below HV.out (aD hB M)) (i+1) gg;subst gi;have D:=hid (Bs cG (dy (ao d) deep) (n.kids.drop 1) i ga);have J:=pI cG (dy (ao d) deep) (n.kids.drop 1) (i+1) ga;rw[D.out,gD,gD]at J;have HX:=hid (HN.out _ (gX ga));(have he:(n.kids.drop 1)[i]=n.kids[i+1]:=by rw[List.getElem_drop];congr 1;omega);rw[he]at D J HX;clear he;generalize n.kids[i+1]=x at *;generalize tx (dk cG (((n.kids.drop 1).take i).map (dy (ao d) deep)))=S at *;have O:Below wr wr (wr.alloc (.cells #[x.kind,x.text,.slice A2 x.kids.length c2,x.pos] 24)):=(gG _ wr).alloc (gA _) _;have hx:=hp.2.2.2.2;obtain⟨p0,p1,p2,p3,-⟩:=hp;by_cases N:x.kind=11\/x.kind=12
   ·have HK:=hid (HX.out);rw[gF N]at HK;(have hP:dy (ao d) deep x=am d x:=by unfold dy;rw[gF N];cases d<;>rfl);rw[hP]at D J;have U:=hid (gj.out _ x _ (af.below hx O) HK.out (by omega));generalize tx (am d x)=X at *;clear HX HK hP hx;rcases N with N|N<;>rw[N]at p0 U O<;>rcases kR i with I|I;all_goals
     first
      |((have gb:¬ (1:Int)<((i+1:Nat):Int):=by omega);rw[wN cG I]at D J;simp only[mQ]at D)
      |((have gb:(1:Int)<((i+1:Nat):Int):=by omega);rw[wO cG I,wM]at D J)
     clear I;go_wp2_with fail;refine U.out.mono ?_;rintro e w3⟨rfl,gd⟩;clear p0 p1 p2 p3 n0 n1 n2 n3;go_wp2_with fail;go_roundg ((n.kids.drop 1).length-(i+1))
     case measure=>omega
     case rel=>exact⟨i+1,by omega,gA _,by go_num,by first|exact jM Value.string D.out.symm|(rw[D.out];simp only[az]),M.trans ((aD O gd).mono M.size)⟩
   ·have HK:=hid (HX.out);rw[d5 N]at HK;(have hP:dy (ao d) deep x=(ao d).expr x deep false:=by unfold dy;rw[d5 N]);rw[hP]at D J;have U:=hid (yk.out _ x _ deep false (af.below hx O) HK.out hd (by omega));generalize tx ((ao d).expr x deep false)=X at *;(have k1:(x.kind==11)=false:=by rw[gC];exact fun h=>N (.inl h));(have k2:(x.kind==12)=false:=by rw[gC];exact fun h=>N (.inr h));clear HX HK hP hx N;rcases kR i with I|I;all_goals
     first
      |((have gb:¬ (1:Int)<((i+1:Nat):Int):=by omega);rw[wN cG I]at D J;simp only[mQ]at D)
      |((have gb:(1:Int)<((i+1:Nat):Int):=by omega);rw[wO cG I,wM]at D J)
     clear I;go_wp2_with fail;refine U.out.mono ?_;rintro e w3⟨rfl,gd⟩;clear p0 p1 p2 p3 n0 n1 n2 n3;go_wp2_with fail;go_roundg ((n.kids.drop 1).length-(i+1))
     case measure=>omega
     case rel=>exact⟨i+1,by omega,gA _,by go_num,by first|exact jM Value.string D.out.symm|(rw[D.out];simp only[az]),M.trans ((aD O gd).mono M.size)⟩
  ·(have ge:¬ ((i+1:Nat):Int)<(n.kids.length:Int):=by omega);have D:=hid (show tx (dk cG (((n.kids.drop 1).take i).map (dy (ao d) deep)))=tx (dk cG ((n.kids.drop 1).map (dy (ao d) deep)))by rw[jA (by omega)]);rw[<-D.out]at HR;generalize tx (dk cG (((n.kids.drop 1).take i).map (dy (ao d) deep)))=S at *;go_wp2_with fail;go_ret;exact⟨by rw[HR.out];rfl,aD hB M⟩
end
end Go.Proofs.YtiebcdeafofgdaaGreatDoor
