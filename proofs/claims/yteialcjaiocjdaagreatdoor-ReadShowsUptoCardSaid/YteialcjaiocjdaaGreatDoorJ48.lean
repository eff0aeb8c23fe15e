/-
  Parts of the proof: Pwe Pwf Pwa Pwb Pwh Pwg. By an AI agent.
-/
import Derived.Test.YteialcjaiocjdaaGreatDoorJ47
import Derived.Test.YteialcjaiocjdaaGreatDoorJ00
import Derived.Test.YteialcjaiocjdaaGreatDoorJ34
import Derived.Test.YteialcjaiocjdaaGreatDoorJ10
import Derived.Test.YteialcjaiocjdaaGreatDoorJ35
import Derived.Test.YteialcjaiocjdaaGreatDoorJ01
import Derived.BigQuiet
open Go.Proofs.Tryz
set_option maxRecDepth 100000
set_option maxHeartbeats 8000000
namespace Go.Proofs.YteialcjaiocjdaaGreatDoor
section
open Go.RowKit Go.Lib Go.Proofs
attribute [local go_sem ↓] Go.wp_at_zero Go.wp_at_succ
theorem Om{x:ByteArray}(h:x≠(⟨#[]⟩:BA)):0<x.size:=by
 rcases kJ x.size with D|D
 ·exact absurd (ByteArray.size_eq_zero_iff.1 D) h
 ·exact D
theorem yk{d:Nat}{n:Nd}(h:(aa (d+1)).typ n=true):
  (∃t l p,n=.mk 10 t l p/\aB t=true/\l.all (aa d).typ=true)\/(∃x p,n=.mk 11 ⟨#[]⟩ [x] p/\(aa d).typ x=true)\/(n.kind=12/\il (aa d) ec n=true):=by
 have h:dH (aa d) n=true:=h;unfold dH at h;split at h
 ·rename_i I;rw[gA]at h;exact .inl ⟨n.text,n.kids,n.pos,by rw[<-I];exact n.eta,h⟩
 ·split at h
  ·rename_i O I;unfold cE at h;rw[gA,gA,gD,gD]at h;obtain⟨-,D,N⟩:=h;obtain⟨x,J,M⟩:=dW N;exact .inr (.inl ⟨x,n.pos,by rw[<-I,<-D,<-J];exact n.eta,M⟩)
  ·split at h
   ·rename_i D;exact .inr (.inr ⟨D,h⟩)
   ·cases h
theorem AH(g:Nat)(t:ByteArray)(l:List Nd)(p:Int):tx (ag (g+1) (.mk 10 t l p))=t++tx (nh (ag g) l):=by show tx (iq t::nh (ag g) l)=_;rw[ay,oQ]
theorem On(f:Nd->List It)(l:List Nd):tx (nh f l)=if l=[]then(⟨#[]⟩:BA)else(⟨#[91]⟩:BA)++(tx (cr ch (l.map f))++(⟨#[93]⟩:BA)):=by
 unfold nh;split
 ·rfl
 ·rw[ay,bD,Gm,Gm]
theorem AI(g:Nat)(x:Nd)(p:Int):tx (ag (g+1) (.mk 11 ⟨#[]⟩ [x] p))=(⟨#[91,93]⟩:BA)++tx (ag g x):=by show tx (cK 91::cK 93::ag g x)=_;rw[ay,ay (cK 93),<-ar];rfl
theorem AJ(g:Nat){n:Nd}(h:n.kind=12):tx (ag (g+1) n)=(⟨#[102,117,110,99]⟩:BA)++tx (eg (ag g) n):=by(have e:ag (g+1) n=f8 ⟨#[102,117,110,99]⟩::eg (ag g) n:=by unfold ag;rw[gB (by omega),gG h]);rw[e,ay,DG]
theorem Gp{d:Nat}{n:Nd}(h:(aa d).typ n=true):0<(tx (ag d n)).size:=by
 cases d with
 |zero=>cases h
 |succ d=>
  rcases yk h with⟨t,l,p,rfl,D,-⟩|⟨x,p,rfl,-⟩|⟨I,-⟩
  ·(have:t≠(⟨#[]⟩:BA):=by unfold aB dZ at D;simp only[gA,gD]at D;exact D.2.2.1);have:=Om this;rw[AH,gE];omega
  ·rw[AI,gE];show 0<2+_;omega
  ·rw[AJ d I,gE];show 0<4+_;omega
theorem Rp{d:Nat}:∀{l:List Nd},l.all (aa d).typ=true->l≠[]->0<(tx (cr ch (l.map (ag d)))).size
 |[],_,h=>absurd rfl h
 |[x],h,_=>Gp (d:=d) (List.all_eq_true.1 h x (by simp))
 |x::y::l,h,_=>by have:=Gp (d:=d) (List.all_eq_true.1 h x (by simp));show 0<(tx (ag d x++_)).size;rw[bD,gE];omega
theorem lu:∀d,Ro 28 (aa d).typ (ag d):=by
 intro d;induction d with
 |zero=>exact fun _ _ _ _ h=>by cases h
 | succ d ih=>
  intro v n w hv hn hM;have gl:=hid ih;rcases yk hn with⟨t,l,p,rfl,ht,hl⟩|⟨x,p,rfl,hx⟩|⟨hk,hs⟩
  ·have HL:=hid (List.all_eq_true.1 hl);have gd:=hid (Rp (d:=d) hl);have N:=hid (AH d t l p);have I:=hid (On (ag d) l);rw[N.out,gE]at hM;obtain⟨A,cp,rfl,hC⟩:=hv.toC;have gj:=pW ch (by decide) (ag d) l;have hS:(tx (cr ch (l.map (ag d)))).size<=10000000000000000:=by
    rw[I.out]at hM;split at hM
    ·rename_i h;subst h;exact gQ _
    ·rw[gE,gE]at hM;omega
   have gr:Hid (aF w (.agg #[.int .i64 10,.string t,.slice A l.length cp,.int .i64 p]) (.mk 10 t l p)):=hid hv;have hB:=(aj w #[.int .i64 10,.string t,.slice A l.length cp,.int .i64 p]).1;have gg:=(aj w #[.int .i64 10,.string t,.slice A l.length cp,.int .i64 p]).2;clear hn hl hC hv ih ht;simp only[Nd.kind_mk,Nd.text_mk,Nd.kids_mk,Nd.pos_mk];(go_enter func28,ntmps28);go_wp2_with fail;generalize w.alloc (.cells #[.int .i64 10,.string t,.slice A l.length cp,.int .i64 p] 24)=w0 at *;go_loopg [3,5] l.length (fun k u3 u5 wr=>∃i:Nat,i<=l.length/\l.length-i<=k/\u5=.int .i64 (i:Int)/\u3=.string (tx (cr ch ((l.take i).map (ag d))))/\Below w0 w0 wr)
   case atStart=>exact⟨0,gQ _,by omega,rfl,rfl,gH _ _⟩
   case round=>
    obtain⟨i,hi,hk,rfl,rfl,M⟩:=hrel;have gn:=lS ch (ag d) l i hi;obtain⟨n0,n1,n2,n3,-,-,-,-⟩:=ab (gg.bl M);by_cases U:i<l.length
    ·(have gi:(i:Int)<(l.length:Int):=by omega);(have h0:(0:Int)<=(i:Int):=by omega);obtain⟨bp,op,A2,c2,gq,O⟩:=ep (af.below gr.out (au hB M)) i U;simp only[Nd.kids_mk]at O;subst gq;have D:=hid (tz ch (ag d) l i U);have ge:=lS ch (ag d) l (i+1) U;rw[D.out,gE,gE]at ge;have HX:=hid (HL.out _ (gS U));generalize l[i]=x at *;have gh:=hid (gl.out _ x wr O.2.2.2.2 HX.out (by omega));obtain⟨p0,p1,p2,p3,-⟩:=O;generalize tx (cr ch ((l.take i).map (ag d)))=S at *;generalize tx (ag d x)=X at *;rcases kJ i with gb|gb;(have gp:¬ (0:Int)<(i:Int):=by omega);rw[rR ch gb]at D ge;simp only[lR]at D
     rotate_left
     (have gp:(0:Int)<(i:Int):=by omega);rw[rS ch gb,tw]at D ge
     rotate_left
     all_goals
      clear gb;go_wp2_with fail;refine gh.out.mono ?_;rintro e w3⟨rfl,J⟩;clear p0 p1 p2 p3 n0 n1 n2 n3;go_wp2_with fail;go_roundg (l.length-(i+1))
      case measure=>omega
      case rel=>exact⟨i+1,by omega,gC _,by go_num,by first|exact jM Value.string D.out.symm|(rw[D.out];simp only[ar]),au M J⟩
    ·(have gi:¬ (i:Int)<(l.length:Int):=by omega);have D:=hid (show tx (cr ch ((l.take i).map (ag d)))=tx (cr ch (l.map (ag d)))by rw[gV (by omega)]);rw[<-D.out]at I hS gn gj gd;generalize tx (cr ch ((l.take i).map (ag d)))=S at *;by_cases ga:l=[]
     ·subst ga;rw[gG rfl]at I;rw[I.out]at N;have gs:S=(⟨#[]⟩:BA):=D.out;subst gs;go_wp2_with fail;go_ret;exact⟨by rw[N.out];rfl,au hB M⟩
     ·have O:=gd.out ga;(have gt:S.toList.isEmpty=false:=by rw[ao,gK];rintro rfl;exact absurd O (by decide));rw[gB ga]at I;rw[I.out]at N hM;rw[gE,gE]at hM;clear ga;go_wp2_with fail;go_ret;exact⟨by rw[N.out];simp only[ar];rfl,au hB M⟩
  ·have N:=hid (AI d x p);rw[N.out,gE]at hM;have HX:=hid hx;obtain⟨A,cp,rfl,hC⟩:=hv.toC;have yk:aF w (.agg #[.int .i64 11,.string ⟨#[]⟩,.slice A 1 cp,.int .i64 p]) (.mk 11 ⟨#[]⟩ [x] p):=hv;have hB:=(aj w #[.int .i64 11,.string ⟨#[]⟩,.slice A 1 cp,.int .i64 p]).1;obtain⟨bp,op,A2,c2,rfl,O⟩:=ep (af.below yk hB) 0 (by simp);simp only[Nd.kids_mk,gN,jF,gZ]at O;have gh:=hid (gl.out _ x _ O.2.2.2.2 HX.out (by omega));obtain⟨p0,p1,p2,p3,-⟩:=O;clear hn hC hv yk ih hx;generalize tx (ag d x)=X at *;(go_enter func28,ntmps28);go_wp2_with fail;refine gh.out.mono ?_;rintro e w3⟨rfl,J⟩;go_wp2_with fail;go_ret;exact⟨by rw[N.out];rfl,au hB J⟩
  ·have N:=hid (AJ d hk);rw[N.out,gE]at hM;obtain⟨A,cp,rfl,hC⟩:=hv.toC;have hB:=(aj w #[n.kind,n.text,.slice A n.kids.length cp,n.pos]).1;have gg:=(aj w #[n.kind,n.text,.slice A n.kids.length cp,n.pos]).2;have gm:=hid (yj d ih _ n _ (af.below hv hB) hs (by omega));obtain⟨x0,x1,x2,x3,-,-,-,-⟩:=ab gg;generalize tx (eg (ag d) n)=X at *;clear hn hC hv ih hs;rw[hk]at gm x0 hB |-;(go_enter func28,ntmps28);go_wp2_with fail;refine gm.out.mono ?_;rintro e w3⟨rfl,J⟩;go_wp2_with fail;go_ret;exact⟨by rw[N.out];rfl,au hB J⟩
def sL:List It:=[aY,cK 124,aY]
def oR(f:Nd->List It)(t:Nd):List It:=ig t.text++f (aW t 0)
theorem Oo(f:Nd->List It)(n:Nd):tx (l7 f n)=(⟨#[105,110,116,101,114,102,97,99,101,123,32]⟩:BA)++(tx (cr sL (n.kids.map (oR f)))++(⟨#[32,125]⟩:BA)):=by show tx (f8 ⟨#[105,110,116,101,114,102,97,99,101]⟩::cK 123::aY::(cr sL (n.kids.map (oR f))++[aY,cK 125]))=_;rw[ay,ay (cK 123),ay aY,bD,DG,<-ar,<-ar];rfl
theorem yl{F:cm}{n:Nd}(h:bo F n=true):∃l p,n=.mk 14 ⟨#[]⟩ l p/\l.all (lh F)=true:=by obtain⟨k,t,l,p⟩:=n;unfold bo at h;rw[gA,gA,gA,gD,gD]at h;obtain⟨rfl,rfl,-,h⟩:=h;exact⟨l,p,rfl,h⟩
theorem Rq{F:cm}{n:Nd}(h:lh F n=true):∃t x p,n=.mk 15 t [x] p/\(t=(⟨#[]⟩:BA)\/t=(⟨#[126]⟩:BA))/\F.typ x=true:=by obtain⟨t,l,a,rfl,hs,I⟩:=aJ (by decide) h;obtain⟨x,rfl,D⟩:=dW I;unfold im at hs;rw[gI,gD,gD]at hs;exact⟨t,x,a,rfl,hs,D⟩
theorem Fh(d:Nat):Ro 28 (bo (aa d)) (l7 (ag d)):=by
 intro v n w hv hn hM;have gn:=hid (lu d);obtain⟨l,p,rfl,hl⟩:=yl hn;have HL:=hid (List.all_eq_true.1 hl);have HR:=hid (Oo (ag d) (.mk 14 ⟨#[]⟩ l p));rw[HR.out,gE,gE]at hM;simp only[Nd.kids_mk]at hM HR;obtain⟨A,cp,rfl,hC⟩:=hv.toC;have gb:=pW sL (by decide) (oR (ag d)) l;have gm:Hid (aF w (.agg #[.int .i64 14,.string ⟨#[]⟩,.slice A l.length cp,.int .i64 p]) (.mk 14 ⟨#[]⟩ l p)):=hid hv;have hB:=(aj w #[.int .i64 14,.string ⟨#[]⟩,.slice A l.length cp,.int .i64 p]).1;have gd:=(aj w #[.int .i64 14,.string ⟨#[]⟩,.slice A l.length cp,.int .i64 p]).2;clear hn hl hC hv;simp only[Nd.kind_mk,Nd.text_mk,Nd.kids_mk,Nd.pos_mk];(go_enter func28,ntmps28);go_wp2_with fail;generalize w.alloc (.cells #[.int .i64 14,.string ⟨#[]⟩,.slice A l.length cp,.int .i64 p] 24)=w0 at *;go_loopg [3,4] l.length (fun k u3 u4 wr=>∃i:Nat,i<=l.length/\l.length-i<=k/\u4=.int .i64 (i:Int)/\u3=.string (tx (cr sL ((l.take i).map (oR (ag d)))))/\Below w0 w0 wr)
 case atStart=>exact⟨0,gQ _,by omega,rfl,rfl,gH _ _⟩
 case round=>
  obtain⟨i,hi,hk,rfl,rfl,M⟩:=hrel;have gi:=lS sL (oR (ag d)) l i hi;by_cases N:i<l.length
  ·(have ga:(i:Int)<(l.length:Int):=by omega);(have h0:(0:Int)<=(i:Int):=by omega);obtain⟨n0,n1,n2,n3,-,-,-,-⟩:=ab (gd.bl M);obtain⟨bp,op,A2,c2,gl,U⟩:=ep (af.below gm.out (au hB M)) i N;simp only[Nd.kids_mk]at U;subst gl;have D:=hid (tz sL (oR (ag d)) l i N);have J:=lS sL (oR (ag d)) l (i+1) N;rw[D.out,gE,gE]at J;have gh:=hid (Rq (HL.out _ (gS N)));generalize l[i]=q1 at *;obtain⟨t,x,pp,rfl,h,hx⟩:=gh.out;have HX:=hid hx;have gg:=hid (show tx (oR (ag d) (.mk 15 t [x] pp))=t++tx (ag d x)by show tx (ig t++ag d x)=_;rw[bD,Ti h]);rw[gg.out]at D J;rw[gE]at J;obtain⟨bx,ox,A3,c3,rfl,I⟩:=ep U.2.2.2.2 0 (by simp);simp only[Nd.kids_mk,gN,jF,gZ]at I;have ge:=hid (fun m:Wd (Below wr wr)=>gn.out _ x m.wd (I.below m.ok).2.2.2.2 HX.out (by omega));have k0:=fun m:Wd (Below wr wr)=>(U.below m.ok).1;have k1:=fun m:Wd (Below wr wr)=>(U.below m.ok).2.1;have k2:=fun m:Wd (Below wr wr)=>(U.below m.ok).2.2.1;have k3:=fun m:Wd (Below wr wr)=>(U.below m.ok).2.2.2.1;have m0:=fun m:Wd (Below wr wr)=>(I.below m.ok).1;have m1:=fun m:Wd (Below wr wr)=>(I.below m.ok).2.1;have m2:=fun m:Wd (Below wr wr)=>(I.below m.ok).2.2.1;have m3:=fun m:Wd (Below wr wr)=>(I.below m.ok).2.2.2.1;have kx:∀m:Wd (Below wr wr),m.wd.cell? ⟨w,2,none⟩=some (.slice (some ⟨bp,op,none⟩) l.length cp):=fun m=>(m.ok.cell (jD wr _ n2)).trans n2;simp only[Nd.kind_mk,Nd.text_mk,Nd.kids_mk,Nd.pos_mk]at k0 k1 k2 k3;clear gh hx h gg U I;generalize tx (cr sL ((l.take i).map (oR (ag d))))=S at *;generalize tx (ag d x)=X at *;rcases kJ i with O|O;(have gj:¬ (0:Int)<(i:Int):=by omega);rw[rR sL O]at D J;simp only[lR]at D
   rotate_left
   (have gj:(0:Int)<(i:Int):=by omega);rw[rS sL O,show tx sL=(⟨#[32,124,32]⟩:BA)from rfl]at D J
   rotate_left
   all_goals
    clear O;go_wp2_with fail;refine cF wr ?_;(repeat(go_big_quiet_step ((go_at_call 28;rename_i m;refine(ge.out m).mono ?_;rintro e w'⟨rfl,hb⟩;exact⟨rfl,⟨w',au m.ok hb⟩,rfl⟩))));refine jQ ?_;intro m;have yk:=m.ok;clear k0 k1 k2 k3 m0 m1 m2 m3 kx n0 n1 n2 n3 ge;go_wp2_with fail;go_roundg (l.length-(i+1))
    case measure=>omega
    case rel=>exact⟨i+1,by omega,gC _,by go_num,by first|exact jM Value.string D.out.symm|(rw[D.out];simp only[ar]),au M yk⟩
  ·(have ga:¬ (i:Int)<(l.length:Int):=by omega);obtain⟨n0,n1,n2,n3,-,-,-,-⟩:=ab (gd.bl M);have D:=hid (show tx (cr sL ((l.take i).map (oR (ag d))))=tx (cr sL (l.map (oR (ag d))))by rw[gV (by omega)]);rw[<-D.out]at HR hM gi gb;generalize tx (cr sL ((l.take i).map (oR (ag d))))=S at *;go_wp2_with fail;go_ret;exact⟨by rw[HR.out];simp only[ar];rfl,au hB M⟩
theorem DJ(d:Nat):Ro 28 (fun n=>(aa d).typ n||bo (aa d) n) (fJ (ac d)):=by
 intro v n w hv D hM;rw[gI]at D;rcases D with D|D
 ·have I:=typ_kind D;(have e:fJ (ac d) n=ag d n:=by unfold fJ;rw[gB (by omega),show(ac d).typ n=ag d n by cases d<;>rfl]);rw[e]at hM |-;exact lu d v n w hv D hM
 ·obtain⟨l,p,rfl,-⟩:=yl D;(have e:fJ (ac d) (.mk 14 ⟨#[]⟩ l p)=l7 (ag d) (.mk 14 ⟨#[]⟩ l p):=by unfold fJ;rw[gG (show(Nd.mk 14 ⟨#[]⟩ l p).kind=14 from rfl),show(ac d).typ=ag d by cases d<;>rfl]);rw[e]at hM |-;exact Fh d v _ w hv D hM
theorem tA(s:ByteArray)(w:World):Calls prog 26 #[s] w fun e w'=>e=.returned (.int .i64 (b8 s:Int))/\w=w':=by
 (have key:∀x∈([(⟨#[124,124]⟩:BA),(⟨#[38,38]⟩:BA),(⟨#[43]⟩:BA),(⟨#[45]⟩:BA),(⟨#[42]⟩:BA),(⟨#[47]⟩:BA),(⟨#[37]⟩:BA)]:List ByteArray),Calls prog 26 #[.string x] w fun e w'=>e=.returned (.int .i64 (b8 x:Int))/\w=w':=by intro x hx;simp only[vr,vm,or_false]at hx;rcases hx with rfl|rfl|rfl|rfl|rfl|rfl|rfl;all_goals(go_enter func26,ntmps26);go_wp2_with fail;go_ret;exact⟨rfl,rfl⟩);by_cases h:s∈([(⟨#[124,124]⟩:BA),(⟨#[38,38]⟩:BA),(⟨#[43]⟩:BA),(⟨#[45]⟩:BA),(⟨#[42]⟩:BA),(⟨#[47]⟩:BA),(⟨#[37]⟩:BA)]:List ByteArray)
 ·exact key s h
 ·simp only[vr,vm,or_false,not_or]at h;obtain⟨U,O,N,M,J,I,D⟩:=h;(have hL:b8 s=3:=by unfold b8;rw[gB U,gB O,gB (by simp[N,M]),gB (by simp[J,I,D])]);(have k1:(s.toList==[124,124])=false:=by rw[<-cy s [124,124]];exact gP U);(have k2:(s.toList==[38,38])=false:=by rw[<-cy s [38,38]];exact gP O);(have k3:(s.toList==[43])=false:=by rw[<-cy s [43]];exact gP N);(have k4:(s.toList==[45])=false:=by rw[<-cy s [45]];exact gP M);(have k5:(s.toList==[42])=false:=by rw[<-cy s [42]];exact gP J);(have k6:(s.toList==[47])=false:=by rw[<-cy s [47]];exact gP I);(have k7:(s.toList==[37])=false:=by rw[<-cy s [37]];exact gP D);clear U O N M J I D key;rw[hL];(go_enter func26,ntmps26);go_wp2_with fail;go_ret;exact⟨rfl,rfl⟩
def ym(k:Nat):ByteArray:=dx (fl (mP k))
theorem tB(k:Nat):(ym k).size=k:=by
 rw[<-dL];unfold ym;rw[bX];induction k with
 |zero=>rfl
 |succ k ih=>show([9]++fl (mP k)).length=k+1;rw[gM,ih];simp[Nat.add_comm]
theorem IR(k:Nat):ym k++(⟨#[9]⟩:BA)=ym (k+1):=by
 apply cQ;rw[aV];unfold ym;rw[bX,bX];induction k with
 |zero=>rfl
 |succ k ih=>show([9]++fl (mP k))++_=[9]++fl (mP (k+1));rw[gL,ih]
theorem DK(k:Nat)(J:k<=1000)(w:World):Calls prog 59 #[(k:Int)] w fun e w'=>e=.returned (.string (ym k))/\Below w w w':=by
 (go_enter func59,ntmps59);go_wp2_with fail;go_loopg [3,4] k (fun g u3 u4 wr=>∃i:Nat,i<=k/\k-i<=g/\u4=.int .i64 (i:Int)/\u3=.string (ym i)/\Below w w wr)
 case atStart=>exact⟨0,gQ _,by omega,rfl,rfl,gH _ _⟩
 case round=>
  obtain⟨i,M,N,rfl,rfl,hB⟩:=hrel;by_cases I:i<k
  ·(have D:(i:Int)<(k:Int):=by omega);(have O:(0:Int)<=(i:Int):=by omega);have hs:=tB i;go_wp2_with fail;go_roundg (k-(i+1))
   case measure=>omega
   case rel=>exact⟨i+1,by omega,by omega,by go_num,by rw[<-IR],hB⟩
  ·(have D:¬ (i:Int)<(k:Int):=by omega);(obtain rfl:i=k:=by omega);go_wp2_with fail;go_ret;exact⟨rfl,hB⟩
def fX(d:Nat):Prop:=∀(v:Value)(n:Nd)(w:World)(deep:Nat)(head:Bool),aF w v n->(aa d).expr n=true->deep+d<=1000->(tx ((ac d).expr n deep head)).size<=10000000000000000 ->
 Calls prog 9 #[v,(deep:Int),.bool head] w fun e w'=>e=.returned (.string (tx ((ac d).expr n deep head)))/\Below w w w'
def mO(d:Nat):Prop:=∀(v:Value)(n:Nd)(w:World)(deep:Nat),aF w v n->(aa d).block n=true->deep+d<=1000->(tx ((ac d).block n deep)).size<=10000000000000000 ->
 Calls prog 30 #[v,(deep:Int)] w fun e w'=>e=.returned (.string (tx ((ac d).block n deep)))/\Below w w w'
def yn(d:Nat):Prop:=∀(v:Value)(n:Nd)(w:World)(deep:Nat),aF w v n->(aa d).stmt n=true->deep+d<=1000->(tx ((ac d).stmt n deep false)).size<=10000000000000000 ->
 Calls prog 60 #[v,(deep:Int),.bool false] w fun e w'=>e=.returned (.string (tx ((ac d).stmt n deep false)))/\Below w w w'
theorem Oq(F:tZ)(n:Nd)(deep:Nat)(head:Bool):tx (aN F true n deep head)=(⟨#[40]⟩:BA)++tx (F.expr n deep false)++(⟨#[41]⟩:BA):=by show tx (cK 40::(F.expr n deep false++[cK 41]))=_;rw[ay,bD,ar];rfl
theorem pX(d:Nat)(N:fX d)(v:Value)(n:Nd)(w:World)(yes:Bool)(deep:Nat)(head:Bool)(I:aF w v n)(J:(aa d).expr n=true)(hd:deep+d<=1000)(O:(tx (aN (ac d) yes n deep head)).size<=10000000000000000):
  Calls prog 25 #[v,.bool yes,(deep:Int),.bool head] w fun e w'=>e=.returned (.string (tx (aN (ac d) yes n deep head)))/\Below w w w':=by
 obtain⟨A,cp,rfl,h⟩:=I.toC;have hB:=(aj w #[n.kind,n.text,.slice A n.kids.length cp,n.pos]).1;cases yes with
 |true=>have M:=hid (Oq (ac d) n deep head);rw[M.out,gE,gE]at O;have U:=hid (N _ n _ deep false (af.below I hB) J hd (by omega));generalize tx ((ac d).expr n deep false)=X at *;clear I J h N hd;(go_enter func25,ntmps25);go_wp2_with fail;refine U.out.mono ?_;rintro e w3⟨rfl,D⟩;go_wp2_with fail;go_ret;exact⟨by rw[M.out];rfl,au hB D⟩
 |false=>have U:=hid (N _ n _ deep head (af.below I hB) J hd O);have M:=hid (show tx (aN (ac d) false n deep head)=tx ((ac d).expr n deep head)from rfl);generalize tx ((ac d).expr n deep head)=X at *;clear I J h N hd O;(go_enter func25,ntmps25);go_wp2_with fail;refine U.out.mono ?_;rintro e w3⟨rfl,D⟩;go_wp2_with fail;go_ret;exact⟨by rw[M.out];rfl,au hB D⟩
theorem yo(d:Nat)(HE:fX d)(v:Value)(n:Nd)(w:World)(deep:Nat)(hv:aF w v n)(hn:∀x∈n.kids.drop 1,(if x.kind=11\/x.kind=12 then(aa d).typ x else(aa d).expr x)=true)(hd:deep+d<=1000)(hM:(tx (du (ac d) n deep)).size<=10000000000000000):
  Calls prog 27 #[v,(deep:Int)] w fun e w'=>e=.returned (.string (tx (du (ac d) n deep)))/\Below w w w':=by
 obtain⟨A,cp,rfl,hC⟩:=hv.toC;have gj:=hid (lu d);have yk:=hid HE;have HN:=hid hn;have HR:=hid (show tx (du (ac d) n deep)=tx (cr ch ((n.kids.drop 1).map (dE (ac d) deep)))from rfl);rw[HR.out]at hM;have gl:=pW ch (by decide) (dE (ac d) deep) (n.kids.drop 1);have HV:=hid hv;have hB:=(aj w #[n.kind,n.text,.slice A n.kids.length cp,n.pos]).1;have gh:=(aj w #[n.kind,n.text,.slice A n.kids.length cp,n.pos]).2;clear hv hC HE hn;(go_enter func27,ntmps27);go_wp2_with fail;generalize w.alloc (.cells #[n.kind,n.text,.slice A n.kids.length cp,n.pos] 24)=w0 at *;have gn:(n.kids.drop 1).length=n.kids.length-1:=jH ..;go_loopg [5,6] (n.kids.drop 1).length (fun k u5 u6 wr=>∃i:Nat,i<=(n.kids.drop 1).length/\(n.kids.drop 1).length-i<=k/\u6=.int .i64 ((i+1:Nat):Int)/\u5=.string (tx (cr ch (((n.kids.drop 1).take i).map (dE (ac d) deep))))/\Below w0 w0 wr)
 case atStart=>exact⟨0,gQ _,by omega,rfl,rfl,gH _ _⟩
 case round=>
  obtain⟨i,hi,N,rfl,rfl,M⟩:=hrel;have gm:=lS ch (dE (ac d) deep) (n.kids.drop 1) i hi;obtain⟨n0,n1,n2,n3,-,-,-,-⟩:=ab (gh.bl M);by_cases ga:i<(n.kids.drop 1).length
  ·(have gg:i+1<n.kids.length:=by omega);(have ge:((i+1:Nat):Int)<(n.kids.length:Int):=by omega);(have h0:(0:Int)<=((i+1:Nat):Int):=by omega);obtain⟨bp,op,A2,c2,gi,hp⟩:=ep (af.below HV.out (au hB M)) (i+1) gg;subst gi;have D:=hid (tz ch (dE (ac d) deep) (n.kids.drop 1) i ga);have J:=lS ch (dE (ac d) deep) (n.kids.drop 1) (i+1) ga;rw[D.out,gE,gE]at J;have HX:=hid (HN.out _ (gS ga));(have he:(n.kids.drop 1)[i]=n.kids[i+1]:=by rw[List.getElem_drop];congr 1;omega);rw[he]at D J HX;clear he;generalize n.kids[i+1]=x at *;generalize tx (cr ch (((n.kids.drop 1).take i).map (dE (ac d) deep)))=S at *;have O:Below wr wr (wr.alloc (.cells #[x.kind,x.text,.slice A2 x.kids.length c2,x.pos] 24)):=(gH _ wr).alloc (gC _) _;have hx:=hp.2.2.2.2;obtain⟨p0,p1,p2,p3,-⟩:=hp;by_cases N:x.kind=11\/x.kind=12
   ·have HK:=hid (HX.out);rw[gG N]at HK;(have hP:dE (ac d) deep x=ag d x:=by unfold dE;rw[gG N];cases d<;>rfl);rw[hP]at D J;have U:=hid (gj.out _ x _ (af.below hx O) HK.out (by omega));generalize tx (ag d x)=X at *;clear HX HK hP hx;rcases N with N|N<;>rw[N]at p0 U O<;>rcases kJ i with I|I;all_goals
     first
      |((have gb:¬ (1:Int)<((i+1:Nat):Int):=by omega);rw[rR ch I]at D J;simp only[lR]at D)
      |((have gb:(1:Int)<((i+1:Nat):Int):=by omega);rw[rS ch I,tw]at D J)
     clear I;go_wp2_with fail;refine U.out.mono ?_;rintro e w3⟨rfl,gd⟩;clear p0 p1 p2 p3 n0 n1 n2 n3;go_wp2_with fail;go_roundg ((n.kids.drop 1).length-(i+1))
     case measure=>omega
     case rel=>exact⟨i+1,by omega,gC _,by go_num,by first|exact jM Value.string D.out.symm|(rw[D.out];simp only[ar]),M.trans ((au O gd).mono M.size)⟩
   ·have HK:=hid (HX.out);rw[gB N]at HK;(have hP:dE (ac d) deep x=(ac d).expr x deep false:=by unfold dE;rw[gB N]);rw[hP]at D J;have U:=hid (yk.out _ x _ deep false (af.below hx O) HK.out hd (by omega));generalize tx ((ac d).expr x deep false)=X at *;(have k1:(x.kind==11)=false:=by rw[gF];exact fun h=>N (.inl h));(have k2:(x.kind==12)=false:=by rw[gF];exact fun h=>N (.inr h));clear HX HK hP hx N;rcases kJ i with I|I;all_goals
     first
      |((have gb:¬ (1:Int)<((i+1:Nat):Int):=by omega);rw[rR ch I]at D J;simp only[lR]at D)
      |((have gb:(1:Int)<((i+1:Nat):Int):=by omega);rw[rS ch I,tw]at D J)
     clear I;go_wp2_with fail;refine U.out.mono ?_;rintro e w3⟨rfl,gd⟩;clear p0 p1 p2 p3 n0 n1 n2 n3;go_wp2_with fail;go_roundg ((n.kids.drop 1).length-(i+1))
     case measure=>omega
     case rel=>exact⟨i+1,by omega,gC _,by go_num,by first|exact jM Value.string D.out.symm|(rw[D.out];simp only[ar]),M.trans ((au O gd).mono M.size)⟩
  ·(have ge:¬ ((i+1:Nat):Int)<(n.kids.length:Int):=by omega);have D:=hid (show tx (cr ch (((n.kids.drop 1).take i).map (dE (ac d) deep)))=tx (cr ch ((n.kids.drop 1).map (dE (ac d) deep)))by rw[gV (by omega)]);rw[<-D.out]at HR;generalize tx (cr ch (((n.kids.drop 1).take i).map (dE (ac d) deep)))=S at *;go_wp2_with fail;go_ret;exact⟨by rw[HR.out];rfl,au hB M⟩
theorem AK(s:ByteArray)(i:Nat)(D:i<s.size)(W:World):(Instr.index 9 (.string s) (.int .i64 (i:Int))).run prog W=.ok (.int .u8 (aI s i:Int)) W:=by rw[run_index_string (P:=prog) W 9 s .i64 (i:Int) underlying9];simp[aI,D];rfl
def Rr(s:ByteArray)(i:Nat):ByteArray:=dx (34::((bytes s).take i).flatMap cu)
def Tl(b:UInt8):ByteArray:=dx (cu b)
theorem Fi(x y:List UInt8):dx (x++y)=dx x++dx y:=by apply cQ;rw[aV,bX,bX,bX]
theorem Gq(s:ByteArray)(i:Nat)(h:i<s.size):Rr s (i+1)=Rr s i++Tl ((bytes s).getD i 0):=by have D:i<(bytes s).length:=h;unfold Rr Tl;rw[<-Fi,gU D,kI,jE,vq,kE,jB,gT D];rfl
theorem Tm(s:ByteArray):dx (dC (bytes s))=Rr s s.size++(⟨#[34]⟩:BA):=by unfold Rr dC;rw[show(⟨#[34]⟩:BA)=dx [34]from rfl,<-Fi,show(bytes s).take s.size=bytes s from gV (gC _)]
theorem Tn(b:UInt8):(Tl b).size<=4:=by(have:(cu b).length<=4:=by unfold cu;(repeat' split);all_goals simp);exact this
theorem Ot(s:ByteArray):∀i,i<=s.size->(Rr s i).size<=4*i+1
 |0,_=>by unfold Rr;rw[vx];exact gC _
 |i+1,h=>by have:=Ot s i (by omega);have:=Tn ((bytes s).getD i 0);rw[Gq s i (by omega),gE];omega
def IS:ByteArray:=(⟨#[48,49,50,51,52,53,54,55,56,57,97,98,99,100,101,102]⟩:BA)
theorem uy:∀n,n<16->IS.extract n (n+1)=⟨#[yG n]⟩:=by decide +kernel
theorem Rs{c:UInt8}(h:¬ (c=34\/c=92\/c=10\/c=9))(D:32<=c.toNat/\c.toNat<=126):Tl c=⟨#[c]⟩:=by simp only[not_or]at h;unfold Tl cu;rw[gB h.1,gB h.2.1,gB h.2.2.1,gB h.2.2.2,gG D];rfl
theorem Rt{c:UInt8}(h:¬ (c=34\/c=92\/c=10\/c=9))(D:¬ (32<=c.toNat/\c.toNat<=126)):Tl c=(⟨#[92,120]⟩:BA)++IS.extract (c.toNat/16) (c.toNat/16+1)++IS.extract (c.toNat%16) (c.toNat%16+1):=by have I:c.toNat<256:=vw c;rw[uy (c.toNat/16) (by omega),uy (c.toNat%16) (by omega)];simp only[not_or]at h;unfold Tl cu;rw[gB h.1,gB h.2.1,gB h.2.2.1,gB h.2.2.2,gB D];rfl
theorem Ou(s:ByteArray)(i:Nat)(h:i<s.size):s.extract i (i+1)=⟨#[(bytes s).getD i 0]⟩:=by apply cQ;have D:i<(bytes s).length:=h;rw[lO,show i+1-i=1 by omega,kF D,jB,gT D];rfl
theorem IT(s:ByteArray)(hs:s.size<=1000)(w:World):Calls prog 24 #[s] w fun e w'=>e=.returned (.string (dx (dC (bytes s))))/\Below w w w':=by
 have N:=hid (Tm s);(go_enter func24,ntmps24);go_wp2_with fail;go_loopg [3,4] s.size (fun k u3 u4 wr=>∃i:Nat,i<=s.size/\s.size-i<=k/\u4=.int .i64 (i:Int)/\u3=.string (Rr s i)/\Below w w wr)
 case atStart=>exact⟨0,gQ _,by omega,rfl,rfl,gH _ _⟩
 case round=>
  obtain⟨i,hi,hk,rfl,rfl,hB⟩:=hrel;have ga:=Ot s i hi;by_cases I:i<s.size
  ·(have J:(i:Int)<(s.size:Int):=by omega);(have h0:(0:Int)<=(i:Int):=by omega);have hb:=fun W=>AK s i I W;have M:=hid (Gq s i I);have HO:=hid (Ou s i I);have O:=ml s i;have D:aI s i=((bytes s).getD i 0).toNat:=rfl;generalize(bytes s).getD i 0=c at *;generalize aI s i=cn at *;generalize Rr s i=S at *;by_cases c1:c=34\/c=92\/c=10\/c=9
   ·rcases c1 with rfl|rfl|rfl|rfl;all_goals
     (first|(obtain rfl:cn=34:=D)|(obtain rfl:cn=92:=D)|(obtain rfl:cn=10:=D)|(obtain rfl:cn=9:=D));go_wp2_with fail;go_roundg (s.size-(i+1))
     case measure=>omega
     case rel=>exact⟨i+1,by omega,gC _,by go_num,by rw[M.out];rfl,hB⟩
   ·(have d1:cn≠34/\cn≠92/\cn≠10/\cn≠9:=by refine⟨?_,?_,?_,?_⟩<;>intro h<;>rw[D]at h<;>refine c1 ?_<;>simp only[<-vt]<;>simp only[h]<;>decide);(have e1:((cn:Int)==34)=false:=by rw[gF];omega);(have e2:((cn:Int)==92)=false:=by rw[gF];omega);(have e3:((cn:Int)==10)=false:=by rw[gF];omega);(have e4:((cn:Int)==9)=false:=by rw[gF];omega);by_cases c2:32<=cn/\cn<=126
    ·(have g1:(32:Int)<=(cn:Int):=by omega);(have g2:(cn:Int)<=126:=by omega);(have p0:(0:Int)<=(i:Int):=by omega);(have p1:(i:Int)<=(s.size:Int):=by omega);(have p2:(0:Int)<=(i:Int)+1:=by omega);(have p3:(i:Int)+1<=(s.size:Int):=by omega);have q1:IntKind.i64.wrap ((i:Int)+1)=(i:Int)+1:=jC _ (by omega);(have q2:((i:Int)+1).toNat=i+1:=by omega);rw[Rs c1 (by rw[<-D];exact c2)]at M;(have hz:(s.extract i (i+1)).size=1:=by rw[HO.out];rfl);clear D c1 c2 d1 O;go_wp2_with fail;go_roundg (s.size-(i+1))
     case measure=>omega
     case rel=>exact⟨i+1,by omega,gC _,by go_num,by rw[M.out,HO.out],hB⟩
    ·have g3:32<=cn->¬ cn<=126:=fun a b=>c2 ⟨a,b⟩;rw[Rt c1 (by rw[<-D];exact c2)]at M;(go_upto_region 6 with fail);all_goals
      (have z1:(IS.extract (c.toNat/16) (c.toNat/16+1)).size=1:=by rw[uy _ (by omega)];rfl);(have z2:(IS.extract (c.toNat%16) (c.toNat%16+1)).size=1:=by rw[uy _ (by omega)];rfl);unfold IS at z1 z2;refine cF wr ?_;(repeat(go_big_quiet_step (fail)));refine jQ ?_;intro m;have U:=m.ok;go_wp2_with fail;go_roundg (s.size-(i+1))
      case measure=>omega
      case rel=>exact⟨i+1,by omega,gC _,by go_num,by rw[M.out];rfl,au hB U⟩
  ·(have J:¬ (i:Int)<(s.size:Int):=by omega);(obtain rfl:i=s.size:=by omega);go_wp2_with fail;go_ret;exact⟨by rw[N.out];rfl,hB⟩
end
end Go.Proofs.YteialcjaiocjdaaGreatDoor
