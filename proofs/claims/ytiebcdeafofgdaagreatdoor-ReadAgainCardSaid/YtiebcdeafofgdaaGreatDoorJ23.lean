/-
  Parts of the proof: Pwh Pwg Pwi Pwj Pwk Pwl Pwm Pwn Pxa Pxb. By an AI agent.
-/
import Derived.Test.YtiebcdeafofgdaaGreatDoorJ22
import Derived.Test.YtiebcdeafofgdaaGreatDoorJ18
import Derived.Test.YtiebcdeafofgdaaGreatDoorJ01
import Derived.Test.YtiebcdeafofgdaaGreatDoorJ00
import Derived.Test.YtiebcdeafofgdaaGreatDoorJ17
import Derived.BigQuiet
import Derived.Deep.RegionHeld3
import Derived.Deep.DeepCutAuto
set_option maxRecDepth 100000
set_option maxHeartbeats 8000000
namespace Go.Proofs.YtiebcdeafofgdaaGreatDoor
section
open Go.RowKit Go.Lib Go.Proofs
attribute [local go_sem ↓] Go.wp_at_zero Go.wp_at_succ
def io(d:Nat):Prop:=∀(v:Value)(n:Nd)(w:World)(deep:Nat)(head:Bool),bR w v n->(aj d).expr n=true->deep+d<=1000->(tx ((ac d).expr n deep head)).size<=10000000000000000 ->
 Calls Tryz.prog 15 #[v,.int .i64 (deep:Int),.bool head] w fun e w'=>e=.returned (.string (tx ((ac d).expr n deep head)))/\Below w w w'
def nG(d:Nat):Prop:=∀(v:Value)(n:Nd)(w:World)(deep:Nat),bR w v n->(aj d).block n=true->deep+d<=1000->(tx ((ac d).block n deep)).size<=10000000000000000 ->
 Calls Tryz.prog 39 #[v,.int .i64 (deep:Int)] w fun e w'=>e=.returned (.string (tx ((ac d).block n deep)))/\Below w w w'
def Ak(d:Nat):Prop:=∀(v:Value)(n:Nd)(w:World)(deep:Nat),bR w v n->(aj d).stmt n=true->deep+d<=1000->(tx ((ac d).stmt n deep false)).size<=10000000000000000 ->
 Calls Tryz.prog 69 #[v,.int .i64 (deep:Int),.bool false] w fun e w'=>e=.returned (.string (tx ((ac d).stmt n deep false)))/\Below w w w'
theorem Oe(F:uR)(n:Nd)(deep:Nat)(head:Bool):tx (aM F true n deep head)=(⟨#[40]⟩:BA)++tx (F.expr n deep false)++(⟨#[41]⟩:BA):=by show tx (cX 40::(F.expr n deep false++[cX 41]))=_;rw[aC,bG,aA];rfl
theorem rD(d:Nat)(N:io d)(v:Value)(n:Nd)(w:World)(yes:Bool)(deep:Nat)(head:Bool)(I:bR w v n)(J:(aj d).expr n=true)(hd:deep+d<=1000)(O:(tx (aM (ac d) yes n deep head)).size<=10000000000000000):
  Calls Tryz.prog 34 #[v,.bool yes,.int .i64 (deep:Int),.bool head] w fun e w'=>e=.returned (.string (tx (aM (ac d) yes n deep head)))/\Below w w w':=by
 obtain⟨A,cp,rfl,h⟩:=I.toC;have hB:=(aH w #[.int .i64 n.kind,.string n.text,.slice A n.kids.length cp,.int .i64 n.pos]).1;cases yes with
 |true=>have M:=hid (Oe (ac d) n deep head);rw[M.out,gD,gD]at O;have U:=hid (N _ n _ deep false (aq.below I hB) J hd (by omega));generalize tx ((ac d).expr n deep false)=X at *;clear I J h N hd;(go_enter Tryz.func34,Tryz.ntmps34);(go_wp2_with fail);refine U.out.mono ?_;rintro e w3⟨rfl,D⟩;(go_wp2_with fail);go_ret;exact⟨by rw[M.out];rfl,a8 hB D⟩
 |false=>have U:=hid (N _ n _ deep head (aq.below I hB) J hd O);have M:=hid (show tx (aM (ac d) false n deep head)=tx ((ac d).expr n deep head)from rfl);generalize tx ((ac d).expr n deep head)=X at *;clear I J h N hd O;(go_enter Tryz.func34,Tryz.ntmps34);(go_wp2_with fail);refine U.out.mono ?_;rintro e w3⟨rfl,D⟩;(go_wp2_with fail);go_ret;exact⟨by rw[M.out];rfl,a8 hB D⟩
theorem Al(d:Nat)(HE:io d)(v:Value)(n:Nd)(w:World)(deep:Nat)(hv:bR w v n)(hn:∀x∈n.kids.drop 1,(if x.kind=11\/x.kind=12 then(aj d).typ x else(aj d).expr x)=true)(hd:deep+d<=1000)(hM:(tx (di (ac d) n deep)).size<=10000000000000000):
  Calls Tryz.prog 36 #[v,.int .i64 (deep:Int)] w fun e w'=>e=.returned (.string (tx (di (ac d) n deep)))/\Below w w w':=by
 obtain⟨A,cp,rfl,hC⟩:=hv.toC;have gj:=hid (lS d);have yk:=hid HE;have HN:=hid hn;have HR:=hid (show tx (di (ac d) n deep)=tx (cv ci ((n.kids.drop 1).map (dy (ac d) deep)))from rfl);rw[HR.out]at hM;have gl:=rC ci (by decide) (dy (ac d) deep) (n.kids.drop 1);have HV:=hid hv;have hB:=(aH w #[.int .i64 n.kind,.string n.text,.slice A n.kids.length cp,.int .i64 n.pos]).1;have gh:=(aH w #[.int .i64 n.kind,.string n.text,.slice A n.kids.length cp,.int .i64 n.pos]).2;clear hv hC HE hn;(go_enter Tryz.func36,Tryz.ntmps36);(go_wp2_with fail);generalize w.alloc (.cells #[.int .i64 n.kind,.string n.text,.slice A n.kids.length cp,.int .i64 n.pos] 24)=w0 at *;have gn:(n.kids.drop 1).length=n.kids.length-1:=gR ..;go_loopg [5,6] (n.kids.drop 1).length (fun k u5 u6 wr=>∃i:Nat,i<=(n.kids.drop 1).length/\(n.kids.drop 1).length-i<=k/\u6=.int .i64 ((i+1:Nat):Int)/\u5=.string (tx (cv ci (((n.kids.drop 1).take i).map (dy (ac d) deep))))/\Below w0 w0 wr)
 case atStart=>exact⟨0,gP _,by omega,rfl,rfl,gG _ _⟩
 case round=>
  obtain⟨i,hi,N,rfl,rfl,M⟩:=hrel;have gm:=mu ci (dy (ac d) deep) (n.kids.drop 1) i hi;obtain⟨n0,n1,n2,n3,-,-,-,-⟩:=ag (gh.bl M);by_cases ga:i<(n.kids.drop 1).length
  ·(have gg:i+1<n.kids.length:=by omega);(have ge:((i+1:Nat):Int)<(n.kids.length:Int):=by omega);(have h0:(0:Int)<=((i+1:Nat):Int):=by omega);obtain⟨bp,op,A2,c2,gi,hp⟩:=eR (aq.below HV.out (a8 hB M)) (i+1) gg;subst gi;have D:=hid (uo ci (dy (ac d) deep) (n.kids.drop 1) i ga);have J:=mu ci (dy (ac d) deep) (n.kids.drop 1) (i+1) ga;rw[D.out,gD,gD]at J;have HX:=hid (HN.out _ (jC ga));(have he:(n.kids.drop 1)[i]=n.kids[i+1]:=by rw[List.getElem_drop];congr 1;omega);rw[he]at D J HX;clear he;generalize n.kids[i+1]=x at *;generalize tx (cv ci (((n.kids.drop 1).take i).map (dy (ac d) deep)))=S at *;have O:Below wr wr (wr.alloc (.cells #[.int .i64 x.kind,.string x.text,.slice A2 x.kids.length c2,.int .i64 x.pos] 24)):=(gG _ wr).alloc (d5 _) _;have hx:=hp.2.2.2.2;unfold nv at hx;obtain⟨p0,p1,p2,p3,-⟩:=hp;by_cases N:x.kind=11\/x.kind=12
   ·have HK:=hid (HX.out);rw[gE N]at HK;(have hP:dy (ac d) deep x=af d x:=by unfold dy;rw[gE N];cases d<;>rfl);rw[hP]at D J;have U:=hid (gj.out _ x _ (aq.below hx O) HK.out (by omega));generalize tx (af d x)=X at *;clear HX HK hP hx;rcases N with N|N<;>rw[N]at p0 U O<;>rcases kQ i with I|I;all_goals
     first
      |((have gb:¬ (1:Int)<((i+1:Nat):Int):=by omega);rw[sw ci I]at D J;simp only[ms]at D)
      |((have gb:(1:Int)<((i+1:Nat):Int):=by omega);rw[sx ci I,un]at D J)
     clear I;(go_wp2_with fail);refine U.out.mono ?_;rintro e w3⟨rfl,gd⟩;clear p0 p1 p2 p3 n0 n1 n2 n3;(go_wp2_with fail);go_roundg ((n.kids.drop 1).length-(i+1))
     case measure=>omega
     case rel=>exact⟨i+1,by omega,d5 _,by go_num,by first|exact jH Value.string D.out.symm|(rw[D.out];simp only[aA]),M.trans ((a8 O gd).mono M.size)⟩
   ·have HK:=hid (HX.out);rw[gA N]at HK;(have hP:dy (ac d) deep x=(ac d).expr x deep false:=by unfold dy;rw[gA N]);rw[hP]at D J;have U:=hid (yk.out _ x _ deep false (aq.below hx O) HK.out hd (by omega));generalize tx ((ac d).expr x deep false)=X at *;(have k1:(x.kind==11)=false:=by rw[gF];exact fun h=>N (.inl h));(have k2:(x.kind==12)=false:=by rw[gF];exact fun h=>N (.inr h));clear HX HK hP hx N;rcases kQ i with I|I;all_goals
     first
      |((have gb:¬ (1:Int)<((i+1:Nat):Int):=by omega);rw[sw ci I]at D J;simp only[ms]at D)
      |((have gb:(1:Int)<((i+1:Nat):Int):=by omega);rw[sx ci I,un]at D J)
     clear I;(go_wp2_with fail);refine U.out.mono ?_;rintro e w3⟨rfl,gd⟩;clear p0 p1 p2 p3 n0 n1 n2 n3;(go_wp2_with fail);go_roundg ((n.kids.drop 1).length-(i+1))
     case measure=>omega
     case rel=>exact⟨i+1,by omega,d5 _,by go_num,by first|exact jH Value.string D.out.symm|(rw[D.out];simp only[aA]),M.trans ((a8 O gd).mono M.size)⟩
  ·(have ge:¬ ((i+1:Nat):Int)<(n.kids.length:Int):=by omega);have D:=hid (show tx (cv ci (((n.kids.drop 1).take i).map (dy (ac d) deep)))=tx (cv ci ((n.kids.drop 1).map (dy (ac d) deep)))by rw[jK (by omega)]);rw[<-D.out]at HR;generalize tx (cv ci (((n.kids.drop 1).take i).map (dy (ac d) deep)))=S at *;(go_wp2_with fail);go_ret;exact⟨by rw[HR.out];rfl,a8 hB M⟩
theorem BP(s:ByteArray)(i:Nat)(D:i<s.size)(W:World):(Instr.index 9 (.string s) (.int .i64 (i:Int))).run Tryz.prog W=.ok (.int .u8 (aa s i:Int)) W:=by rw[run_index_string (P:=Tryz.prog) W 9 s .i64 (i:Int) Tryz.underlying9];simp[aa,D];rfl
def P8(s:ByteArray)(i:Nat):ByteArray:=d8 (34::((bytes s).take i).flatMap cu)
def S2(b:UInt8):ByteArray:=d8 (cu b)
theorem FT(x y:List UInt8):d8 (x++y)=d8 x++d8 y:=by apply cm;rw[aY,bO,bO,bO]
theorem GK(s:ByteArray)(i:Nat)(h:i<s.size):P8 s (i+1)=P8 s i++S2 ((bytes s).getD i 0):=by have D:i<(bytes s).length:=h;unfold P8 S2;rw[<-FT,kF D,kO,jA,vu,kG,gN,gQ D];rfl
theorem S3(s:ByteArray):d8 (cj (bytes s))=P8 s s.size++(⟨#[34]⟩:BA):=by unfold P8 cj;rw[show(⟨#[34]⟩:BA)=d8 [34]from rfl,<-FT,show(bytes s).take s.size=bytes s from jK (d5 _)]
theorem S4(b:UInt8):(S2 b).size<=4:=by(have:(cu b).length<=4:=by unfold cu;(repeat' split);all_goals simp);exact this
theorem Of(s:ByteArray):∀i,i<=s.size->(P8 s i).size<=4*i+1
 |0,_=>by unfold P8;rw[qu];exact d5 _
 |i+1,h=>by have:=Of s i (by omega);have:=S4 ((bytes s).getD i 0);rw[GK s i (by omega),gD];omega
def I6:ByteArray:=(⟨#[48,49,50,51,52,53,54,55,56,57,97,98,99,100,101,102]⟩:BA)
theorem wC:∀n,n<16->I6.extract n (n+1)=⟨#[AI n]⟩:=by decide +kernel
theorem P9{c:UInt8}(h:¬ (c=34\/c=92\/c=10\/c=9))(D:32<=c.toNat/\c.toNat<=126):S2 c=⟨#[c]⟩:=by simp only[not_or]at h;unfold S2 cu;rw[gA h.1,gA h.2.1,gA h.2.2.1,gA h.2.2.2,gE D];rfl
theorem Ra{c:UInt8}(h:¬ (c=34\/c=92\/c=10\/c=9))(D:¬ (32<=c.toNat/\c.toNat<=126)):S2 c=(⟨#[92,120]⟩:BA)++I6.extract (c.toNat/16) (c.toNat/16+1)++I6.extract (c.toNat%16) (c.toNat%16+1):=by have I:c.toNat<256:=vi c;rw[wC (c.toNat/16) (by omega),wC (c.toNat%16) (by omega)];simp only[not_or]at h;unfold S2 cu;rw[gA h.1,gA h.2.1,gA h.2.2.1,gA h.2.2.2,gA D];rfl
theorem Og(s:ByteArray)(i:Nat)(h:i<s.size):s.extract i (i+1)=⟨#[(bytes s).getD i 0]⟩:=by apply cm;have D:i<(bytes s).length:=h;rw[dN,show i+1-i=1 by omega,jX D,gN,gQ D];rfl
theorem I7(s:ByteArray)(hs:s.size<=1000)(w:World):Calls Tryz.prog 33 #[.string s] w fun e w'=>e=.returned (.string (d8 (cj (bytes s))))/\Below w w w':=by
 have N:=hid (S3 s);(go_enter Tryz.func33,Tryz.ntmps33);(go_wp2_with fail);go_loopg [3,4] s.size (fun k u3 u4 wr=>∃i:Nat,i<=s.size/\s.size-i<=k/\u4=.int .i64 (i:Int)/\u3=.string (P8 s i)/\Below w w wr)
 case atStart=>exact⟨0,gP _,by omega,rfl,rfl,gG _ _⟩
 case round=>
  obtain⟨i,hi,hk,rfl,rfl,hB⟩:=hrel;have ga:=Of s i hi;by_cases I:i<s.size
  ·(have J:(i:Int)<(s.size:Int):=by omega);(have h0:(0:Int)<=(i:Int):=by omega);have hb:=fun W=>BP s i I W;have M:=hid (GK s i I);have HO:=hid (Og s i I);have O:=eU s i;have D:aa s i=((bytes s).getD i 0).toNat:=rfl;generalize(bytes s).getD i 0=c at *;generalize aa s i=cn at *;generalize P8 s i=S at *;by_cases c1:c=34\/c=92\/c=10\/c=9
   ·rcases c1 with rfl|rfl|rfl|rfl;all_goals
     (first|(obtain rfl:cn=34:=D)|(obtain rfl:cn=92:=D)|(obtain rfl:cn=10:=D)|(obtain rfl:cn=9:=D));(go_wp2_with fail);go_roundg (s.size-(i+1))
     case measure=>omega
     case rel=>exact⟨i+1,by omega,d5 _,by go_num,by rw[M.out];rfl,hB⟩
   ·(have d1:cn≠34/\cn≠92/\cn≠10/\cn≠9:=by refine⟨?_,?_,?_,?_⟩<;>intro h<;>rw[D]at h<;>refine c1 ?_<;>simp only[<-UInt8.toNat_inj]<;>simp only[h]<;>decide);(have e1:((cn:Int)==34)=false:=by rw[gF];omega);(have e2:((cn:Int)==92)=false:=by rw[gF];omega);(have e3:((cn:Int)==10)=false:=by rw[gF];omega);(have e4:((cn:Int)==9)=false:=by rw[gF];omega);by_cases c2:32<=cn/\cn<=126
    ·(have g1:(32:Int)<=(cn:Int):=by omega);(have g2:(cn:Int)<=126:=by omega);(have p0:(0:Int)<=(i:Int):=by omega);(have p1:(i:Int)<=(s.size:Int):=by omega);(have p2:(0:Int)<=(i:Int)+1:=by omega);(have p3:(i:Int)+1<=(s.size:Int):=by omega);have q1:IntKind.i64.wrap ((i:Int)+1)=(i:Int)+1:=gO _ (by omega);(have q2:((i:Int)+1).toNat=i+1:=by omega);rw[P9 c1 (by rw[<-D];exact c2)]at M;(have hz:(s.extract i (i+1)).size=1:=by rw[HO.out];rfl);clear D c1 c2 d1 O;(go_wp2_with fail);go_roundg (s.size-(i+1))
     case measure=>omega
     case rel=>exact⟨i+1,by omega,d5 _,by go_num,by rw[M.out,HO.out],hB⟩
    ·have g3:32<=cn->¬ cn<=126:=fun a b=>c2 ⟨a,b⟩;rw[Ra c1 (by rw[<-D];exact c2)]at M;(go_upto_region 6 with fail);all_goals
      (have z1:(I6.extract (c.toNat/16) (c.toNat/16+1)).size=1:=by rw[wC _ (by omega)];rfl);(have z2:(I6.extract (c.toNat%16) (c.toNat%16+1)).size=1:=by rw[wC _ (by omega)];rfl);unfold I6 at z1 z2;refine cQ wr ?_;(repeat(go_big_quiet_step (fail)));refine jS ?_;intro m;have U:=m.ok;(go_wp2_with fail);go_roundg (s.size-(i+1))
      case measure=>omega
      case rel=>exact⟨i+1,by omega,d5 _,by go_num,by rw[M.out];rfl,a8 hB U⟩
  ·(have J:¬ (i:Int)<(s.size:Int):=by omega);(obtain rfl:i=s.size:=by omega);(go_wp2_with fail);go_ret;exact⟨by rw[N.out];rfl,hB⟩
def Am(d:Nat)(P:Int->Prop):Prop:=∀(v:Value)(n:Nd)(w:World)(deep:Nat)(head:Bool),bR w v n->dc (aj d) n=true->P n.kind->deep+d<=1000->(tx (mI (ac d) n deep head)).size<=10000000000000000 ->
 Calls Tryz.prog 15 #[v,.int .i64 (deep:Int),.bool head] w fun e w'=>e=.returned (.string (tx (mI (ac d) n deep head)))/\Below w w w'
theorem Oh(d:Nat):Am d (fun k=>k=16\/k=18):=by
 intro v n w deep head hv hn D hd hM;obtain⟨A,cp,rfl,I⟩:=hv.toC;have hB:=(aH w #[.int .i64 n.kind,.string n.text,.slice A n.kids.length cp,.int .i64 n.pos]).1;have J:Hid (tx (mI (ac d) n deep head)=n.text):=by
  refine hid ?_;unfold mI;rcases D with h|h<;>rw[h]
  ·exact Ac 4 n.text
  ·exact py n.text
 clear hv hn I hd hM;rcases D with h|h<;>rw[h]at hB |-;all_goals(go_enter Tryz.func15,Tryz.ntmps15);(go_wp2_with fail);go_ret;exact⟨by rw[J.out];rfl,hB⟩
theorem Rb(d:Nat):Am d (fun k=>k=17):=by intro v n w deep head hv hn hk hd hM;obtain⟨A,cp,rfl,I⟩:=hv.toC;have hB:=(aH w #[.int .i64 n.kind,.string n.text,.slice A n.kids.length cp,.int .i64 n.pos]).1;(have J:Hid (tx (mI (ac d) n deep head)=d8 (cj (bytes n.text))):=by refine hid ?_;unfold mI;rw[gA (by omega),gE hk];apply cm;rw[rA,bO];exact kG _);(have hs:n.text.size<=1000:=by unfold dc at hn;rw[gA (by omega),gE hk]at hn;obtain⟨t,l,a,rfl,hs,-⟩:=aJ (by decide) hn;exact of_decide_eq_true hs);have M:=hid (fun w'=>I7 n.text hs w');clear hv hn I hd hM;rw[hk]at hB |-;(go_enter Tryz.func15,Tryz.ntmps15);(go_wp2_with fail);refine(M.out _).mono ?_;rintro e w3⟨rfl,D⟩;(go_wp2_with fail);go_ret;exact⟨by rw[J.out];rfl,a8 hB D⟩
theorem GL{W:World}{b:Nat}{t:TypeId}{v0 v1 v2 v3:Value}(h:au W b t #[v0,v1,v2,v3]):
  (∀m:Wd (Below W W),m.wd.cell? ⟨b,0,none⟩=some v0)/\(∀m:Wd (Below W W),m.wd.cell? ⟨b,1,none⟩=some v1)/\(∀m:Wd (Below W W),m.wd.cell? ⟨b,2,none⟩=some v2)/\(∀m:Wd (Below W W),m.wd.cell? ⟨b,3,none⟩=some v3):=
 ⟨fun m=>((h.bl m.ok).cell 0).trans rfl,fun m=>((h.bl m.ok).cell 1).trans rfl,fun m=>((h.bl m.ok).cell 2).trans rfl,fun m=>((h.bl m.ok).cell 3).trans rfl⟩
theorem Ao{W:World}{b o:Nat}{x:Nd}{A:Option Addr}{c:Nat}(h:K4 W b o x A c):
  (∀m:Wd (Below W W),m.wd.cell? ⟨b,o,none⟩=some (.int .i64 x.kind))/\(∀m:Wd (Below W W),m.wd.cell? ⟨b,o+1,none⟩=some (.string x.text))/\(∀m:Wd (Below W W),m.wd.cell? ⟨b,o+2,none⟩=some (.slice A x.kids.length c))/\(∀m:Wd (Below W W),m.wd.cell? ⟨b,o+3,none⟩=some (.int .i64 x.pos)):=
 ⟨fun m=>(h.below m.ok).1,fun m=>(h.below m.ok).2.1,fun m=>(h.below m.ok).2.2.1,fun m=>(h.below m.ok).2.2.2.1⟩
theorem FU(n x:Nd):fa n x=((x.kind==20)||((x.kind==19)&&((n.text.toList==[45])&&(x.text.toList==[45])))):=by unfold fa;rw[dz,dz];rfl
theorem Oi(F:uR)(t:ByteArray)(x:Nd)(p:Int)(deep:Nat)(head:Bool):tx (mI F (.mk 19 t [x] p) deep head)=t++tx (aM F (fa (.mk 19 t [x] p) x) x deep head):=by show tx (pb t::aM F _ x deep head)=_;rw[aC,N9];rfl
theorem S5(d:Nat)(HE:io d):Am d (fun k=>k=19):=by
 intro v n w deep head hv hn hk hd hM;unfold dc at hn;rw[gA (by omega),gA (by omega),gA (by omega),gE hk]at hn;obtain⟨t,l,p,rfl,-,h0⟩:=aJ (by decide) hn;obtain⟨x,rfl,hx⟩:=ep h0;have HR:=hid (Oi (ac d) t x p deep head);rw[HR.out,gD]at hM;have J:=hid (FU (.mk 19 t [x] p) x);obtain⟨A,cp,rfl,hC⟩:=hv.toC;simp only[Nd.kind_mk,Nd.text_mk,Nd.kids_mk,Nd.pos_mk]at *;have hB:=(aH w #[.int .i64 19,.string t,.slice A 1 cp,.int .i64 p]).1;have M:bR w (.agg #[.int .i64 19,.string t,.slice A 1 cp,.int .i64 p]) (.mk 19 t [x] p):=hv;obtain⟨bp,op,D,c2,rfl,O⟩:=eR (aq.below M hB) 0 (by simp);simp only[Nd.kids_mk,jM,kE,jP]at O;have ga:=hB.alloc (by simp) (.cells #[.int .i64 x.kind,.string x.text,.slice D x.kids.length c2,.int .i64 x.pos] 24);have hX:au ((w.alloc (.cells #[.int .i64 19,.string t,.slice (some ⟨bp,op,none⟩) 1 cp,.int .i64 p] 24)).alloc (.cells #[.int .i64 x.kind,.string x.text,.slice D x.kids.length c2,.int .i64 x.pos] 24)) (w.heap.size+1) 24 #[.int .i64 x.kind,.string x.text,.slice D x.kids.length c2,.int .i64 x.pos]:=au.new_at (by simp) _ _;have hN:=(show au (w.alloc (.cells #[.int .i64 19,.string t,.slice (some ⟨bp,op,none⟩) 1 cp,.int .i64 p] 24)) w.heap.size 24 #[.int .i64 19,.string t,.slice (some ⟨bp,op,none⟩) 1 cp,.int .i64 p]from au.new w _ _).alloc (.cells #[.int .i64 x.kind,.string x.text,.slice D x.kids.length c2,.int .i64 x.pos] 24);have I:=aq.below O.2.2.2.2 ((gG _ _).alloc (d5 _) (.cells #[.int .i64 x.kind,.string x.text,.slice D x.kids.length c2,.int .i64 x.pos] 24));obtain⟨p0,p1,p2,p3,-⟩:=O;clear hv hC M hB h0;(go_enter Tryz.func15,Tryz.ntmps15);(go_upto_region 6 with fail);generalize(w.alloc (.cells #[.int .i64 19,.string t,.slice (some ⟨bp,op,none⟩) 1 cp,.int .i64 p] 24)).alloc (.cells #[.int .i64 x.kind,.string x.text,.slice D x.kids.length c2,.int .i64 x.pos] 24)=W at *;have HX:=hid (fun m:Wd (Below W W)=>rD d HE _ x m.wd (fa (.mk 19 t [x] p) x) deep head (aq.below I m.ok) hx hd (by omega));obtain⟨x0,x1,x2,x3⟩:=GL hX;obtain⟨-,n1,-,-⟩:=GL hN;generalize tx (aM (ac d) (fa (.mk 19 t [x] p) x) x deep head)=X at *;clear hX hN I hx HE p0 p1 p2 p3;cases gb:(x.kind==20)
 rotate_left
 rotate_left
 cases gd:(x.kind==19)
 rotate_left
 cases U:(t.toList==[45])<;>cases N:(x.text.toList==[45]);all_goals
  (try rw[gd]at J);(try rw[U,N]at J);rw[gb]at J;first
   |rw[show fa (.mk 19 t [x] p) x=true from J.out]at HX
   |rw[show fa (.mk 19 t [x] p) x=false from J.out]at HX
  refine cQ W ?_;(repeat(go_big_quiet_step ((go_at_call 34;rename_i m;refine(HX.out m).mono ?_;rintro e w'⟨rfl,hb⟩;exact⟨rfl,⟨w',a8 m.ok hb⟩,rfl⟩))));refine jS ?_;intro m;have h:=a8 ga m.ok;(go_wp2_with fail);go_ret;exact⟨by rw[HR.out];rfl,h⟩
theorem Oj(F:uR)(t:ByteArray)(a b:Nd)(p:Int)(deep:Nat)(head:Bool):tx (mI F (.mk 20 t [a,b] p) deep head)=tx (aM F (fb (.mk 20 t [a,b] p) a) a deep head)++(⟨#[32]⟩:BA)++t++(⟨#[32]⟩:BA)++tx (aM F (eM (.mk 20 t [a,b] p) b) b deep head):=by show tx (aM F _ a deep head++(bc::pb t::bc::aM F _ b deep head))=_;rw[bG,aC,aC (pb t),aC bc (aM F _ b deep head),N9,Ae,aA,aA,aA];rfl
theorem Rc(d:Nat)(HE:io d):Am d (fun k=>k=20):=by
 intro v n w deep head hv hn hk hd hM;unfold dc at hn;rw[gA (by omega),gA (by omega),gA (by omega),gA (by omega),gE hk]at hn;obtain⟨t,l,p,rfl,-,h0⟩:=aJ (by decide) hn;obtain⟨a,b,rfl,ha,hb⟩:=li h0;have HR:=hid (Oj (ac d) t a b p deep head);rw[HR.out,gD,gD,gD,gD]at hM;obtain⟨A,cp,rfl,hC⟩:=hv.toC;simp only[Nd.kind_mk,Nd.text_mk,Nd.kids_mk,Nd.pos_mk]at *;have hB:=(aH w #[.int .i64 20,.string t,.slice A 2 cp,.int .i64 p]).1;have gg:bR w (.agg #[.int .i64 20,.string t,.slice A 2 cp,.int .i64 p]) (.mk 20 t [a,b] p):=hv;have hN:=(aH w #[.int .i64 20,.string t,.slice A 2 cp,.int .i64 p]).2;obtain⟨bp,op,A2,c2,A3,c3,rfl,hp,hq⟩:=FR (aq.below gg hB);(go_enter Tryz.func15,Tryz.ntmps15);(go_upto_region 8 with fail);generalize w.alloc (.cells #[.int .i64 20,.string t,.slice (some ⟨bp,op,none⟩) 2 cp,.int .i64 p] 24)=W at *;have KS:∀w',Below W W w'->(w'.cell? ⟨w,1,none⟩=some (.string t)/\w'.cell? ⟨w,2,none⟩=some (.slice (some ⟨bp,op,none⟩) 2 cp)/\w'.cell? ⟨bp,op,none⟩=some (.int .i64 a.kind)/\w'.cell? ⟨bp,op+1,none⟩=some (.string a.text)/\w'.cell? ⟨bp,op+2,none⟩=some (.slice A2 a.kids.length c2)/\w'.cell? ⟨bp,op+3,none⟩=some (.int .i64 a.pos) /\
   w'.cell? ⟨bp,op+4,none⟩=some (.int .i64 b.kind)/\w'.cell? ⟨bp,op+4+1,none⟩=some (.string b.text)/\w'.cell? ⟨bp,op+4+2,none⟩=some (.slice A3 b.kids.length c3)/\w'.cell? ⟨bp,op+4+3,none⟩=some (.int .i64 b.pos)):=fun w' h=>
  ⟨(ag (hN.bl h)).2.1,(ag (hN.bl h)).2.2.1,(hp.below h).1,(hp.below h).2.1,(hp.below h).2.2.1,(hp.below h).2.2.2.1,(hq.below h).1,(hq.below h).2.1,(hq.below h).2.2.1,(hq.below h).2.2.2.1⟩
 have M:Hid (fb (.mk 20 t [a,b] p) a=((a.kind==20)&&decide ((bY a.text:Int)<(bY t:Int)))):=hid (by unfold fb;congr 1;rw[qf];exact Int.ofNat_lt.symm);have N:Hid (eM (.mk 20 t [a,b] p) b=((b.kind==20)&&decide ((bY b.text:Int)<=(bY t:Int)))):=hid (by unfold eM;congr 1;rw[qf];exact Int.ofNat_le.symm);have J:=hp.2.2.2.2;have I:=hq.2.2.2.2;have gh:=hid (fun W=>uq t W);clear hv hC gg h0;go_cut [8,9,10] (fun s8 s9 s10 wx=>∃ga gb,s8=.pointer (some ⟨ga,0,none⟩)/\s9=.pointer (some ⟨gb,0,none⟩)/\s10=.int .i64 (bY t:Int)/\Below W W wx /\
  au wx ga 24 #[.int .i64 a.kind,.string a.text,.slice A2 a.kids.length c2,.int .i64 a.pos]/\au wx gb 24 #[.int .i64 b.kind,.string b.text,.slice A3 b.kids.length c3,.int .i64 b.pos])
 case first=>
  go_region_held3 (fun w'=>w'.cell? ⟨w,1,none⟩=some (.string t)/\w'.cell? ⟨w,2,none⟩=some (.slice (some ⟨bp,op,none⟩) 2 cp)/\w'.cell? ⟨bp,op,none⟩=some (.int .i64 a.kind)/\w'.cell? ⟨bp,op+1,none⟩=some (.string a.text)/\w'.cell? ⟨bp,op+2,none⟩=some (.slice A2 a.kids.length c2)/\w'.cell? ⟨bp,op+3,none⟩=some (.int .i64 a.pos) /\
    w'.cell? ⟨bp,op+4,none⟩=some (.int .i64 b.kind)/\w'.cell? ⟨bp,op+4+1,none⟩=some (.string b.text)/\w'.cell? ⟨bp,op+4+2,none⟩=some (.slice A3 b.kids.length c3)/\w'.cell? ⟨bp,op+4+3,none⟩=some (.int .i64 b.pos))
   (exact KS _ bel)
   ((go_at_call 35;refine(gh.out _).mono ?_;rintro e w'⟨rfl,rfl⟩))
  all_goals
   (go_wp2_with fail);go_meet;first
    |exact⟨W.heap.size,W.heap.size+1,rfl,rfl,rfl,bel,(au.new W _ _).alloc _,au.new_at (by simp) _ _⟩
    |exact⟨W.heap.size+1,W.heap.size,rfl,rfl,rfl,bel,au.new_at (by simp) _ _,(au.new W _ _).alloc _⟩
 case rest=>
  obtain⟨ga,gb,rfl,rfl,rfl,D,ge,gd⟩:=hcut;have hN:=hN.bl D;have J:=aq.below J D;have I:=aq.below I D;have gl:=a8 hB D;clear hp hq KS gh D hB;generalize wc=V at *;have gn:=hid (fun m:Wd (Below V V)=>uq a.text m.wd);have gm:=hid (fun m:Wd (Below V V)=>uq b.text m.wd);generalize(bY a.text:Int)=la at *;generalize(bY b.text:Int)=lb at *;generalize(bY t:Int)=lt at *;have U:=hid (fun m:Wd (Below V V)=>rD d HE _ a m.wd (fb (.mk 20 t [a,b] p) a) deep head (aq.below J m.ok) ha hd (by omega));have O:=hid (fun m:Wd (Below V V)=>rD d HE _ b m.wd (eM (.mk 20 t [a,b] p) b) deep head (aq.below I m.ok) hb hd (by omega));generalize tx (aM (ac d) (fb (.mk 20 t [a,b] p) a) a deep head)=X at *;generalize tx (aM (ac d) (eM (.mk 20 t [a,b] p) b) b deep head)=Y at *;obtain⟨a0,a1,a2,a3⟩:=GL ge;obtain⟨b0,b1,b2,b3⟩:=GL gd;obtain⟨-,n1,-,-⟩:=GL hN;clear ge gd hN J I HE ha hb hn;cases gj:(a.kind==20)<;>cases gi:(b.kind==20);all_goals
   rw[gj]at M;rw[gi]at N;first
    |rw[show fb (.mk 20 t [a,b] p) a=false from M.out]at U
    |rw[show fb (.mk 20 t [a,b] p) a=decide (la<lt)from M.out]at U
   first
    |rw[show eM (.mk 20 t [a,b] p) b=false from N.out]at O
    |rw[show eM (.mk 20 t [a,b] p) b=decide (lb<=lt)from N.out]at O
   (go_upto_region 9 with fail);refine cQ V ?_;repeat(go_big_quiet_step (first
    |(go_at_call 35;rename_i m;((with_reducible first|refine(gn.out m).mono ?_ |refine(gm.out m).mono ?_);rintro e w'⟨rfl,rfl⟩);exact⟨rfl,m,rfl⟩)
    |(go_at_call 34;rename_i m;with_reducible exact uV U.out m)
    |(go_at_call 34;rename_i m;with_reducible exact uV O.out m)))
   refine jS ?_;intro m;have gk:=a8 gl m.ok;(go_wp2_with fail);go_ret;exact⟨by rw[HR.out];rfl,gk⟩
theorem Rd{d:Nat}{x:Nd}(h:(aj d).expr x=true):¬ (x.kind=11\/x.kind=12):=by
 cases d with
 |zero=>cases h
 |succ d=>have h:dc (aj d) x=true:=h;intro D;rcases D with D|D<;>simp[dc,fc,D]at h
def I8(d:Nat)(x:Nd):Prop:=(if x.kind=11\/x.kind=12 then(aj d).typ x else(aj d).expr x)=true
theorem Ap{d:Nat}{x:Nd}(h:(aj d).expr x=true):I8 d x:=by unfold I8;rw[gA (Rd h)];exact h
theorem Ok{d:Nat}{x:Nd}(h:f9 (aj d) x=true):I8 d x:=by
 unfold f9 at h;rw[gH,gB,gC]at h;rcases h with h|⟨I,D⟩
 ·exact Ap h
 ·unfold I8;have:=cR D;rw[gE (by omega)];exact D
theorem Re{d:Nat}{n:Nd}(h:dc (aj d) n=true)(D:n.kind=21\/n.kind=22\/n.kind=23):∃k t f l p,n=.mk k t (f::l) p/\(aj d).expr f=true/\(k=23\/∀x∈l,I8 d x):=by
 unfold dc at h;rw[gA (by omega),gA (by omega),gA (by omega),gA (by omega),gA (by omega)]at h;have e:=n.eta;rcases D with D|D|D
 ·rw[gE D,gB,gB,gC,gC]at h;obtain⟨-,J,I⟩:=h;generalize n.kids=l at *;rcases l with _|⟨f,l⟩
  ·cases J
  ·have I:=List.all_eq_true.1 I;exact⟨_,_,f,l,_,e,I f (by simp),.inr fun x hx=>Ap (I x (by simp[hx]))⟩
 ·rw[gA (by omega),gE D,gB,gB,gB,gC,gC]at h;obtain⟨-,J,M,I⟩:=h;generalize n.kids=l at *;rcases l with _|⟨f,l⟩
  ·exact absurd J (by simp)
  ·exact⟨_,_,f,l,_,e,M,.inr fun x hx=>Ok (List.all_eq_true.1 I x hx)⟩
 ·rw[gA (by omega),gA (by omega),gE D]at h;obtain⟨t,l,p,rfl,-,N⟩:=aJ (by decide) h;obtain⟨f,rfl,M⟩:=ep N;exact⟨_,t,f,[],p,rfl,M,.inl rfl⟩
theorem Ex(F:uR)(k:Int)(t:ByteArray)(f:Nd)(l:List Nd)(p:Int)(deep:Nat)(head:Bool)(D:k=21\/k=22\/k=23):tx (mI F (.mk k t (f::l) p) deep head)=tx (aM F ((f.kind==19)||(f.kind==20)) f deep head) ++
  (if k=21 then(⟨#[40]⟩:BA)++tx (di F (.mk k t (f::l) p) deep)++(⟨#[41]⟩:BA)else if k=22 then(⟨#[91]⟩:BA)++tx (di F (.mk k t (f::l) p) deep)++(⟨#[93]⟩:BA)else(⟨#[46]⟩:BA)++t):=by
 rcases D with rfl|rfl|rfl
 ·show tx (aM F _ f deep head++(cX 40::(di F _ deep++[cX 41])))=_;rw[bG,aC,bG,gE rfl,aA];rfl
 ·show tx (aM F _ f deep head++(cX 91::(di F _ deep++[cX 93])))=_;rw[bG,aC,bG,gA (by decide),gE rfl,aA];rfl
 ·show tx (aM F _ f deep head++[cX 46,iN t])=_;rw[bG,aC,py,gA (by decide),gA (by decide)];rfl
theorem Ol(d:Nat)(HE:io d):Am d (fun k=>k=21\/k=22\/k=23):=by
 intro v n w deep head hv hn hk hd J;obtain⟨k,t,f,l,p,rfl,hf,hl⟩:=Re hn hk;have O:=hid (Ex (ac d) k t f l p deep head hk);rw[O.out,gD]at J;obtain⟨A,cp,rfl,hC⟩:=hv.toC;simp only[Nd.kind_mk,Nd.text_mk,Nd.kids_mk,Nd.pos_mk]at *;have hB:=(aH w #[.int .i64 k,.string t,.slice A (f::l).length cp,.int .i64 p]).1;have hN:=(aH w #[.int .i64 k,.string t,.slice A (f::l).length cp,.int .i64 p]).2;obtain⟨bp,op,A2,c2,rfl,hp⟩:=eR (aq.below hv hB) 0 (by simp);simp only[Nd.kids_mk,jM,kE,jP]at hp;(have gi:(0:Int)<((f::l).length:Int):=by simp);have N:=hB.alloc (by simp) (.cells #[.int .i64 f.kind,.string f.text,.slice A2 f.kids.length c2,.int .i64 f.pos] 24);have ga:=hN.alloc (.cells #[.int .i64 f.kind,.string f.text,.slice A2 f.kids.length c2,.int .i64 f.pos] 24);have U:=aq.below hp.2.2.2.2 ((gG _ _).alloc (d5 _) (.cells #[.int .i64 f.kind,.string f.text,.slice A2 f.kids.length c2,.int .i64 f.pos] 24));have gb:=aq.below hv N;obtain⟨p0,p1,p2,p3,-⟩:=hp;have D:=hid (rD d HE _ f _ ((f.kind==19)||(f.kind==20)) deep head U hf hd (by omega));have HO:=hid (fun(w':World)(hb:Below w w w')(h:k≠23)(J:(tx (di (ac d) (.mk k t (f::l) p) deep)).size<=10000000000000000)=>Al d HE _ (.mk k t (f::l) p) w' deep (aq.below hv hb) (hl.resolve_left h) hd J);generalize tx (aM (ac d) ((f.kind==19)||(f.kind==20)) f deep head)=X at *;generalize tx (di (ac d) (.mk k t (f::l) p) deep)=Y at *;clear hv hC hN U gb hn hf hl;generalize(f::l).length=m at *;(go_enter Tryz.func15,Tryz.ntmps15);cases gg:(f.kind==19)
 rotate_left
 rotate_left
 cases ge:(f.kind==20);all_goals
  rcases hk with rfl|rfl|rfl;all_goals
   first
    |rw[gE (show(21:Int)=21 from rfl)]at O J
    |rw[gA (show ¬ (22:Int)=21 by decide),gE (show(22:Int)=22 from rfl)]at O J
    |rw[gA (show ¬ (23:Int)=21 by decide),gA (show ¬ (23:Int)=22 by decide)]at O J
   (try rw[ge]at D);rw[gg]at D;simp only[gD]at J;(go_wp2_with fail);refine D.out.mono ?_;rintro e w3⟨rfl,I⟩;have M:=a8 N I;obtain⟨n0,n1,n2,n3,-,-,-,-⟩:=ag (ga.bl I);clear I D p0 p1 p2 p3 ga N hB;first
    |(have gh:=HO.out w3 M (by decide) (by omega);(go_wp2_with fail);refine gh.mono ?_;rintro e w4⟨rfl,gd⟩;(go_wp2_with fail);go_ret;exact⟨by rw[O.out];simp only[aA];rfl,a8 M gd⟩)
    |((go_wp2_with fail);go_ret;exact⟨by rw[O.out];simp only[aA];rfl,M⟩)
theorem ut(d:Nat):(ac d).typ=af d:=by cases d<;>rfl
theorem S6{d:Nat}{n:Nd}(h:dc (aj d) n=true)(D:n.kind=24):∃f l p,n=.mk 24 ⟨#[]⟩ (f::l) p/\(aj d).typ f=true/\∀x∈l,I8 d x:=by
 unfold dc at h;rw[gA (by omega),gA (by omega),gA (by omega),gA (by omega),gA (by omega),gA (by omega),gA (by omega),gA (by omega),gE D,gB,gB,gB,gB,gC,gC]at h;obtain⟨I,J,-,M,N⟩:=h;have e:=n.eta;rw[D,I]at e;generalize n.kids=l at *;rcases l with _|⟨f,l⟩
 ·exact absurd J (by simp)
 ·exact⟨f,l,n.pos,e,M,fun x hx=>Ap (List.all_eq_true.1 N x hx)⟩
theorem S7{d:Nat}{n:Nd}(h:dc (aj d) n=true)(I:n.kind=25):∃s b p,n=.mk 25 ⟨#[]⟩ [s,b] p/\ld (aj d) s=true/\(aj d).block b=true:=by unfold dc at h;rw[gA (by omega),gA (by omega),gA (by omega),gA (by omega),gA (by omega),gA (by omega),gA (by omega),gA (by omega),gA (by omega)]at h;obtain⟨l,p,rfl,D⟩:=ch h;obtain⟨s,b,rfl,hs,hb⟩:=li D;exact⟨s,b,p,rfl,hs,hb⟩
theorem S8(d:Nat)(n:Nd)(deep:Nat):tx (oJ (ac d) n deep)=tx (af d (aV n 0))++(⟨#[123]⟩:BA)++tx (di (ac d) n deep)++(⟨#[125]⟩:BA):=by unfold oJ;rw[bG,aC,bG,ut,aA,aA];rfl
theorem Om(d:Nat)(f:Nd)(l:List Nd)(p:Int)(deep:Nat)(head:Bool):tx (mI (ac d) (.mk 24 ⟨#[]⟩ (f::l) p) deep head)=if(head&&(f.kind==10))=true then(⟨#[40]⟩:BA)++tx (oJ (ac d) (.mk 24 ⟨#[]⟩ (f::l) p) deep)++(⟨#[41]⟩:BA)else tx (oJ (ac d) (.mk 24 ⟨#[]⟩ (f::l) p) deep):=by
 show tx (if head=true/\f.kind=10 then cX 40::(oJ (ac d) (.mk 24 ⟨#[]⟩ (f::l) p) deep++[cX 41])else oJ (ac d) (.mk 24 ⟨#[]⟩ (f::l) p) deep)=_;by_cases h:head=true/\f.kind=10
 ·rw[gE h,gE (by rw[gB,kK];exact h),aC,bG,aA];rfl
 ·rw[gA h,gA (by rw[gB,kK];exact h)]
theorem On(d:Nat)(s b:Nd)(p:Int)(deep:Nat)(head:Bool):tx (mI (ac d) (.mk 25 ⟨#[]⟩ [s,b] p) deep head)=(⟨#[102,117,110,99]⟩:BA)++tx (ez (af d) s)++(⟨#[32]⟩:BA)++tx ((ac d).block b deep):=by show tx (iy ⟨#[102,117,110,99]⟩::(ez (ac d).typ s++(bc::(ac d).block b deep)))=_;rw[aC,bG,aC bc,Es,Ae,ut,aA,aA]
theorem Rf(d:Nat)(HE:io d):Am d (fun k=>k=24):=by
 intro v n w deep head hv hn hk hd hM;obtain⟨f,l,p,rfl,hf,hl⟩:=S6 hn hk;have M:=hid (Om d f l p deep head);have O:=hid (S8 d (.mk 24 ⟨#[]⟩ (f::l) p) deep);have I:(tx (oJ (ac d) (.mk 24 ⟨#[]⟩ (f::l) p) deep)).size<=10000000000000000:=by
  rw[M.out]at hM;split at hM
  ·rw[gD,gD]at hM;omega
  ·exact hM
 rw[O.out,gD,gD,gD]at I;rw[show aV (.mk 24 ⟨#[]⟩ (f::l) p) 0=f from rfl]at O I;obtain⟨A,cp,rfl,hC⟩:=hv.toC;simp only[Nd.kind_mk,Nd.text_mk,Nd.kids_mk,Nd.pos_mk]at *;have hB:=(aH w #[.int .i64 24,.string ⟨#[]⟩,.slice A (f::l).length cp,.int .i64 p]).1;have hN:=(aH w #[.int .i64 24,.string ⟨#[]⟩,.slice A (f::l).length cp,.int .i64 p]).2;obtain⟨bp,op,A2,c2,rfl,N⟩:=eR (aq.below hv hB) 0 (by simp);simp only[Nd.kids_mk,jM,kE,jP]at N;(have ga:(0:Int)<((f::l).length:Int):=by simp);have D:=aq.below hv hB;clear hn hk hv hC;(go_enter Tryz.func15,Tryz.ntmps15);(go_upto_region 21 with fail);generalize w.alloc (.cells #[.int .i64 24,.string ⟨#[]⟩,.slice (some ⟨bp,op,none⟩) (f::l).length cp,.int .i64 p] 24)=W at *;have J:=hid (fun m:Wd (Below W W)=>lS d _ f m.wd (N.below m.ok).2.2.2.2 hf (by omega));have HO:=hid (fun m:Wd (Below W W)=>Al d HE _ (.mk 24 ⟨#[]⟩ (f::l) p) m.wd deep (aq.below D m.ok) hl hd (by omega));obtain⟨k0,k1,k2,k3⟩:=Ao N;obtain⟨n0,n1,n2,n3⟩:=GL hN;generalize tx (di (ac d) (.mk 24 ⟨#[]⟩ (f::l) p) deep)=Y at *;generalize tx (af d f)=X at *;generalize tx (oJ (ac d) (.mk 24 ⟨#[]⟩ (f::l) p) deep)=L at *;clear hN N D HE hf hl;generalize(f::l).length=q at *;refine cQ W ?_;repeat(go_big_quiet_step (first
  |(go_at_call 37;rename_i m;exact uV J.out m)
  |(go_at_call 36;rename_i m;exact uV HO.out m)))
 refine jS ?_;intro m;have U:=a8 hB m.ok;have k0:=k0 m;have n2:=n2 m;clear J HO k1 k2 k3 n0 n1 n3;cases head<;>cases h:(f.kind==10);all_goals
  rw[h]at M;first
   |rw[gE (show(true&&true)=true from rfl),O.out]at M
   |rw[gA (by decide),O.out]at M
  (go_wp2_with fail);go_ret;exact⟨by rw[M.out];simp only[aA];rfl,U⟩
theorem Rg(d:Nat)(I:nG d):Am d (fun k=>k=25):=by
 intro v n w deep head hv hn hk hd hM;obtain⟨s,b,p,rfl,hs,hb⟩:=S7 hn hk;have h:=hid (On d s b p deep head);rw[h.out,gD,gD,gD]at hM;obtain⟨A,cp,rfl,hC⟩:=hv.toC;simp only[Nd.kind_mk,Nd.text_mk,Nd.kids_mk,Nd.pos_mk]at *;have hB:=(aH w #[.int .i64 25,.string ⟨#[]⟩,.slice A 2 cp,.int .i64 p]).1;have D:bR w (.agg #[.int .i64 25,.string ⟨#[]⟩,.slice A 2 cp,.int .i64 p]) (.mk 25 ⟨#[]⟩ [s,b] p):=hv;have U:=(aH w #[.int .i64 25,.string ⟨#[]⟩,.slice A 2 cp,.int .i64 p]).2;obtain⟨bp,op,A2,c2,A3,c3,rfl,M,J⟩:=FR (aq.below D hB);clear hn hk hv hC D;(go_enter Tryz.func15,Tryz.ntmps15);(go_upto_region 26 with fail);generalize w.alloc (.cells #[.int .i64 25,.string ⟨#[]⟩,.slice (some ⟨bp,op,none⟩) 2 cp,.int .i64 p] 24)=W at *;have O:=hid (fun m:Wd (Below W W)=>Af d (lS d) _ s m.wd (M.below m.ok).2.2.2.2 hs (by omega));have HO:=hid (fun m:Wd (Below W W)=>I _ b m.wd deep (J.below m.ok).2.2.2.2 hb hd (by omega));obtain⟨k0,k1,k2,k3⟩:=Ao M;obtain⟨b0,b1,b2,b3⟩:=Ao J;obtain⟨n0,n1,n2,n3⟩:=GL U;generalize tx (ez (af d) s)=X at *;generalize tx ((ac d).block b deep)=Y at *;clear U M J I hs hb;refine cQ W ?_;repeat(go_big_quiet_step (first
  |(go_at_call 38;rename_i m;exact uV O.out m)
  |(go_at_call 39;rename_i m;exact uV HO.out m)))
 refine jS ?_;intro m;have N:=a8 hB m.ok;(go_wp2_with fail);go_ret;exact⟨by rw[h.out];rfl,N⟩
theorem I9(d:Nat)(J:io d)(HB:nG d):io (d+1):=by
 intro v n w deep head hv D hd I;have D:dc (aj d) n=true:=D;have I:(tx (mI (ac d) n deep head)).size<=10000000000000000:=I;(have hd:deep+d<=1000:=by omega);by_cases h1:n.kind=16\/n.kind=18
 ·exact Oh d v n w deep head hv D h1 hd I
 by_cases h2:n.kind=17
 ·exact Rb d v n w deep head hv D h2 hd I
 by_cases h3:n.kind=19
 ·exact S5 d J v n w deep head hv D h3 hd I
 by_cases U:n.kind=20
 ·exact Rc d J v n w deep head hv D U hd I
 by_cases O:n.kind=21\/n.kind=22\/n.kind=23
 ·exact Ol d J v n w deep head hv D O hd I
 by_cases N:n.kind=24
 ·exact Rf d J v n w deep head hv D N hd I
 (have M:n.kind=25:=by have h:=D;unfold dc at h;rw[gA (by omega),gA (by omega),gA (by omega),gA (by omega),gA (by omega),gA (by omega),gA (by omega),gA (by omega),gA (by omega)]at h;obtain⟨l,p,rfl,-⟩:=ch h;rfl);exact Rg d HB v n w deep head hv D M hd I
def oQ(F:uR)(deep:Nat)(x:Nd):List It:=nI (deep+1)++(F.stmt x (deep+1) false++[.nl])
theorem CK(F:uR)(deep:Nat)(x:Nd):tx (oQ F deep x)=Aj (deep+1)++tx (F.stmt x (deep+1) false)++(⟨#[10]⟩:BA):=by unfold oQ;rw[bG,bG,aA];rfl
theorem S9(F:uR)(n:Nd)(deep:Nat):tx (og F n deep)=(⟨#[123,10]⟩:BA)++tx (n.kids.flatMap (oQ F deep))++Aj deep++(⟨#[125]⟩:BA):=by show tx (cX 123::.gap 10::(n.kids.flatMap (oQ F deep)++(nI deep++[cX 125])))=_;rw[aC,aC (.gap 10),bG,bG,<-aA,aA,aA];rfl
theorem Aq(d:Nat)(HS:Ak d)(v:Value)(n:Nd)(w:World)(deep:Nat)(hv:bR w v n)(h:dj (aj d) n=true)(hd:deep+d+1<=1000)(hM:(tx (og (ac d) n deep)).size<=10000000000000000):
  Calls Tryz.prog 39 #[v,.int .i64 (deep:Int)] w fun e w'=>e=.returned (.string (tx (og (ac d) n deep)))/\Below w w w':=by
 unfold dj at h;rw[gB,gB]at h;have HL:=hid (List.all_eq_true.1 h.2.2);have HR:=hid (S9 (ac d) n deep);rw[HR.out,gD,gD,gD]at hM;have gh:=wB (oQ (ac d) deep) (fun x=>by rw[CK,gD];exact vA _ _) n.kids;obtain⟨A,cp,rfl,hC⟩:=hv.toC;have HV:=hid hv;have hB:=(aH w (nv n A cp)).1;have N:=(aH w (nv n A cp)).2;have gj:=ur deep;have gi:=ur (deep+1);have q1:IntKind.i64.wrap ((deep:Int)+1)=(deep:Int)+1:=gO _ (by omega);clear hv hC h;(go_enter Tryz.func39,Tryz.ntmps39);(go_wp2_with fail);generalize w.alloc (.cells (nv n A cp) 24)=w0 at *;go_loopg [5,6] n.kids.length (fun k u5 u6 wr=>∃i:Nat,i<=n.kids.length/\n.kids.length-i<=k/\u6=.int .i64 (i:Int)/\u5=.string ((⟨#[123,10]⟩:BA)++tx ((n.kids.take i).flatMap (oQ (ac d) deep)))/\Below w0 w0 wr)
 case atStart=>exact⟨0,gP _,by omega,rfl,rfl,gG _ _⟩
 case round=>
  obtain⟨i,hi,hk,rfl,rfl,D⟩:=hrel;have yk:=rB (oQ (ac d) deep) n.kids i;by_cases M:i<n.kids.length
  ·(have U:(i:Int)<(n.kids.length:Int):=by omega);(have h0:(0:Int)<=(i:Int):=by omega);obtain⟨x0,x1,x2,x3,-,-,-,-⟩:=ag (N.bl D);obtain⟨-,-,n2,-⟩:=GL (N.bl D);obtain⟨bp,op,A2,c2,gg,hp⟩:=eR (aq.below HV.out (a8 hB D)) i M;subst gg;have J:=hid (CJ (oQ (ac d) deep) n.kids i M);have ga:=rB (oQ (ac d) deep) n.kids (i+1);rw[J.out,CK,gD,gD,gD]at ga;rw[CK]at J;have HX:=hid (HL.out _ (jC M));generalize n.kids[i]=x at *;have O:=hid (fun m:Wd (Below wr wr)=>HS _ x m.wd (deep+1) (hp.below m.ok).2.2.2.2 HX.out (by omega) (by omega));have I:=hid (fun m:Wd (Below wr wr)=>Ew (deep+1) (by omega) m.wd);obtain⟨k0,k1,k2,k3⟩:=Ao hp;generalize tx ((ac d).stmt x (deep+1) false)=X at *;generalize tx ((n.kids.take i).flatMap (oQ (ac d) deep))=S at *;generalize Aj (deep+1)=T at *;rw[show((deep+1:Nat):Int)=(deep:Int)+1 by omega]at O I;clear hp HX;(go_wp2_with fail);refine cQ wr ?_;repeat(go_big_quiet_step (first
    |(go_at_call 69;rename_i m;exact uV O.out m)
    |(go_at_call 68;rename_i m;exact uV I.out m)))
   refine jS ?_;intro m;have gd:=m.ok;clear k0 k1 k2 k3 n2 x0 x1 x2 x3 O I;(go_wp2_with fail);go_roundg (n.kids.length-(i+1))
   case measure=>omega
   case rel=>exact⟨i+1,by omega,d5 _,by go_num,by rw[J.out];simp only[aA],a8 D gd⟩
  ·(have U:¬ (i:Int)<(n.kids.length:Int):=by omega);obtain⟨x0,x1,x2,x3,-,-,-,-⟩:=ag (N.bl D);have J:=hid (show tx ((n.kids.take i).flatMap (oQ (ac d) deep))=tx (n.kids.flatMap (oQ (ac d) deep))by rw[jK (by omega)]);rw[<-J.out]at HR hM;generalize tx ((n.kids.take i).flatMap (oQ (ac d) deep))=S at *;have I:=hid (Ew deep (by omega) wr);generalize Aj deep=T at *;(go_wp2_with fail);refine I.out.mono ?_;rintro e w3⟨rfl,gb⟩;(go_wp2_with fail);go_ret;have ge:=a8 D gb;exact⟨by rw[HR.out];rfl,a8 hB ge⟩
theorem FV(d:Nat)(D:Ak d):nG (d+1):=fun v n w deep hv hn hd hM=>Aq d D v n w deep hv hn (by omega) hM
theorem Oo{F:dM}{n:Nd}(h:oU F n=true):∃t a b p,n=.mk 5 t [a,b] p/\(aE a=true\/F.typ a=true)/\(aE b=true\/F.expr b=true):=by unfold oU at h;rw[gB]at h;obtain⟨t,l,p,rfl,-,I⟩:=aJ (by decide) h.1;obtain⟨a,b,rfl,D,hb⟩:=li I;unfold dv at D hb;rw[gH]at D hb;exact⟨t,a,b,p,rfl,D,hb⟩
theorem me{P:Prop}{n:Nd}(h:aE n=true\/P)(D:n.kind≠0):P:=h.resolve_left fun h=>by obtain⟨a,rfl⟩:=bP h;exact D rfl
theorem Ta(d:Nat)(t:ByteArray)(a b:Nd)(p:Int)(deep:Nat):tx (pc (ac d) (.mk 5 t [a,b] p) deep)=(⟨#[118,97,114,32]⟩:BA)++t++(if a.kind=0 then(⟨#[]⟩:BA)else(⟨#[32]⟩:BA)++tx (af d a))++(if b.kind=0 then(⟨#[]⟩:BA)else(⟨#[32,61,32]⟩:BA)++tx ((ac d).expr b deep false)):=by
 show tx (iy ⟨#[118,97,114]⟩::bc::iN t::((if a.kind=0 then[]else bc::(ac d).typ a)++(if b.kind=0 then[]else bc::cX 61::bc::(ac d).expr b deep false)))=_;rw[aC,aC bc,aC (iN t),bG,Es,py,ut,<-aA,<-aA,<-aA];congr 1
 ·congr 1;split
  ·rfl
  ·rw[aC,Ae]
 ·split
  ·rfl
  ·rw[aC,aC (cX 61),aC bc ((ac d).expr b deep false),<-aA,<-aA];rfl
theorem Ey(d:Nat)(HE:io d)(v:Value)(n:Nd)(w:World)(deep:Nat)(hv:bR w v n)(hn:oU (aj d) n=true)(hd:deep+d<=1000)(M:(tx (pc (ac d) n deep)).size<=10000000000000000):
  Calls Tryz.prog 57 #[v,.int .i64 (deep:Int)] w fun e w'=>e=.returned (.string (tx (pc (ac d) n deep)))/\Below w w w':=by
 obtain⟨t,a,b,p,rfl,ha,hb⟩:=Oo hn;have J:=hid (Ta d t a b p deep);rw[J.out,gD,gD,gD]at M;obtain⟨A,cp,rfl,hC⟩:=hv.toC;simp only[Nd.kind_mk,Nd.text_mk,Nd.kids_mk,Nd.pos_mk]at *;have hB:=(aH w #[.int .i64 5,.string t,.slice A 2 cp,.int .i64 p]).1;have ga:bR w (.agg #[.int .i64 5,.string t,.slice A 2 cp,.int .i64 p]) (.mk 5 t [a,b] p):=hv;have hN:=(aH w #[.int .i64 5,.string t,.slice A 2 cp,.int .i64 p]).2;obtain⟨bp,op,A2,c2,A3,c3,rfl,hp,hq⟩:=FR (aq.below ga hB);have gh:=hid (fun(h:a.kind≠0)(hm:(tx (af d a)).size<=10000000000000000)=>lS d _ a _ hp.2.2.2.2 (me ha h) hm);have gd:=hid (fun(w':World)(gg:Below _ _ w')(h:b.kind≠0)(hm:(tx ((ac d).expr b deep false)).size<=10000000000000000)=>HE _ b w' deep false (hq.below gg).2.2.2.2 (me hb h) hd hm);have HQ:=hid hq;have gb:=hid hN;obtain⟨p0,p1,p2,p3,-⟩:=hp;obtain⟨q0,q1,q2,q3,-⟩:=hq;generalize tx (af d a)=X at *;generalize tx ((ac d).expr b deep false)=Y at *;clear hv hC ga hN ha hb hn HE;by_cases O:a.kind=0
 ·rw[gE O]at J M;rw[O]at p0;by_cases I:b.kind=0
  ·rw[gE I]at J M;rw[I]at q0;(go_enter Tryz.func57,Tryz.ntmps57);(go_wp2_with fail);go_ret;exact⟨by rw[J.out,pq,pq];rfl,hB⟩
  ·rw[gA I]at J M;rw[gD]at M;(have e2:(b.kind != 0)=true:=by simpa using I);have N:=hid (gd.out _ (gG _ _) I (by omega));(go_enter Tryz.func57,Tryz.ntmps57);(go_wp2_with fail);refine N.out.mono ?_;rintro e w3⟨rfl,D⟩;(go_wp2_with fail);go_ret;exact⟨by rw[J.out,pq];rfl,a8 hB D⟩
 ·rw[gA O,gD]at M;rw[gA O]at J;(have e1:(a.kind != 0)=true:=by simpa using O);have gi:=hid (gh.out O (by omega));(go_enter Tryz.func57,Tryz.ntmps57);(go_wp2_with fail);refine gi.out.mono ?_;rintro e w3⟨rfl,D⟩;obtain⟨n0,n1,n2,n3,-,-,-,-⟩:=ag (gb.out.below D gb.out.lt);obtain⟨r0,r1,r2,r3,-⟩:=HQ.out.below D;have U:=a8 hB D;by_cases I:b.kind=0
  ·rw[gE I]at J M;rw[I]at r0;clear q0 q1 q2 q3 p0 p1 p2 p3;(go_wp2_with fail);go_ret;exact⟨by rw[J.out,pq];rfl,U⟩
  ·rw[gA I]at J M;rw[gD]at M;(have e2:(b.kind != 0)=true:=by simpa using I);have N:=hid (gd.out _ D I (by omega));clear q0 q1 q2 q3 p0 p1 p2 p3;(go_wp2_with fail);refine N.out.mono ?_;rintro e w4⟨rfl,ge⟩;(go_wp2_with fail);go_ret;exact⟨by rw[J.out];rfl,a8 U ge⟩
def rT(d:Nat)(P:Nd->Prop)(I:Nd->Nat->Bool->List It):Prop:=∀(v:Value)(n:Nd)(w:World)(deep:Nat)(head:Bool),bR w v n->P n->deep+d<=1000->(tx (I n deep head)).size<=10000000000000000 ->
 Calls Tryz.prog 69 #[v,.int .i64 (deep:Int),.bool head] w fun e w'=>e=.returned (.string (tx (I n deep head)))/\Below w w w'
theorem Oq{F:dM}{n:Nd}(h:ia F n=true):∃t x p,n=.mk 26 t [x] p/\F.expr x=true:=by obtain⟨t,l,p,rfl,-,I⟩:=aJ (by decide) h;obtain⟨x,rfl,D⟩:=ep I;exact⟨t,x,p,rfl,D⟩
theorem Tb{F:dM}{n:Nd}(h:mE F n=true):∃t x p,n=.mk 28 t [x] p/\F.expr x=true:=by obtain⟨t,l,p,rfl,-,I⟩:=aJ (by decide) h;obtain⟨x,rfl,D⟩:=ep I;exact⟨t,x,p,rfl,D⟩
theorem Rh{F:dM}{n:Nd}(h:mw F n=true):∃x p,n=.mk 29 ⟨#[]⟩ [x] p/\F.expr x=true:=by obtain⟨l,p,rfl,I⟩:=ch h;obtain⟨x,rfl,D⟩:=ep I;unfold oA at D;rw[gB]at D;exact⟨x,p,rfl,D.2⟩
theorem Tc{F:dM}{n:Nd}(h:mF F n=true):∃x y p,n=.mk 27 ⟨#[]⟩ [x,y] p/\F.expr x=true/\F.expr y=true:=by obtain⟨l,p,rfl,J⟩:=ch h;obtain⟨x,y,rfl,I,D⟩:=li J;exact⟨x,y,p,rfl,I,D⟩
theorem Ot(F:uR)(t:ByteArray)(x:Nd)(p:Int)(deep:Nat)(head:Bool):tx (eS F (.mk 26 t [x] p) deep head)=t++(⟨#[32,58,61,32]⟩:BA)++tx (F.expr x deep head):=by show tx (iN t::bc::pb ⟨#[58,61]⟩::bc::F.expr x deep head)=_;rw[aC,aC bc,aC (pb ⟨#[58,61]⟩),aC bc (F.expr x deep head),py,aA,<-aA (tx [pb ⟨#[58,61]⟩]),<-aA (tx [bc])];rfl
theorem Td(F:uR)(x y:Nd)(p:Int)(deep:Nat)(head:Bool):tx (eS F (.mk 27 ⟨#[]⟩ [x,y] p) deep head)=tx (F.expr x deep head)++(⟨#[32,61,32]⟩:BA)++tx (F.expr y deep head):=by show tx (F.expr x deep head++(bc::cX 61::bc::F.expr y deep head))=_;rw[bG,aC,aC (cX 61),aC bc (F.expr y deep head),aA,<-aA (tx [cX 61]),<-aA (tx [bc])];rfl
theorem Te(F:uR)(t:ByteArray)(x:Nd)(p:Int)(deep:Nat)(head:Bool):tx (eS F (.mk 28 t [x] p) deep head)=tx (F.expr x deep head)++t:=by show tx (F.expr x deep head++[pb t])=_;rw[bG,N9]
theorem GM(d:Nat)(HE:io d):rT d (fun n=>ia (aj d) n=true\/mE (aj d) n=true) (eS (ac d)):=by
 intro v n w deep head hv U hd hM;obtain⟨k,t,x,p,rfl,D,hk⟩:∃k t x p,n=.mk k t [x] p/\(aj d).expr x=true/\(k=26\/k=28):=by
  rcases U with h|h
  ·obtain⟨t,x,p,rfl,D⟩:=Oq h;exact⟨26,t,x,p,rfl,D,.inl rfl⟩
  ·obtain⟨t,x,p,rfl,D⟩:=Tb h;exact⟨28,t,x,p,rfl,D,.inr rfl⟩
 have M:Hid (tx (eS (ac d) (.mk k t [x] p) deep head)=if k=26 then t++(⟨#[32,58,61,32]⟩:BA)++tx ((ac d).expr x deep head)else tx ((ac d).expr x deep head)++t):=by
  refine hid ?_;rcases hk with rfl|rfl
  ·exact Ot _ t x p deep head
  ·exact Te _ t x p deep head
 rw[M.out]at hM;obtain⟨A,cp,rfl,hC⟩:=hv.toC;simp only[Nd.kind_mk,Nd.text_mk,Nd.kids_mk,Nd.pos_mk]at *;have hB:=(aH w #[.int .i64 k,.string t,.slice A 1 cp,.int .i64 p]).1;have I:bR w (.agg #[.int .i64 k,.string t,.slice A 1 cp,.int .i64 p]) (.mk k t [x] p):=hv;have hN:=(aH w #[.int .i64 k,.string t,.slice A 1 cp,.int .i64 p]).2;obtain⟨bp,op,A2,c2,rfl,J⟩:=eR (aq.below I hB) 0 (by simp);simp only[Nd.kids_mk,jM,kE,jP]at J;clear hv hC I U;rcases hk with rfl|rfl;rw[gE rfl]at M hM;(go_enter Tryz.func69,Tryz.ntmps69);go_upto_region 6 with fail
 rotate_left
 rw[gA (by decide)]at M hM;(go_enter Tryz.func69,Tryz.ntmps69);go_upto_region 10 with fail
 rotate_left
 all_goals simp only[gD]at hM;generalize w.alloc (.cells #[.int .i64 _,.string _,.slice (some ⟨bp,op,none⟩) 1 cp,.int .i64 p] 24)=W at *;have O:=hid (fun m:Wd (Below W W)=>HE _ x m.wd deep head (J.below m.ok).2.2.2.2 D hd (by omega));obtain⟨k0,k1,k2,k3⟩:=Ao J;obtain⟨n0,n1,n2,n3⟩:=GL hN;generalize tx ((ac d).expr x deep head)=X at *;clear hN J HE D;refine cQ W ?_;(repeat(go_big_quiet_step ((go_at_call 15;rename_i m;with_reducible exact uV O.out m))));refine jS ?_;intro m;have N:=a8 hB m.ok;(go_wp2_with fail);go_ret;exact⟨by rw[M.out];rfl,N⟩
theorem Ou(d:Nat)(U:io d):rT d (fun n=>mw (aj d) n=true) (eS (ac d)):=by intro v n w deep head hv hn hd hM;obtain⟨x,p,rfl,N⟩:=Rh hn;have O:=hid (show tx (eS (ac d) (.mk 29 ⟨#[]⟩ [x] p) deep head)=tx ((ac d).expr x deep head)from rfl);rw[O.out]at hM;obtain⟨A,cp,rfl,h⟩:=hv.toC;simp only[Nd.kind_mk,Nd.text_mk,Nd.kids_mk,Nd.pos_mk]at *;have hB:=(aH w #[.int .i64 29,.string ⟨#[]⟩,.slice A 1 cp,.int .i64 p]).1;have D:bR w (.agg #[.int .i64 29,.string ⟨#[]⟩,.slice A 1 cp,.int .i64 p]) (.mk 29 ⟨#[]⟩ [x] p):=hv;obtain⟨bp,op,A2,c2,rfl,I⟩:=eR (aq.below D hB) 0 (by simp);simp only[Nd.kids_mk,jM,kE,jP]at I;have M:=hid (U _ x _ deep head I.2.2.2.2 N hd hM);obtain⟨p0,p1,p2,p3,-⟩:=I;generalize tx ((ac d).expr x deep head)=X at *;clear hv h D hn U N;(go_enter Tryz.func69,Tryz.ntmps69);(go_wp2_with fail);refine M.out.mono ?_;rintro e w3⟨rfl,J⟩;(go_wp2_with fail);go_ret;exact⟨by rw[O.out];rfl,a8 hB J⟩
theorem Ri(d:Nat)(U:io d):rT d (fun n=>mF (aj d) n=true) (eS (ac d)):=by
 intro v n w deep head hv hn hd hM;obtain⟨x,y,p,rfl,hx,h⟩:=Tc hn;have HR:=hid (Td (ac d) x y p deep head);rw[HR.out,gD,gD]at hM;obtain⟨A,cp,rfl,hC⟩:=hv.toC;simp only[Nd.kind_mk,Nd.text_mk,Nd.kids_mk,Nd.pos_mk]at *;have hB:=(aH w #[.int .i64 27,.string ⟨#[]⟩,.slice A 2 cp,.int .i64 p]).1;have D:bR w (.agg #[.int .i64 27,.string ⟨#[]⟩,.slice A 2 cp,.int .i64 p]) (.mk 27 ⟨#[]⟩ [x,y] p):=hv;obtain⟨bp,op,A2,c2,A3,c3,rfl,J,I⟩:=FR (aq.below D hB);clear hv hC D hn;(go_enter Tryz.func69,Tryz.ntmps69);(go_upto_region 8 with fail);generalize w.alloc (.cells #[.int .i64 27,.string ⟨#[]⟩,.slice (some ⟨bp,op,none⟩) 2 cp,.int .i64 p] 24)=W at *;have O:=hid (fun m:Wd (Below W W)=>U _ x m.wd deep head (J.below m.ok).2.2.2.2 hx hd (by omega));have N:=hid (fun m:Wd (Below W W)=>U _ y m.wd deep head (I.below m.ok).2.2.2.2 h hd (by omega));obtain⟨k0,k1,k2,k3⟩:=Ao J;obtain⟨b0,b1,b2,b3⟩:=Ao I;generalize tx ((ac d).expr x deep head)=X at *;generalize tx ((ac d).expr y deep head)=Y at *;clear J I U hx h;refine cQ W ?_;repeat(go_big_quiet_step (first
  |(go_at_call 15;rename_i m;with_reducible exact uV O.out m)
  |(go_at_call 15;rename_i m;with_reducible exact uV N.out m)))
 refine jS ?_;intro m;have M:=a8 hB m.ok;(go_wp2_with fail);go_ret;exact⟨by rw[HR.out];rfl,M⟩
def Ov(d:Nat)(n:Nd):Prop:=ia (aj d) n=true\/mF (aj d) n=true\/mE (aj d) n=true\/mw (aj d) n=true
theorem CL(d:Nat)(D:io d):rT d (Ov d) (eS (ac d)):=by
 intro v n w deep head hv I hd hM;rcases I with h|h|h|h
 ·exact GM d D v n w deep head hv (.inl h) hd hM
 ·exact Ri d D v n w deep head hv h hd hM
 ·exact GM d D v n w deep head hv (.inr h) hd hM
 ·exact Ou d D v n w deep head hv h hd hM
theorem Rj{d:Nat}{o:Nd}(h:(aj d).block o=true):(aj d).stmt o=true:=by
 cases d with
 |zero=>cases h
 |succ d=>have h:dj (aj d) o=true:=h;(have D:o.kind=36:=by unfold dj at h;rw[gB,gC]at h;exact h.1);show eY (aj d) o=true;unfold eY;rw[gA (by omega),gA (by omega),gA (by omega),gA (by omega),gA (by omega),gA (by omega),gA (by omega),gA (by omega),gA (by omega),gA (by omega)];exact h
theorem Rk{d:Nat}{o:Nd}(h:(aj d).ifS o=true):(aj d).stmt o=true:=by
 cases d with
 |zero=>cases h
 |succ d=>have h:GQ (aj d) o=true:=h;(have D:o.kind=30:=by obtain⟨l,p,rfl,-⟩:=ch h;rfl);show eY (aj d) o=true;unfold eY;rw[gA (by omega),gA (by omega),gA (by omega),gA (by omega),gA (by omega),gE D];exact h
theorem TB{d:Nat}{n:Nd}(h:GQ (aj d) n=true):∃c b o p,n=.mk 30 ⟨#[]⟩ [c,b,o] p/\(aj d).expr c=true/\(aj d).block b=true/\(aE o=true\/(aj d).stmt o=true):=by obtain⟨l,p,rfl,I⟩:=ch h;obtain⟨c,b,o,rfl,hc,hb,D⟩:=DW I;unfold dv at D;rw[gH,gH]at D;exact⟨c,b,o,p,rfl,hc,hb,D.elim (fun h=>h.imp id Rj) fun h=>.inr (Rk h)⟩
theorem TC(F:uR)(c b o:Nd)(p:Int)(deep:Nat)(head:Bool):tx (cr F (.mk 30 ⟨#[]⟩ [c,b,o] p) deep head)=(⟨#[105,102,32]⟩:BA)++tx (F.expr c deep true)++(⟨#[32]⟩:BA)++tx (F.block b deep)++(if o.kind=0 then(⟨#[]⟩:BA)else(⟨#[32,101,108,115,101,32]⟩:BA)++tx (F.stmt o deep false)):=by
 show tx (iy ⟨#[105,102]⟩::bc::(F.expr c deep true++(bc::(F.block b deep++(if o.kind=0 then[]else bc::iy ⟨#[101,108,115,101]⟩::bc::F.stmt o deep false)))))=_;rw[aC,aC bc (F.expr c deep true++_),bG,aC bc (F.block b deep++_),bG,aA,aA,aA,<-aA (tx [iy ⟨#[105,102]⟩])];congr 4;split
 ·rfl
 ·rw[aC,aC (iy ⟨#[101,108,115,101]⟩),aC bc (F.stmt o deep false),<-aA,<-aA];rfl
theorem Rm(d:Nat)(HE:io d)(N:nG d)(HS:Ak d):rT d (fun n=>GQ (aj d) n=true) (cr (ac d)):=by
 intro v n w deep head hv hn hd hM;obtain⟨c,b,o,p,rfl,hc,hb,ho⟩:=TB hn;have M:=hid (TC (ac d) c b o p deep head);rw[M.out]at hM;simp only[gD]at hM;obtain⟨A,cp,rfl,hC⟩:=hv.toC;simp only[Nd.kind_mk,Nd.text_mk,Nd.kids_mk,Nd.pos_mk]at *;have hB:=(aH w #[.int .i64 30,.string ⟨#[]⟩,.slice A 3 cp,.int .i64 p]).1;have J:bR w (.agg #[.int .i64 30,.string ⟨#[]⟩,.slice A 3 cp,.int .i64 p]) (.mk 30 ⟨#[]⟩ [c,b,o] p):=hv;obtain⟨bp,op,A2,c2,A3,c3,A4,c4,rfl,hp,U,O⟩:=TA (aq.below J hB);clear hv hC J hn;(go_enter Tryz.func69,Tryz.ntmps69);(go_upto_region 14 with fail);generalize w.alloc (.cells #[.int .i64 30,.string ⟨#[]⟩,.slice (some ⟨bp,op,none⟩) 3 cp,.int .i64 p] 24)=W at *;have gd:=hid (uV fun m:Wd (Below W W)=>HE _ c m.wd deep true (hp.below m.ok).2.2.2.2 hc hd (by omega));have gb:=hid (uV fun m:Wd (Below W W)=>N _ b m.wd deep (U.below m.ok).2.2.2.2 hb hd (by omega));have ga:=hid (fun(h:o.kind≠0)(hm:(tx ((ac d).stmt o deep false)).size<=10000000000000000)=>uV fun m:Wd (Below W W)=>HS _ o m.wd deep (O.below m.ok).2.2.2.2 (me ho h) hd hm);obtain⟨k0,k1,k2,k3⟩:=Ao hp;obtain⟨b0,b1,b2,b3⟩:=Ao U;obtain⟨D,r1,r2,r3⟩:=Ao O;generalize tx ((ac d).expr c deep true)=X at *;generalize tx ((ac d).block b deep)=Y at *;generalize tx ((ac d).stmt o deep false)=Z at *;clear hp U O HE N HS hc hb ho;refine cQ W ?_;repeat(go_big_quiet_step (first
  |(go_at_call 15;rename_i m;exact gd.out m)
  |(go_at_call 39;rename_i m;exact gb.out m)))
 refine jS ?_;intro m;by_cases I:o.kind=0
 ·rw[gE I]at M hM;rw[I]at D;have D:=D m;(go_wp2_with fail);go_ret;exact⟨by rw[M.out,pq];rfl,a8 hB m.ok⟩
 ·rw[gA I]at M hM;rw[gD]at hM;(have e0:(o.kind != 0)=true:=by simpa using I);have HZ:=hid (ga.out I (by omega) m);have D:=D m;have r1:=r1 m;have r2:=r2 m;have r3:=r3 m;(go_wp2_with fail);refine HZ.out.mono ?_;rintro e w3⟨rfl,m',rfl⟩;(go_wp2_with fail);go_ret;exact⟨by rw[M.out];rfl,a8 hB m'.ok⟩
theorem Rn(d:Nat)(HE:io d):rT d (fun n=>fc 33 [dv aE (aj d).expr] n=true) (cr (ac d)):=by
 intro v n w deep head hv hn hd hM;obtain⟨l,p,rfl,D⟩:=ch hn;obtain⟨x,rfl,M⟩:=ep D;unfold dv at M;rw[gH]at M;have J:Hid (tx (cr (ac d) (.mk 33 ⟨#[]⟩ [x] p) deep head)=if x.kind=0 then(⟨#[114,101,116,117,114,110]⟩:BA)else(⟨#[114,101,116,117,114,110,32]⟩:BA)++tx ((ac d).expr x deep false)):=by
  refine hid ?_;show tx (iy ⟨#[114,101,116,117,114,110]⟩::(if x.kind=0 then[]else bc::(ac d).expr x deep false))=_;rw[aC,Es];split
  ·rfl
  ·rw[aC,<-aA];rfl
 rw[J.out]at hM;obtain⟨A,cp,rfl,hC⟩:=hv.toC;simp only[Nd.kind_mk,Nd.text_mk,Nd.kids_mk,Nd.pos_mk]at *;have hB:=(aH w #[.int .i64 33,.string ⟨#[]⟩,.slice A 1 cp,.int .i64 p]).1;have I:bR w (.agg #[.int .i64 33,.string ⟨#[]⟩,.slice A 1 cp,.int .i64 p]) (.mk 33 ⟨#[]⟩ [x] p):=hv;obtain⟨bp,op,A2,c2,rfl,N⟩:=eR (aq.below I hB) 0 (by simp);simp only[Nd.kids_mk,jM,kE,jP]at N;have U:=hid (fun(h:x.kind≠0)(hm:(tx ((ac d).expr x deep false)).size<=10000000000000000)=>HE _ x _ deep false N.2.2.2.2 (me M h) hd hm);obtain⟨p0,p1,p2,p3,-⟩:=N;generalize tx ((ac d).expr x deep false)=X at *;clear hv hC I hn D HE M;by_cases D:x.kind=0
 ·rw[gE D]at J;rw[D]at p0;(go_enter Tryz.func69,Tryz.ntmps69);(go_wp2_with fail);go_ret;exact⟨by rw[J.out];rfl,hB⟩
 ·rw[gA D,gD]at hM;rw[gA D]at J;(have e0:(x.kind==0)=false:=by simpa using D);have HX:=hid (U.out D (by omega));(go_enter Tryz.func69,Tryz.ntmps69);(go_wp2_with fail);refine HX.out.mono ?_;rintro e w3⟨rfl,O⟩;(go_wp2_with fail);go_ret;exact⟨by rw[J.out];rfl,a8 hB O⟩
theorem Ro(d:Nat):rT d (fun n=>n.kind=34\/n.kind=35) (cr (ac d)):=by intro v n w deep head hv D hd hM;(have I:Hid (tx (cr (ac d) n deep head)=if n.kind=34 then(⟨#[98,114,101,97,107]⟩:BA)else(⟨#[99,111,110,116,105,110,117,101]⟩:BA)):=by refine hid ?_;unfold cr;rw[gA (by omega),gA (by omega),gA (by omega),gA (by omega),gA (by omega),gA (by omega),gA (by omega),gA (by omega),gA (by omega)];rcases D with h|h<;>rw[h]<;>rfl);obtain⟨A,cp,rfl,J⟩:=hv.toC;have hB:=(aH w #[.int .i64 n.kind,.string n.text,.slice A n.kids.length cp,.int .i64 n.pos]).1;clear hv J hd hM;rcases D with h|h<;>rw[h]at hB I |-;all_goals(go_enter Tryz.func69,Tryz.ntmps69);(go_wp2_with fail);go_ret;exact⟨by rw[I.out];rfl,hB⟩
theorem Ow(d:Nat)(O:io d):rT d (fun n=>n.kind=5/\oU (aj d) n=true) (cr (ac d)):=by intro v n w deep head hv D hd hM;obtain⟨D,J⟩:=D;(have N:Hid (tx (cr (ac d) n deep head)=tx (pc (ac d) n deep)):=by refine hid ?_;unfold cr;rw[gE D]);rw[N.out]at hM;obtain⟨A,cp,rfl,U⟩:=hv.toC;have hB:=(aH w #[.int .i64 n.kind,.string n.text,.slice A n.kids.length cp,.int .i64 n.pos]).1;have M:=hid (Ey d O _ n _ deep (aq.below hv hB) J hd hM);generalize tx (pc (ac d) n deep)=X at *;clear hv U J O;rw[D]at hB M |-;(go_enter Tryz.func69,Tryz.ntmps69);(go_wp2_with fail);refine M.out.mono ?_;rintro e w3⟨rfl,I⟩;(go_wp2_with fail);go_ret;exact⟨by rw[N.out];rfl,a8 hB I⟩
theorem Ox(d:Nat)(O:Ak d)(v:Value)(n:Nd)(w:World)(deep:Nat)(head:Bool)(I:bR w v n)(D:dj (aj d) n=true)(hd:deep+d+1<=1000)(M:(tx (cr (ac d) n deep head)).size<=10000000000000000):
  Calls Tryz.prog 69 #[v,.int .i64 (deep:Int),.bool head] w fun e w'=>e=.returned (.string (tx (cr (ac d) n deep head)))/\Below w w w':=by(have h:n.kind=36:=by unfold dj at D;rw[gB,gC]at D;exact D.1);(have U:Hid (tx (cr (ac d) n deep head)=tx (og (ac d) n deep)):=by refine hid ?_;unfold cr;rw[gA (by omega),gA (by omega),gA (by omega),gA (by omega),gA (by omega),gA (by omega),gA (by omega),gA (by omega),gA (by omega),gA (by omega),gA (by omega)]);rw[U.out]at M;obtain⟨A,cp,rfl,hC⟩:=I.toC;have hB:=(aH w #[.int .i64 n.kind,.string n.text,.slice A n.kids.length cp,.int .i64 n.pos]).1;have N:=hid (Aq d O _ n _ deep (aq.below I hB) D hd M);generalize tx (og (ac d) n deep)=X at *;clear I hC D O;rw[h]at hB N |-;(go_enter Tryz.func69,Tryz.ntmps69);(go_wp2_with fail);refine N.out.mono ?_;rintro e w3⟨rfl,J⟩;(go_wp2_with fail);go_ret;exact⟨by rw[U.out];rfl,a8 hB J⟩
def AK(c:UInt8):List UInt8:=if c=44 then[44,32]else[c]
def Oy(s:ByteArray)(i:Nat):ByteArray:=d8 (((bytes s).take i).flatMap AK)
theorem tL:∀l:List UInt8,l.all (fun c=>mh c||fk c)=true->l.flatMap AK=l
 |[],_=>rfl
 |c::l,h=>by rw[kC,gB]at h;(have hc:c≠44:=by rintro rfl;exact absurd h.1 (by decide));rw[jA,tL l h.2];unfold AK;rw[gA hc];rfl
theorem sy{l:List UInt8}(h:aO ⟨l.toArray⟩=true):l.all (fun c=>mh c||fk c)=true/\l.length<=100:=by
 unfold aO mi at h;simp only[gB,gC]at h;refine⟨?_,h.1⟩;have D:eT l=true:=h.2.1;cases l with
 |nil=>rfl
 |cons c l=>unfold eT at D;rw[gB]at D;rw[kC,D.1,D.2];rfl
theorem Oz{x:ByteArray}(h:ew x=true)(N:x≠(⟨#[]⟩:BA)):tx (ij x)=Oy x x.size++(⟨#[32,58,61,32]⟩:BA)/\x.size<=201:=by
 unfold ew at h;rw[jD N,vw,gH,gB,gB,gB]at h;unfold ij Oy;rw[gA N,bG,show(bytes x).take x.size=bytes x from jK (d5 _),show tx [bc,pb ⟨#[58,61]⟩,bc]=(⟨#[32,58,61,32]⟩:BA)from rfl];rcases h with⟨hc,J,M⟩|⟨hc,J⟩
 ·rw[gE hc];have I:bytes x=_:=Cv x.data.toList hc;unfold ev at M;rw[gB]at M;obtain⟨c1,D⟩:=sy J;obtain⟨c2,l2⟩:=sy M.1;refine⟨?_,?_⟩
  ·congr 1;apply cm;rw[rA,bO,I,kO,jA];have U:=tL _ c1;have O:=tL _ c2;unfold iJ at U O |-;rw[U,O];simp[ls,Tk,cX,bc,AK]
  ·have:=jH List.length I;rw[gJ,gM]at this;unfold iJ at D l2;rw[bN]at this;omega
 ·(have hc:(iJ x).2.2=false:=by simpa using hc);have I:_=bytes x:=FB x.data.toList hc;unfold ev at J;rw[gB]at J;obtain⟨c1,D⟩:=sy J.1;unfold iJ at hc c1 D |-;rw[I]at c1 D;rw[gA (by rw[hc];decide),I,tL _ c1];exact⟨by rw[Ac];rfl,by rw[bN]at D;omega⟩
theorem GN(s:ByteArray)(i:Nat)(h:i<s.size):Oy s (i+1)=Oy s i++d8 (AK ((bytes s).getD i 0)):=by have D:i<(bytes s).length:=h;unfold Oy;rw[<-FT,kF D,kO,jA,vu,kG,gN,gQ D];rfl
theorem RS(s:ByteArray):∀i,i<=s.size->(Oy s i).size<=2*i
 |0,_=>by unfold Oy;rw[qu];exact d5 _
 |i+1,h=>by have:=RS s i (by omega);(have D:(d8 (AK ((bytes s).getD i 0))).size<=2:=by show(AK _).length<=2;unfold AK;split<;>simp);rw[GN s i (by omega),gD];omega
theorem OA{F:dM}{n:Nd}(h:fc 32 [F.expr,F.block] (aG ew n)=true):∃t x b p,n=.mk 32 t [x,b] p/\ew t=true/\F.expr x=true/\F.block b=true:=by obtain⟨t,l,p,rfl,I,J⟩:=aJ (by decide) h;obtain⟨x,b,rfl,D,hb⟩:=li J;exact⟨t,x,b,p,rfl,I,D,hb⟩
theorem Tf(F:uR)(t:ByteArray)(x b:Nd)(p:Int)(deep:Nat)(head:Bool):tx (cr F (.mk 32 t [x,b] p) deep head)=(⟨#[102,111,114,32]⟩:BA)++tx (ij t)++(⟨#[114,97,110,103,101,32]⟩:BA)++tx (F.expr x deep true)++(⟨#[32]⟩:BA)++tx (F.block b deep):=by show tx (iy ⟨#[102,111,114]⟩::bc::(ij t++(iy ⟨#[114,97,110,103,101]⟩::bc::(F.expr x deep true++(bc::F.block b deep)))))=_;rw[aC,aC bc,bG,aC (iy ⟨#[114,97,110,103,101]⟩),aC bc (F.expr x deep true++_),bG,aC bc (F.block b deep),<-aA (tx [iy ⟨#[102,111,114]⟩]),show tx [iy ⟨#[102,111,114]⟩]++tx [bc]=(⟨#[102,111,114,32]⟩:BA)from rfl,<-aA (tx [iy ⟨#[114,97,110,103,101]⟩]),show tx [iy ⟨#[114,97,110,103,101]⟩]++tx [bc]=(⟨#[114,97,110,103,101,32]⟩:BA)from rfl];simp only[aA];rfl
theorem Rp(d:Nat)(HE:io d)(N:nG d):rT d (fun n=>fc 32 [(aj d).expr,(aj d).block] (aG ew n)=true) (cr (ac d)):=by
 intro v n w deep head hv hn hd hM;obtain⟨t,x,b,p,rfl,ht,hx,hb⟩:=OA hn;have HR:=hid (Tf (ac d) t x b p deep head);rw[HR.out]at hM;simp only[gD]at hM;have M:=hid (fun h:t≠(⟨#[]⟩:BA)=>Oz ht h);obtain⟨A,cp,rfl,hC⟩:=hv.toC;simp only[Nd.kind_mk,Nd.text_mk,Nd.kids_mk,Nd.pos_mk]at *;have hB:=(aH w #[.int .i64 32,.string t,.slice A 2 cp,.int .i64 p]).1;have ga:bR w (.agg #[.int .i64 32,.string t,.slice A 2 cp,.int .i64 p]) (.mk 32 t [x,b] p):=hv;have hN:=(aH w #[.int .i64 32,.string t,.slice A 2 cp,.int .i64 p]).2;obtain⟨bp,op,A2,c2,A3,c3,rfl,hp,hq⟩:=FR (aq.below ga hB);clear hv hC ga hn;(go_enter Tryz.func69,Tryz.ntmps69);(go_wp2_with fail);generalize w.alloc (.cells #[.int .i64 32,.string t,.slice (some ⟨bp,op,none⟩) 2 cp,.int .i64 p] 24)=W at *;go_loopg [10,11] t.size (fun k u10 u11 wr=>∃i:Nat,i<=t.size/\t.size-i<=k/\u11=.int .i64 (i:Int)/\u10=.string ((⟨#[102,111,114,32]⟩:BA)++Oy t i)/\W=wr)
 case atStart=>exact⟨0,gP _,by omega,rfl,rfl,rfl⟩
 case round=>
  obtain⟨i,hi,hk,rfl,rfl,rfl⟩:=hrel;have gh:=RS t i hi;obtain⟨n0,n1,n2,n3,-,-,-,-⟩:=ag hN;by_cases I:i<t.size
  ·(have D:t≠(⟨#[]⟩:BA):=by rintro rfl;exact absurd I (Nat.not_lt_zero _));have O:=(M.out D).2;(have U:(i:Int)<(t.size:Int):=by omega);have gg:=fun W=>BP t i I W;have HS:=hid (GN t i I);have HO:=hid (Og t i I);have gi:=eU t i;have J:aa t i=((bytes t).getD i 0).toNat:=rfl;generalize(bytes t).getD i 0=c at *;generalize aa t i=cn at *;generalize Oy t i=S at *;(have p0:(0:Int)<=(i:Int):=by omega);(have p1:(i:Int)<=(t.size:Int):=by omega);(have p2:(0:Int)<=(i:Int)+1:=by omega);(have p3:(i:Int)+1<=(t.size:Int):=by omega);have q1:IntKind.i64.wrap ((i:Int)+1)=(i:Int)+1:=gO _ (by omega);(have q2:((i:Int)+1).toNat=i+1:=by omega);(have hz:(t.extract i (i+1)).size=1:=by rw[HO.out];rfl);clear hp hq HE N hx hb;by_cases c1:c=44
   ·subst c1;obtain rfl:cn=44:=J;(go_wp2_with fail);go_roundg (t.size-(i+1))
    case measure=>omega
    case rel=>exact⟨i+1,by omega,d5 _,by go_num,by rw[HS.out,HO.out];simp only[aA];rfl,rfl⟩
   ·(have e1:((cn:Int)==44)=false:=by rw[gF];intro h;refine c1 ?_;rw[<-UInt8.toNat_inj,<-J];show cn=44;omega);rw[show d8 (AK c)=⟨#[c]⟩by unfold AK;rw[gA c1];rfl]at HS;clear J c1;(go_wp2_with fail);go_roundg (t.size-(i+1))
    case measure=>omega
    case rel=>exact⟨i+1,by omega,d5 _,by go_num,by rw[HS.out,HO.out];simp only[aA],rfl⟩
  ·(have U:¬ (i:Int)<(t.size:Int):=by omega);(obtain rfl:i=t.size:=by omega);have ge:=hid (uV fun m:Wd (Below W W)=>HE _ x m.wd deep true (hp.below m.ok).2.2.2.2 hx hd (by omega));have gd:=hid (uV fun m:Wd (Below W W)=>N _ b m.wd deep (hq.below m.ok).2.2.2.2 hb hd (by omega));obtain⟨k0,k1,k2,k3⟩:=Ao hp;obtain⟨b0,b1,b2,b3⟩:=Ao hq;generalize tx ((ac d).expr x deep true)=X at *;generalize tx ((ac d).block b deep)=Y at *;clear hp hq HE N hx hb hi hk hN;have H0:=hid (fun h:t=(⟨#[]⟩:BA)=>show tx (ij t)=Oy t t.size by subst h;rfl);generalize Oy t t.size=S at *;by_cases D:t=(⟨#[]⟩:BA);(have gb:t.toList.isEmpty=true:=by rw[aK];simpa using D);(have O:t.size<=201:=by rw[D];exact gP _);rw[H0.out D]at HR hM
   rotate_left
   (have gb:t.toList.isEmpty=false:=by rw[aK];simpa using D);have O:=(M.out D).2;rw[(M.out D).1]at HR hM;rw[gD]at hM
   rotate_left
   all_goals
    clear D;(go_wp2_with fail);refine cQ W ?_;repeat(go_big_quiet_step (first
     |(go_at_call 15;rename_i m;exact ge.out m)
     |(go_at_call 39;rename_i m;exact gd.out m)))
    refine jS ?_;intro m;(go_wp2_with fail);go_ret;exact⟨by rw[HR.out];simp only[aA];rfl,a8 hB m.ok⟩
end
end Go.Proofs.YtiebcdeafofgdaaGreatDoor
