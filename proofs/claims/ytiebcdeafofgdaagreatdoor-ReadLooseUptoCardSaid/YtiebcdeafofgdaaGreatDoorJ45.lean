/-
  Parts of the proof: Pwg Pwi Pwj Pwk Pwl. By an AI agent.
-/
import Derived.Test.YtiebcdeafofgdaaGreatDoorJ35
import Derived.Test.YtiebcdeafofgdaaGreatDoorJ02
import Derived.Test.YtiebcdeafofgdaaGreatDoorJ00
import Derived.Test.YtiebcdeafofgdaaGreatDoorJ44
import Derived.BigQuiet
import Derived.Deep.RegionHeld3
import Derived.Deep.DeepCutAuto
open Go.Proofs.Tryz
set_option maxRecDepth 100000
set_option maxHeartbeats 8000000
namespace Go.Proofs.YtiebcdeafofgdaaGreatDoor
section
open Go.RowKit Go.Lib Go.Proofs
attribute [local go_sem ↓] Go.wp_at_zero Go.wp_at_succ
theorem Ac(s:ByteArray)(i:Nat)(D:i<s.size)(W:World):(Instr.index 9 (.string s) (.int .i64 (i:Int))).run prog W=.ok (.int .u8 (ac s i:Int)) W:=by rw[run_index_string (P:=prog) W 9 s .i64 (i:Int) underlying9];simp[ac,D];rfl
def PP(s:ByteArray)(i:Nat):ByteArray:=d7 (34::((bytes s).take i).flatMap ce)
def SP(b:UInt8):ByteArray:=d7 (ce b)
theorem EE(x y:List UInt8):d7 (x++y)=d7 x++d7 y:=by apply cg;rw[aO,bH,bH,bH]
theorem FS(s:ByteArray)(i:Nat)(h:i<s.size):PP s (i+1)=PP s i++SP ((bytes s).getD i 0):=by have D:i<(bytes s).length:=h;unfold PP SP;rw[<-EE,gZ D,kJ,jH,List.flatMap_nil,kG,gR,gN D];rfl
theorem SQ(s:ByteArray):d7 (bW (bytes s))=PP s s.size++(⟨#[34]⟩:BA):=by unfold PP bW;rw[show(⟨#[34]⟩:BA)=d7 [34]from rfl,<-EE,show(bytes s).take s.size=bytes s from jA (gA _)]
theorem SR(b:UInt8):(SP b).size<=4:=by(have:(ce b).length<=4:=by unfold ce;(repeat' split);all_goals simp);exact this
theorem Nr(s:ByteArray):∀i,i<=s.size->(PP s i).size<=4*i+1
 |0,_=>by unfold PP;rw[qL];exact gA _
 |i+1,h=>by have:=Nr s i (by omega);have:=SR ((bytes s).getD i 0);rw[FS s i (by omega),gD];omega
def In:ByteArray:=(⟨#[48,49,50,51,52,53,54,55,56,57,97,98,99,100,101,102]⟩:BA)
theorem ue:∀n,n<16->In.extract n (n+1)=⟨#[yk n]⟩:=by decide +kernel
theorem PQ{c:UInt8}(h:¬ (c=34\/c=92\/c=10\/c=9))(D:32<=c.toNat/\c.toNat<=126):SP c=⟨#[c]⟩:=by simp only[not_or]at h;unfold SP ce;rw[d5 h.1,d5 h.2.1,d5 h.2.2.1,d5 h.2.2.2,gF D];rfl
theorem PR{c:UInt8}(h:¬ (c=34\/c=92\/c=10\/c=9))(D:¬ (32<=c.toNat/\c.toNat<=126)):SP c=(⟨#[92,120]⟩:BA)++In.extract (c.toNat/16) (c.toNat/16+1)++In.extract (c.toNat%16) (c.toNat%16+1):=by have I:c.toNat<256:=vw c;rw[ue (c.toNat/16) (by omega),ue (c.toNat%16) (by omega)];simp only[not_or]at h;unfold SP ce;rw[d5 h.1,d5 h.2.1,d5 h.2.2.1,d5 h.2.2.2,d5 D];rfl
theorem Ns(s:ByteArray)(i:Nat)(h:i<s.size):s.extract i (i+1)=⟨#[(bytes s).getD i 0]⟩:=by apply cg;have D:i<(bytes s).length:=h;rw[ez,show i+1-i=1 by omega,jX D,gR,gN D];rfl
theorem Io(s:ByteArray)(hs:s.size<=1000)(w:World):Calls prog 33 #[s] w fun e w'=>e=.returned (.string (d7 (bW (bytes s))))/\Below w w w':=by
 have N:=hid (SQ s);(go_enter func33,ntmps33);go_wp2_with fail;go_loopg [3,4] s.size (fun k u3 u4 wr=>∃i:Nat,i<=s.size/\s.size-i<=k/\u4=.int .i64 (i:Int)/\u3=.string (PP s i)/\Below w w wr)
 case atStart=>exact⟨0,gP _,by omega,rfl,rfl,gG _ _⟩
 case round=>
  obtain⟨i,hi,hk,rfl,rfl,hB⟩:=hrel;have ga:=Nr s i hi;by_cases I:i<s.size
  ·(have J:(i:Int)<(s.size:Int):=by omega);(have h0:(0:Int)<=(i:Int):=by omega);have hb:=fun W=>Ac s i I W;have M:=hid (FS s i I);have HO:=hid (Ns s i I);have O:=ed s i;have D:ac s i=((bytes s).getD i 0).toNat:=rfl;generalize(bytes s).getD i 0=c at *;generalize ac s i=cn at *;generalize PP s i=S at *;by_cases c1:c=34\/c=92\/c=10\/c=9
   ·rcases c1 with rfl|rfl|rfl|rfl;all_goals
     (first|(obtain rfl:cn=34:=D)|(obtain rfl:cn=92:=D)|(obtain rfl:cn=10:=D)|(obtain rfl:cn=9:=D));go_wp2_with fail;go_roundg (s.size-(i+1))
     case measure=>omega
     case rel=>exact⟨i+1,by omega,gA _,by go_num,by rw[M.out];rfl,hB⟩
   ·(have d1:cn≠34/\cn≠92/\cn≠10/\cn≠9:=by refine⟨?_,?_,?_,?_⟩<;>intro h<;>rw[D]at h<;>refine c1 ?_<;>simp only[<-vB]<;>simp only[h]<;>decide);(have e1:((cn:Int)==34)=false:=by rw[gC];omega);(have e2:((cn:Int)==92)=false:=by rw[gC];omega);(have e3:((cn:Int)==10)=false:=by rw[gC];omega);(have e4:((cn:Int)==9)=false:=by rw[gC];omega);by_cases c2:32<=cn/\cn<=126
    ·(have g1:(32:Int)<=(cn:Int):=by omega);(have g2:(cn:Int)<=126:=by omega);(have p0:(0:Int)<=(i:Int):=by omega);(have p1:(i:Int)<=(s.size:Int):=by omega);(have p2:(0:Int)<=(i:Int)+1:=by omega);(have p3:(i:Int)+1<=(s.size:Int):=by omega);have q1:IntKind.i64.wrap ((i:Int)+1)=(i:Int)+1:=gQ _ (by omega);(have q2:((i:Int)+1).toNat=i+1:=by omega);rw[PQ c1 (by rw[<-D];exact c2)]at M;(have hz:(s.extract i (i+1)).size=1:=by rw[HO.out];rfl);clear D c1 c2 d1 O;go_wp2_with fail;go_roundg (s.size-(i+1))
     case measure=>omega
     case rel=>exact⟨i+1,by omega,gA _,by go_num,by rw[M.out,HO.out],hB⟩
    ·have g3:32<=cn->¬ cn<=126:=fun a b=>c2 ⟨a,b⟩;rw[PR c1 (by rw[<-D];exact c2)]at M;(go_upto_region 6 with fail);all_goals
      (have z1:(In.extract (c.toNat/16) (c.toNat/16+1)).size=1:=by rw[ue _ (by omega)];rfl);(have z2:(In.extract (c.toNat%16) (c.toNat%16+1)).size=1:=by rw[ue _ (by omega)];rfl);unfold In at z1 z2;refine cT wr ?_;(repeat(go_big_quiet_step (fail)));refine jY ?_;intro m;have U:=m.ok;go_wp2_with fail;go_roundg (s.size-(i+1))
      case measure=>omega
      case rel=>exact⟨i+1,by omega,gA _,by go_num,by rw[M.out];rfl,aD hB U⟩
  ·(have J:¬ (i:Int)<(s.size:Int):=by omega);(obtain rfl:i=s.size:=by omega);go_wp2_with fail;go_ret;exact⟨by rw[N.out];rfl,hB⟩
def wT(d:Nat)(P:Int->Prop):Prop:=∀(v:Value)(n:Nd)(w:World)(deep:Nat)(head:Bool),aF w v n->aA (aa d) n=true->P n.kind->deep+d<=1000->(tx (mA (ao d) n deep head)).size<=10000000000000000 ->
 Calls prog 15 #[v,(deep:Int),.bool head] w fun e w'=>e=.returned (.string (tx (mA (ao d) n deep head)))/\Below w w w'
theorem Nt(d:Nat):wT d (fun k=>k=16\/k=18):=by
 intro v n w deep head hv hn D hd hM;obtain⟨A,cp,rfl,I⟩:=hv.toC;have hB:=(aj w #[n.kind,n.text,.slice A n.kids.length cp,n.pos]).1;have J:Hid (tx (mA (ao d) n deep head)=n.text):=by
  refine hid ?_;unfold mA;rcases D with h|h<;>rw[h]
  ·exact wK 4 n.text
  ·exact wL n.text
 clear hv hn I hd hM;rcases D with h|h<;>rw[h]at hB |-;all_goals(go_enter func15,ntmps15);go_wp2_with fail;go_ret;exact⟨by rw[J.out];rfl,hB⟩
theorem PS(d:Nat):wT d (fun k=>k=17):=by intro v n w deep head hv hn hk hd hM;obtain⟨A,cp,rfl,I⟩:=hv.toC;have hB:=(aj w #[n.kind,n.text,.slice A n.kids.length cp,n.pos]).1;(have J:Hid (tx (mA (ao d) n deep head)=d7 (bW (bytes n.text))):=by refine hid ?_;unfold mA;rw[d5 (by omega),gF hk];apply cg;rw[pH,bH];exact kG _);(have hs:n.text.size<=1000:=by unfold aA at hn;rw[d5 (by omega),gF hk]at hn;obtain⟨t,l,a,rfl,hs,-⟩:=aN (by decide) hn;exact of_decide_eq_true hs);have M:=hid (fun w'=>Io n.text hs w');clear hv hn I hd hM;rw[hk]at hB |-;(go_enter func15,ntmps15);go_wp2_with fail;refine(M.out _).mono ?_;rintro e w3⟨rfl,D⟩;go_wp2_with fail;go_ret;exact⟨by rw[J.out];rfl,aD hB D⟩
theorem IG{W:World}{b:Nat}{t:TypeId}{v0 v1 v2 v3:Value}(h:an W b t #[v0,v1,v2,v3]):
  (∀m:Wd (Below W W),m.wd.cell? ⟨b,0,none⟩=some v0)/\(∀m:Wd (Below W W),m.wd.cell? ⟨b,1,none⟩=some v1)/\(∀m:Wd (Below W W),m.wd.cell? ⟨b,2,none⟩=some v2)/\(∀m:Wd (Below W W),m.wd.cell? ⟨b,3,none⟩=some v3):=
 ⟨fun m=>((h.bl m.ok).cell 0).trans rfl,fun m=>((h.bl m.ok).cell 1).trans rfl,fun m=>((h.bl m.ok).cell 2).trans rfl,fun m=>((h.bl m.ok).cell 3).trans rfl⟩
theorem Dw{W:World}{b o:Nat}{x:Nd}{A:Option Addr}{c:Nat}(h:K4 W b o x A c):
  (∀m:Wd (Below W W),m.wd.cell? ⟨b,o,none⟩=some (.int .i64 x.kind))/\(∀m:Wd (Below W W),m.wd.cell? ⟨b,o+1,none⟩=some (.string x.text))/\(∀m:Wd (Below W W),m.wd.cell? ⟨b,o+2,none⟩=some (.slice A x.kids.length c))/\(∀m:Wd (Below W W),m.wd.cell? ⟨b,o+3,none⟩=some (.int .i64 x.pos)):=
 ⟨fun m=>(h.below m.ok).1,fun m=>(h.below m.ok).2.1,fun m=>(h.below m.ok).2.2.1,fun m=>(h.below m.ok).2.2.2.1⟩
theorem EF(n x:Nd):eG n x=((x.kind==20)||((x.kind==19)&&((n.text.toList==[45])&&(x.text.toList==[45])))):=by unfold eG;rw[ck,ck];rfl
theorem Nu(F:CI)(t:ByteArray)(x:Nd)(p:Int)(deep:Nat)(head:Bool):tx (mA F (.mk 19 t [x] p) deep head)=t++tx (aK F (eG (.mk 19 t [x] p) x) x deep head):=by show tx (iV t::aK F _ x deep head)=_;rw[aI,Di];rfl
theorem ST(d:Nat)(HE:ie d):wT d (fun k=>k=19):=by
 intro v n w deep head hv hn hk hd hM;unfold aA at hn;rw[d5 (by omega),d5 (by omega),d5 (by omega),gF hk]at hn;obtain⟨t,l,p,rfl,-,h0⟩:=aN (by decide) hn;obtain⟨x,rfl,hx⟩:=d8 h0;have HR:=hid (Nu (ao d) t x p deep head);rw[HR.out,gD]at hM;have J:=hid (EF (.mk 19 t [x] p) x);obtain⟨A,cp,rfl,hC⟩:=hv.toC;simp only[Nd.kind_mk,Nd.text_mk,Nd.kids_mk,Nd.pos_mk]at *;have hB:=(aj w #[.int .i64 19,.string t,.slice A 1 cp,.int .i64 p]).1;have M:aF w (.agg #[.int .i64 19,.string t,.slice A 1 cp,.int .i64 p]) (.mk 19 t [x] p):=hv;obtain⟨bp,op,D,c2,rfl,O⟩:=eV (af.below M hB) 0 (by simp);simp only[Nd.kids_mk,gT,jK,jD]at O;have ga:=hB.alloc (by simp) (.cells #[x.kind,x.text,.slice D x.kids.length c2,x.pos] 24);have hX:an ((w.alloc (.cells #[.int .i64 19,.string t,.slice (some ⟨bp,op,none⟩) 1 cp,.int .i64 p] 24)).alloc (.cells #[x.kind,x.text,.slice D x.kids.length c2,x.pos] 24)) (w.heap.size+1) 24 #[x.kind,x.text,.slice D x.kids.length c2,x.pos]:=an.new_at (by simp) _ _;have hN:=(show an (w.alloc (.cells #[.int .i64 19,.string t,.slice (some ⟨bp,op,none⟩) 1 cp,.int .i64 p] 24)) w.heap.size 24 #[.int .i64 19,.string t,.slice (some ⟨bp,op,none⟩) 1 cp,.int .i64 p]from an.new w _ _).alloc (.cells #[x.kind,x.text,.slice D x.kids.length c2,x.pos] 24);have I:=af.below O.2.2.2.2 ((gG _ _).alloc (gA _) (.cells #[x.kind,x.text,.slice D x.kids.length c2,x.pos] 24));obtain⟨p0,p1,p2,p3,-⟩:=O;clear hv hC M hB h0;(go_enter func15,ntmps15);(go_upto_region 6 with fail);generalize(w.alloc (.cells #[.int .i64 19,.string t,.slice (some ⟨bp,op,none⟩) 1 cp,.int .i64 p] 24)).alloc (.cells #[x.kind,x.text,.slice D x.kids.length c2,x.pos] 24)=W at *;have HX:=hid (fun m:Wd (Below W W)=>pJ d HE _ x m.wd (eG (.mk 19 t [x] p) x) deep head (af.below I m.ok) hx hd (by omega));obtain⟨x0,x1,x2,x3⟩:=IG hX;obtain⟨-,n1,-,-⟩:=IG hN;generalize tx (aK (ao d) (eG (.mk 19 t [x] p) x) x deep head)=X at *;clear hX hN I hx HE p0 p1 p2 p3;cases gb:(x.kind==20)
 rotate_left
 rotate_left
 cases gd:(x.kind==19)
 rotate_left
 cases U:(t.toList==[45])<;>cases N:(x.text.toList==[45]);all_goals
  (try rw[gd]at J);(try rw[U,N]at J);rw[gb]at J;first
   |rw[show eG (.mk 19 t [x] p) x=true from J.out]at HX
   |rw[show eG (.mk 19 t [x] p) x=false from J.out]at HX
  refine cT W ?_;(repeat(go_big_quiet_step ((go_at_call 34;rename_i m;refine(HX.out m).mono ?_;rintro e w'⟨rfl,hb⟩;exact⟨rfl,⟨w',aD m.ok hb⟩,rfl⟩))));refine jY ?_;intro m;have h:=aD ga m.ok;go_wp2_with fail;go_ret;exact⟨by rw[HR.out];rfl,h⟩
theorem Nv(F:CI)(t:ByteArray)(a b:Nd)(p:Int)(deep:Nat)(head:Bool):tx (mA F (.mk 20 t [a,b] p) deep head)=tx (aK F (eH (.mk 20 t [a,b] p) a) a deep head)++(⟨#[32]⟩:BA)++t++(⟨#[32]⟩:BA)++tx (aK F (ei (.mk 20 t [a,b] p) b) b deep head):=by show tx (aK F _ a deep head++(bu::iV t::bu::aK F _ b deep head))=_;rw[bE,aI,aI (iV t),aI bu (aK F _ b deep head),Di,y6,az,az,az];rfl
theorem PT(d:Nat)(HE:ie d):wT d (fun k=>k=20):=by
 intro v n w deep head hv hn hk hd hM;unfold aA at hn;rw[d5 (by omega),d5 (by omega),d5 (by omega),d5 (by omega),gF hk]at hn;obtain⟨t,l,p,rfl,-,h0⟩:=aN (by decide) hn;obtain⟨a,b,rfl,ha,hb⟩:=ll h0;have HR:=hid (Nv (ao d) t a b p deep head);rw[HR.out,gD,gD,gD,gD]at hM;obtain⟨A,cp,rfl,hC⟩:=hv.toC;simp only[Nd.kind_mk,Nd.text_mk,Nd.kids_mk,Nd.pos_mk]at *;have hB:=(aj w #[.int .i64 20,.string t,.slice A 2 cp,.int .i64 p]).1;have gg:aF w (.agg #[.int .i64 20,.string t,.slice A 2 cp,.int .i64 p]) (.mk 20 t [a,b] p):=hv;have hN:=(aj w #[.int .i64 20,.string t,.slice A 2 cp,.int .i64 p]).2;obtain⟨bp,op,A2,c2,A3,c3,rfl,hp,hq⟩:=Il (af.below gg hB);(go_enter func15,ntmps15);(go_upto_region 8 with fail);generalize w.alloc (.cells #[.int .i64 20,.string t,.slice (some ⟨bp,op,none⟩) 2 cp,.int .i64 p] 24)=W at *;have KS:∀w',Below W W w'->(w'.cell? ⟨w,1,none⟩=some (.string t)/\w'.cell? ⟨w,2,none⟩=some (.slice (some ⟨bp,op,none⟩) 2 cp)/\w'.cell? ⟨bp,op,none⟩=some (.int .i64 a.kind)/\w'.cell? ⟨bp,op+1,none⟩=some (.string a.text)/\w'.cell? ⟨bp,op+2,none⟩=some (.slice A2 a.kids.length c2)/\w'.cell? ⟨bp,op+3,none⟩=some (.int .i64 a.pos) /\
   w'.cell? ⟨bp,op+4,none⟩=some (.int .i64 b.kind)/\w'.cell? ⟨bp,op+4+1,none⟩=some (.string b.text)/\w'.cell? ⟨bp,op+4+2,none⟩=some (.slice A3 b.kids.length c3)/\w'.cell? ⟨bp,op+4+3,none⟩=some (.int .i64 b.pos)):=fun w' h=>
  ⟨(ab (hN.bl h)).2.1,(ab (hN.bl h)).2.2.1,(hp.below h).1,(hp.below h).2.1,(hp.below h).2.2.1,(hp.below h).2.2.2.1,(hq.below h).1,(hq.below h).2.1,(hq.below h).2.2.1,(hq.below h).2.2.2.1⟩
 have M:Hid (eH (.mk 20 t [a,b] p) a=((a.kind==20)&&decide ((bR a.text:Int)<(bR t:Int)))):=hid (by unfold eH;congr 1;rw[kU];exact Int.ofNat_lt.symm);have N:Hid (ei (.mk 20 t [a,b] p) b=((b.kind==20)&&decide ((bR b.text:Int)<=(bR t:Int)))):=hid (by unfold ei;congr 1;rw[kU];exact Int.ofNat_le.symm);have J:=hp.2.2.2.2;have I:=hq.2.2.2.2;have gh:=hid (fun W=>tf t W);clear hv hC gg h0;go_cut [8,9,10] (fun s8 s9 s10 wx=>∃ga gb,s8=.pointer (some ⟨ga,0,none⟩)/\s9=.pointer (some ⟨gb,0,none⟩)/\s10=.int .i64 (bR t:Int)/\Below W W wx /\
  an wx ga 24 #[a.kind,a.text,.slice A2 a.kids.length c2,a.pos]/\an wx gb 24 #[b.kind,b.text,.slice A3 b.kids.length c3,b.pos])
 case first=>
  go_region_held3 (fun w'=>w'.cell? ⟨w,1,none⟩=some (.string t)/\w'.cell? ⟨w,2,none⟩=some (.slice (some ⟨bp,op,none⟩) 2 cp)/\w'.cell? ⟨bp,op,none⟩=some (.int .i64 a.kind)/\w'.cell? ⟨bp,op+1,none⟩=some (.string a.text)/\w'.cell? ⟨bp,op+2,none⟩=some (.slice A2 a.kids.length c2)/\w'.cell? ⟨bp,op+3,none⟩=some (.int .i64 a.pos) /\
    w'.cell? ⟨bp,op+4,none⟩=some (.int .i64 b.kind)/\w'.cell? ⟨bp,op+4+1,none⟩=some (.string b.text)/\w'.cell? ⟨bp,op+4+2,none⟩=some (.slice A3 b.kids.length c3)/\w'.cell? ⟨bp,op+4+3,none⟩=some (.int .i64 b.pos))
   (exact KS _ bel)
   ((go_at_call 35;refine(gh.out _).mono ?_;rintro e w'⟨rfl,rfl⟩))
  all_goals
   go_wp2_with fail;go_meet;first
    |exact⟨W.heap.size,W.heap.size+1,rfl,rfl,rfl,bel,(an.new W _ _).alloc _,an.new_at (by simp) _ _⟩
    |exact⟨W.heap.size+1,W.heap.size,rfl,rfl,rfl,bel,an.new_at (by simp) _ _,(an.new W _ _).alloc _⟩
 case rest=>
  obtain⟨ga,gb,rfl,rfl,rfl,D,ge,gd⟩:=hcut;have hN:=hN.bl D;have J:=af.below J D;have I:=af.below I D;have gl:=aD hB D;clear hp hq KS gh D hB;generalize wc=V at *;have gn:=hid (fun m:Wd (Below V V)=>tf a.text m.wd);have gm:=hid (fun m:Wd (Below V V)=>tf b.text m.wd);generalize(bR a.text:Int)=la at *;generalize(bR b.text:Int)=lb at *;generalize(bR t:Int)=lt at *;have U:=hid (fun m:Wd (Below V V)=>pJ d HE _ a m.wd (eH (.mk 20 t [a,b] p) a) deep head (af.below J m.ok) ha hd (by omega));have O:=hid (fun m:Wd (Below V V)=>pJ d HE _ b m.wd (ei (.mk 20 t [a,b] p) b) deep head (af.below I m.ok) hb hd (by omega));generalize tx (aK (ao d) (eH (.mk 20 t [a,b] p) a) a deep head)=X at *;generalize tx (aK (ao d) (ei (.mk 20 t [a,b] p) b) b deep head)=Y at *;obtain⟨a0,a1,a2,a3⟩:=IG ge;obtain⟨b0,b1,b2,b3⟩:=IG gd;obtain⟨-,n1,-,-⟩:=IG hN;clear ge gd hN J I HE ha hb hn;cases gj:(a.kind==20)<;>cases gi:(b.kind==20);all_goals
   rw[gj]at M;rw[gi]at N;first
    |rw[show eH (.mk 20 t [a,b] p) a=false from M.out]at U
    |rw[show eH (.mk 20 t [a,b] p) a=decide (la<lt)from M.out]at U
   first
    |rw[show ei (.mk 20 t [a,b] p) b=false from N.out]at O
    |rw[show ei (.mk 20 t [a,b] p) b=decide (lb<=lt)from N.out]at O
   (go_upto_region 9 with fail);refine cT V ?_;repeat(go_big_quiet_step (first
    |(go_at_call 35;rename_i m;((with_reducible first|refine(gn.out m).mono ?_ |refine(gm.out m).mono ?_);rintro e w'⟨rfl,rfl⟩);exact⟨rfl,m,rfl⟩)
    |(go_at_call 34;rename_i m;with_reducible exact yr U.out m)
    |(go_at_call 34;rename_i m;with_reducible exact yr O.out m)))
   refine jY ?_;intro m;have gk:=aD gl m.ok;go_wp2_with fail;go_ret;exact⟨by rw[HR.out];rfl,gk⟩
theorem PU{d:Nat}{x:Nd}(h:(aa d).expr x=true):¬ (x.kind=11\/x.kind=12):=by
 cases d with
 |zero=>cases h
 |succ d=>have h:aA (aa d) x=true:=h;intro D;rcases D with D|D<;>simp[aA,cA,D]at h
def Ip(d:Nat)(x:Nd):Prop:=(if x.kind=11\/x.kind=12 then(aa d).typ x else(aa d).expr x)=true
theorem wU{d:Nat}{x:Nd}(h:(aa d).expr x=true):Ip d x:=by unfold Ip;rw[d5 (PU h)];exact h
theorem Nw{d:Nat}{x:Nd}(h:dB (aa d) x=true):Ip d x:=by
 unfold dB at h;rw[gI,gB,gE]at h;rcases h with h|⟨I,D⟩
 ·exact wU h
 ·unfold Ip;have:=typ_kind D;rw[gF (by omega)];exact D
theorem PV{d:Nat}{n:Nd}(h:aA (aa d) n=true)(D:n.kind=21\/n.kind=22\/n.kind=23):∃k t f l p,n=.mk k t (f::l) p/\(aa d).expr f=true/\(k=23\/∀x∈l,Ip d x):=by
 unfold aA at h;rw[d5 (by omega),d5 (by omega),d5 (by omega),d5 (by omega),d5 (by omega)]at h;have e:=n.eta;rcases D with D|D|D
 ·rw[gF D,gB,gB,gE,gE]at h;obtain⟨-,J,I⟩:=h;generalize n.kids=l at *;rcases l with _|⟨f,l⟩
  ·cases J
  ·have I:=List.all_eq_true.1 I;exact⟨_,_,f,l,_,e,I f (by simp),.inr fun x hx=>wU (I x (by simp[hx]))⟩
 ·rw[d5 (by omega),gF D,gB,gB,gB,gE,gE]at h;obtain⟨-,J,M,I⟩:=h;generalize n.kids=l at *;rcases l with _|⟨f,l⟩
  ·exact absurd J (by simp)
  ·exact⟨_,_,f,l,_,e,M,.inr fun x hx=>Nw (List.all_eq_true.1 I x hx)⟩
 ·rw[d5 (by omega),d5 (by omega),gF D]at h;obtain⟨t,l,p,rfl,-,N⟩:=aN (by decide) h;obtain⟨f,rfl,M⟩:=d8 N;exact⟨_,t,f,[],p,rfl,M,.inl rfl⟩
theorem Dn(F:CI)(k:Int)(t:ByteArray)(f:Nd)(l:List Nd)(p:Int)(deep:Nat)(head:Bool)(D:k=21\/k=22\/k=23):tx (mA F (.mk k t (f::l) p) deep head)=tx (aK F ((f.kind==19)||(f.kind==20)) f deep head) ++
  (if k=21 then(⟨#[40]⟩:BA)++tx (dq F (.mk k t (f::l) p) deep)++(⟨#[41]⟩:BA)else if k=22 then(⟨#[91]⟩:BA)++tx (dq F (.mk k t (f::l) p) deep)++(⟨#[93]⟩:BA)else(⟨#[46]⟩:BA)++t):=by
 rcases D with rfl|rfl|rfl
 ·show tx (aK F _ f deep head++(bS 40::(dq F _ deep++[bS 41])))=_;rw[bE,aI,bE,gF rfl,az];rfl
 ·show tx (aK F _ f deep head++(bS 91::(dq F _ deep++[bS 93])))=_;rw[bE,aI,bE,d5 (by decide),gF rfl,az];rfl
 ·show tx (aK F _ f deep head++[bS 46,mK t])=_;rw[bE,aI,wL,d5 (by decide),d5 (by decide)];rfl
theorem Nx(d:Nat)(HE:ie d):wT d (fun k=>k=21\/k=22\/k=23):=by
 intro v n w deep head hv hn hk hd J;obtain⟨k,t,f,l,p,rfl,hf,hl⟩:=PV hn hk;have O:=hid (Dn (ao d) k t f l p deep head hk);rw[O.out,gD]at J;obtain⟨A,cp,rfl,hC⟩:=hv.toC;simp only[Nd.kind_mk,Nd.text_mk,Nd.kids_mk,Nd.pos_mk]at *;have hB:=(aj w #[.int .i64 k,.string t,.slice A (f::l).length cp,.int .i64 p]).1;have hN:=(aj w #[.int .i64 k,.string t,.slice A (f::l).length cp,.int .i64 p]).2;obtain⟨bp,op,A2,c2,rfl,hp⟩:=eV (af.below hv hB) 0 (by simp);simp only[Nd.kids_mk,gT,jK,jD]at hp;(have gi:(0:Int)<((f::l).length:Int):=by simp);have N:=hB.alloc (by simp) (.cells #[f.kind,f.text,.slice A2 f.kids.length c2,f.pos] 24);have ga:=hN.alloc (.cells #[f.kind,f.text,.slice A2 f.kids.length c2,f.pos] 24);have U:=af.below hp.2.2.2.2 ((gG _ _).alloc (gA _) (.cells #[f.kind,f.text,.slice A2 f.kids.length c2,f.pos] 24));have gb:=af.below hv N;obtain⟨p0,p1,p2,p3,-⟩:=hp;have D:=hid (pJ d HE _ f _ ((f.kind==19)||(f.kind==20)) deep head U hf hd (by omega));have HO:=hid (fun(w':World)(hb:Below w w w')(h:k≠23)(J:(tx (dq (ao d) (.mk k t (f::l) p) deep)).size<=10000000000000000)=>wS d HE _ (.mk k t (f::l) p) w' deep (af.below hv hb) (hl.resolve_left h) hd J);generalize tx (aK (ao d) ((f.kind==19)||(f.kind==20)) f deep head)=X at *;generalize tx (dq (ao d) (.mk k t (f::l) p) deep)=Y at *;clear hv hC hN U gb hn hf hl;generalize(f::l).length=m at *;(go_enter func15,ntmps15);cases gg:(f.kind==19)
 rotate_left
 rotate_left
 cases ge:(f.kind==20);all_goals
  rcases hk with rfl|rfl|rfl;all_goals
   first
    |rw[gF (show(21:Int)=21 from rfl)]at O J
    |rw[d5 (show ¬ (22:Int)=21 by decide),gF (show(22:Int)=22 from rfl)]at O J
    |rw[d5 (show ¬ (23:Int)=21 by decide),d5 (show ¬ (23:Int)=22 by decide)]at O J
   (try rw[ge]at D);rw[gg]at D;simp only[gD]at J;go_wp2_with fail;refine D.out.mono ?_;rintro e w3⟨rfl,I⟩;have M:=aD N I;obtain⟨n0,n1,n2,n3,-,-,-,-⟩:=ab (ga.bl I);clear I D p0 p1 p2 p3 ga N hB;first
    |(have gh:=HO.out w3 M (by decide) (by omega);go_wp2_with fail;refine gh.mono ?_;rintro e w4⟨rfl,gd⟩;go_wp2_with fail;go_ret;exact⟨by rw[O.out];simp only[az];rfl,aD M gd⟩)
    |(go_wp2_with fail;go_ret;exact⟨by rw[O.out];simp only[az];rfl,M⟩)
theorem EG(d:Nat):(ao d).typ=am d:=by cases d<;>rfl
theorem SU{d:Nat}{n:Nd}(h:aA (aa d) n=true)(D:n.kind=24):∃f l p,n=.mk 24 ⟨#[]⟩ (f::l) p/\(aa d).typ f=true/\∀x∈l,Ip d x:=by
 unfold aA at h;rw[d5 (by omega),d5 (by omega),d5 (by omega),d5 (by omega),d5 (by omega),d5 (by omega),d5 (by omega),d5 (by omega),gF D,gB,gB,gB,gB,gE,gE]at h;obtain⟨I,J,-,M,N⟩:=h;have e:=n.eta;rw[D,I]at e;generalize n.kids=l at *;rcases l with _|⟨f,l⟩
 ·exact absurd J (by simp)
 ·exact⟨f,l,n.pos,e,M,fun x hx=>wU (List.all_eq_true.1 N x hx)⟩
theorem SV{d:Nat}{n:Nd}(h:aA (aa d) n=true)(I:n.kind=25):∃s b p,n=.mk 25 ⟨#[]⟩ [s,b] p/\fw (aa d) s=true/\(aa d).block b=true:=by unfold aA at h;rw[d5 (by omega),d5 (by omega),d5 (by omega),d5 (by omega),d5 (by omega),d5 (by omega),d5 (by omega),d5 (by omega),d5 (by omega)]at h;obtain⟨l,p,rfl,D⟩:=bV h;obtain⟨s,b,rfl,hs,hb⟩:=ll D;exact⟨s,b,p,rfl,hs,hb⟩
theorem SW(d:Nat)(n:Nd)(deep:Nat):tx (nZ (ao d) n deep)=tx (am d (bc n 0))++(⟨#[123]⟩:BA)++tx (dq (ao d) n deep)++(⟨#[125]⟩:BA):=by unfold nZ;rw[bE,aI,bE,EG,az,az];rfl
theorem Ny(d:Nat)(f:Nd)(l:List Nd)(p:Int)(deep:Nat)(head:Bool):tx (mA (ao d) (.mk 24 ⟨#[]⟩ (f::l) p) deep head)=if(head&&(f.kind==10))=true then(⟨#[40]⟩:BA)++tx (nZ (ao d) (.mk 24 ⟨#[]⟩ (f::l) p) deep)++(⟨#[41]⟩:BA)else tx (nZ (ao d) (.mk 24 ⟨#[]⟩ (f::l) p) deep):=by
 show tx (if head=true/\f.kind=10 then bS 40::(nZ (ao d) (.mk 24 ⟨#[]⟩ (f::l) p) deep++[bS 41])else nZ (ao d) (.mk 24 ⟨#[]⟩ (f::l) p) deep)=_;by_cases h:head=true/\f.kind=10
 ·rw[gF h,gF (by rw[gB,kF];exact h),aI,bE,az];rfl
 ·rw[d5 h,d5 (by rw[gB,kF];exact h)]
theorem Nz(d:Nat)(s b:Nd)(p:Int)(deep:Nat)(head:Bool):tx (mA (ao d) (.mk 25 ⟨#[]⟩ [s,b] p) deep head)=(⟨#[102,117,110,99]⟩:BA)++tx (fm (am d) s)++(⟨#[32]⟩:BA)++tx ((ao d).block b deep):=by show tx (lJ ⟨#[102,117,110,99]⟩::(fm (ao d).typ s++(bu::(ao d).block b deep)))=_;rw[aI,bE,aI bu,FO,y6,EG,az,az]
theorem PW(d:Nat)(HE:ie d):wT d (fun k=>k=24):=by
 intro v n w deep head hv hn hk hd hM;obtain⟨f,l,p,rfl,hf,hl⟩:=SU hn hk;have M:=hid (Ny d f l p deep head);have O:=hid (SW d (.mk 24 ⟨#[]⟩ (f::l) p) deep);have I:(tx (nZ (ao d) (.mk 24 ⟨#[]⟩ (f::l) p) deep)).size<=10000000000000000:=by
  rw[M.out]at hM;split at hM
  ·rw[gD,gD]at hM;omega
  ·exact hM
 rw[O.out,gD,gD,gD]at I;rw[show bc (.mk 24 ⟨#[]⟩ (f::l) p) 0=f from rfl]at O I;obtain⟨A,cp,rfl,hC⟩:=hv.toC;simp only[Nd.kind_mk,Nd.text_mk,Nd.kids_mk,Nd.pos_mk]at *;have hB:=(aj w #[.int .i64 24,.string ⟨#[]⟩,.slice A (f::l).length cp,.int .i64 p]).1;have hN:=(aj w #[.int .i64 24,.string ⟨#[]⟩,.slice A (f::l).length cp,.int .i64 p]).2;obtain⟨bp,op,A2,c2,rfl,N⟩:=eV (af.below hv hB) 0 (by simp);simp only[Nd.kids_mk,gT,jK,jD]at N;(have ga:(0:Int)<((f::l).length:Int):=by simp);have D:=af.below hv hB;clear hn hk hv hC;(go_enter func15,ntmps15);(go_upto_region 21 with fail);generalize w.alloc (.cells #[.int .i64 24,.string ⟨#[]⟩,.slice (some ⟨bp,op,none⟩) (f::l).length cp,.int .i64 p] 24)=W at *;have J:=hid (fun m:Wd (Below W W)=>sy d _ f m.wd (N.below m.ok).2.2.2.2 hf (by omega));have HO:=hid (fun m:Wd (Below W W)=>wS d HE _ (.mk 24 ⟨#[]⟩ (f::l) p) m.wd deep (af.below D m.ok) hl hd (by omega));obtain⟨k0,k1,k2,k3⟩:=Dw N;obtain⟨n0,n1,n2,n3⟩:=IG hN;generalize tx (dq (ao d) (.mk 24 ⟨#[]⟩ (f::l) p) deep)=Y at *;generalize tx (am d f)=X at *;generalize tx (nZ (ao d) (.mk 24 ⟨#[]⟩ (f::l) p) deep)=L at *;clear hN N D HE hf hl;generalize(f::l).length=q at *;refine cT W ?_;repeat(go_big_quiet_step (first
  |(go_at_call 37;rename_i m;exact yr J.out m)
  |(go_at_call 36;rename_i m;exact yr HO.out m)))
 refine jY ?_;intro m;have U:=aD hB m.ok;have k0:=k0 m;have n2:=n2 m;clear J HO k1 k2 k3 n0 n1 n3;cases head<;>cases h:(f.kind==10);all_goals
  rw[h]at M;first
   |rw[gF (show(true&&true)=true from rfl),O.out]at M
   |rw[d5 (by decide),O.out]at M
  go_wp2_with fail;go_ret;exact⟨by rw[M.out];simp only[az];rfl,U⟩
theorem PX(d:Nat)(I:pj d):wT d (fun k=>k=25):=by
 intro v n w deep head hv hn hk hd hM;obtain⟨s,b,p,rfl,hs,hb⟩:=SV hn hk;have h:=hid (Nz d s b p deep head);rw[h.out,gD,gD,gD]at hM;obtain⟨A,cp,rfl,hC⟩:=hv.toC;simp only[Nd.kind_mk,Nd.text_mk,Nd.kids_mk,Nd.pos_mk]at *;have hB:=(aj w #[.int .i64 25,.string ⟨#[]⟩,.slice A 2 cp,.int .i64 p]).1;have D:aF w (.agg #[.int .i64 25,.string ⟨#[]⟩,.slice A 2 cp,.int .i64 p]) (.mk 25 ⟨#[]⟩ [s,b] p):=hv;have U:=(aj w #[.int .i64 25,.string ⟨#[]⟩,.slice A 2 cp,.int .i64 p]).2;obtain⟨bp,op,A2,c2,A3,c3,rfl,M,J⟩:=Il (af.below D hB);clear hn hk hv hC D;(go_enter func15,ntmps15);(go_upto_region 26 with fail);generalize w.alloc (.cells #[.int .i64 25,.string ⟨#[]⟩,.slice (some ⟨bp,op,none⟩) 2 cp,.int .i64 p] 24)=W at *;have O:=hid (fun m:Wd (Below W W)=>Dl d (sy d) _ s m.wd (M.below m.ok).2.2.2.2 hs (by omega));have HO:=hid (fun m:Wd (Below W W)=>I _ b m.wd deep (J.below m.ok).2.2.2.2 hb hd (by omega));obtain⟨k0,k1,k2,k3⟩:=Dw M;obtain⟨b0,b1,b2,b3⟩:=Dw J;obtain⟨n0,n1,n2,n3⟩:=IG U;generalize tx (fm (am d) s)=X at *;generalize tx ((ao d).block b deep)=Y at *;clear U M J I hs hb;refine cT W ?_;repeat(go_big_quiet_step (first
  |(go_at_call 38;rename_i m;exact yr O.out m)
  |(go_at_call 39;rename_i m;exact yr HO.out m)))
 refine jY ?_;intro m;have N:=aD hB m.ok;go_wp2_with fail;go_ret;exact⟨by rw[h.out];rfl,N⟩
theorem Iq(d:Nat)(J:ie d)(HB:pj d):ie (d+1):=by
 intro v n w deep head hv D hd I;have D:aA (aa d) n=true:=D;have I:(tx (mA (ao d) n deep head)).size<=10000000000000000:=I;(have hd:deep+d<=1000:=by omega);by_cases h1:n.kind=16\/n.kind=18
 ·exact Nt d v n w deep head hv D h1 hd I
 by_cases h2:n.kind=17
 ·exact PS d v n w deep head hv D h2 hd I
 by_cases h3:n.kind=19
 ·exact ST d J v n w deep head hv D h3 hd I
 by_cases U:n.kind=20
 ·exact PT d J v n w deep head hv D U hd I
 by_cases O:n.kind=21\/n.kind=22\/n.kind=23
 ·exact Nx d J v n w deep head hv D O hd I
 by_cases N:n.kind=24
 ·exact PW d J v n w deep head hv D N hd I
 (have M:n.kind=25:=by have h:=D;unfold aA at h;rw[d5 (by omega),d5 (by omega),d5 (by omega),d5 (by omega),d5 (by omega),d5 (by omega),d5 (by omega),d5 (by omega),d5 (by omega)]at h;obtain⟨l,p,rfl,-⟩:=bV h;rfl);exact PX d HB v n w deep head hv D M hd I
end
end Go.Proofs.YtiebcdeafofgdaaGreatDoor
