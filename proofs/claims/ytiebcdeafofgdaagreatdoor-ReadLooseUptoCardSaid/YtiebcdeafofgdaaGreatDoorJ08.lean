/-
  Parts of the proof: Tstr Tname Tof Tall. By an AI agent.
-/
import Derived.Test.YtiebcdeafofgdaaGreatDoorJ07
import Derived.Test.YtiebcdeafofgdaaGreatDoorJ01
import Derived.Laws.RangeAny
import Derived.Lib.RuneCount
import Derived.Laws.Entries
open Go.Proofs.Tryz
set_option maxRecDepth 100000
set_option maxHeartbeats 8000000
namespace Go.Proofs.YtiebcdeafofgdaaGreatDoor
section
open Go.RowKit Go.Lib Go.Proofs
attribute [local go_sem ↓] Go.wp_at_zero Go.wp_at_succ
theorem gP:type_of% @Nat.zero_le:=@Nat.zero_le
theorem gX:type_of% @List.getElem_mem:=@List.getElem_mem
theorem jS:type_of% @List.drop_of_length_le:=@List.drop_of_length_le
theorem jX:type_of% @List.drop_eq_getElem_cons:=@List.drop_eq_getElem_cons
theorem kz:type_of% @List.all_cons:=@List.all_cons
theorem kU:type_of% @decide_eq_decide:=@decide_eq_decide
theorem qE:type_of% @Go.World.iter_heap:=@Go.World.iter_heap
theorem qF:type_of% @Go.Lib.run_next_end_at:=@Go.Lib.run_next_end_at
theorem qP:type_of% @Go.Lib.run_next_any_at:=@Go.Lib.run_next_any_at
theorem qT:type_of% @Go.Lib.iterAt_heap:=@Go.Lib.iterAt_heap
theorem vB:type_of% @UInt8.toNat_inj:=@UInt8.toNat_inj
def aJ(c:Int):Bool:=c==95||((decide (97<=c)&&decide (c<=122))||(decide (65<=c)&&decide (c<=90)))
def av(c:Int):Bool:=decide (48<=c)&&decide (c<=57)
theorem ew(c:Int)(w:World):Calls prog 97 #[.int .i32 c] w fun e w'=>e=.returned (.bool (aJ c))/\w=w':=by unfold aJ;cases N:(c==95)<;>cases M:decide (97<=c)<;>cases J:decide (c<=122)<;>cases I:decide (65<=c)<;>cases D:decide (c<=90);all_goals(go_enter func97,ntmps97);go_wp2_with fail;go_ret;exact⟨rfl,rfl⟩
theorem ip(c:Int)(w:World):Calls prog 100 #[.int .i32 c] w fun e w'=>e=.returned (.bool (av c))/\w=w':=by unfold av;cases I:decide (48<=c)<;>cases D:decide (c<=57);all_goals(go_enter func100,ntmps100);go_wp2_with fail;go_ret;exact⟨rfl,rfl⟩
theorem bm{s x:ByteArray}(h:¬ s=x):(s.toList==x.data.toList)=false:=by rw[<-qA,cu];simpa using h
theorem BK(s:ByteArray)(w:World):Calls prog 102 #[s] w fun e w'=>e=.returned (.int .i64 (bM s))/\w=w':=by
 by_cases O:s=(⟨#[98,114,101,97,107]⟩:BA)
 ·subst O;rw[show bM ⟨#[98,114,101,97,107]⟩=1 by decide +kernel];(go_enter func102,ntmps102);go_wp2_with fail;go_ret;exact⟨rfl,rfl⟩
 by_cases h:s=(⟨#[99,111,110,116,105,110,117,101]⟩:BA)
 ·subst h;rw[show bM ⟨#[99,111,110,116,105,110,117,101]⟩=1 by decide +kernel];clear O;(go_enter func102,ntmps102);go_wp2_with fail;go_ret;exact⟨rfl,rfl⟩
 by_cases h2:s=(⟨#[101,108,115,101]⟩:BA)
 ·subst h2;rw[show bM ⟨#[101,108,115,101]⟩=1 by decide +kernel];clear O h;(go_enter func102,ntmps102);go_wp2_with fail;go_ret;exact⟨rfl,rfl⟩
 by_cases h3:s=(⟨#[102,111,114]⟩:BA)
 ·subst h3;rw[show bM ⟨#[102,111,114]⟩=1 by decide +kernel];clear O h h2;(go_enter func102,ntmps102);go_wp2_with fail;go_ret;exact⟨rfl,rfl⟩
 by_cases h4:s=(⟨#[102,117,110,99]⟩:BA)
 ·subst h4;rw[show bM ⟨#[102,117,110,99]⟩=1 by decide +kernel];clear O h h2 h3;(go_enter func102,ntmps102);go_wp2_with fail;go_ret;exact⟨rfl,rfl⟩
 by_cases h5:s=(⟨#[105,102]⟩:BA)
 ·subst h5;rw[show bM ⟨#[105,102]⟩=1 by decide +kernel];clear O h h2 h3 h4;(go_enter func102,ntmps102);go_wp2_with fail;go_ret;exact⟨rfl,rfl⟩
 by_cases h6:s=(⟨#[105,109,112,111,114,116]⟩:BA)
 ·subst h6;rw[show bM ⟨#[105,109,112,111,114,116]⟩=1 by decide +kernel];clear O h h2 h3 h4 h5;(go_enter func102,ntmps102);go_wp2_with fail;go_ret;exact⟨rfl,rfl⟩
 by_cases h7:s=(⟨#[105,110,116,101,114,102,97,99,101]⟩:BA)
 ·subst h7;rw[show bM ⟨#[105,110,116,101,114,102,97,99,101]⟩=1 by decide +kernel];clear O h h2 h3 h4 h5 h6;(go_enter func102,ntmps102);go_wp2_with fail;go_ret;exact⟨rfl,rfl⟩
 by_cases h8:s=(⟨#[112,97,99,107,97,103,101]⟩:BA)
 ·subst h8;rw[show bM ⟨#[112,97,99,107,97,103,101]⟩=1 by decide +kernel];clear O h h2 h3 h4 h5 h6 h7;(go_enter func102,ntmps102);go_wp2_with fail;go_ret;exact⟨rfl,rfl⟩
 by_cases h9:s=(⟨#[114,97,110,103,101]⟩:BA)
 ·subst h9;rw[show bM ⟨#[114,97,110,103,101]⟩=1 by decide +kernel];clear O h h2 h3 h4 h5 h6 h7 h8;(go_enter func102,ntmps102);go_wp2_with fail;go_ret;exact⟨rfl,rfl⟩
 by_cases D:s=(⟨#[114,101,116,117,114,110]⟩:BA)
 ·subst D;rw[show bM ⟨#[114,101,116,117,114,110]⟩=1 by decide +kernel];clear O h h2 h3 h4 h5 h6 h7 h8 h9;(go_enter func102,ntmps102);go_wp2_with fail;go_ret;exact⟨rfl,rfl⟩
 by_cases I:s=(⟨#[115,116,114,117,99,116]⟩:BA)
 ·subst I;rw[show bM ⟨#[115,116,114,117,99,116]⟩=1 by decide +kernel];clear O h h2 h3 h4 h5 h6 h7 h8 h9 D;(go_enter func102,ntmps102);go_wp2_with fail;go_ret;exact⟨rfl,rfl⟩
 by_cases J:s=(⟨#[116,121,112,101]⟩:BA)
 ·subst J;rw[show bM ⟨#[116,121,112,101]⟩=1 by decide +kernel];clear O h h2 h3 h4 h5 h6 h7 h8 h9 D I;(go_enter func102,ntmps102);go_wp2_with fail;go_ret;exact⟨rfl,rfl⟩
 by_cases M:s=(⟨#[118,97,114]⟩:BA)
 ·subst M;rw[show bM ⟨#[118,97,114]⟩=1 by decide +kernel];clear O h h2 h3 h4 h5 h6 h7 h8 h9 D I J;(go_enter func102,ntmps102);go_wp2_with fail;go_ret;exact⟨rfl,rfl⟩
 by_cases N:s=(⟨#[99,97,115,101]⟩:BA)
 ·subst N;rw[show bM ⟨#[99,97,115,101]⟩=2 by decide +kernel];clear O h h2 h3 h4 h5 h6 h7 h8 h9 D I J M;(go_enter func102,ntmps102);go_wp2_with fail;go_ret;exact⟨rfl,rfl⟩
 by_cases U:s=(⟨#[99,104,97,110]⟩:BA)
 ·subst U;rw[show bM ⟨#[99,104,97,110]⟩=2 by decide +kernel];clear O h h2 h3 h4 h5 h6 h7 h8 h9 D I J M N;(go_enter func102,ntmps102);go_wp2_with fail;go_ret;exact⟨rfl,rfl⟩
 by_cases ga:s=(⟨#[99,111,110,115,116]⟩:BA)
 ·subst ga;rw[show bM ⟨#[99,111,110,115,116]⟩=2 by decide +kernel];clear O h h2 h3 h4 h5 h6 h7 h8 h9 D I J M N U;(go_enter func102,ntmps102);go_wp2_with fail;go_ret;exact⟨rfl,rfl⟩
 by_cases gb:s=(⟨#[100,101,102,97,117,108,116]⟩:BA)
 ·subst gb;rw[show bM ⟨#[100,101,102,97,117,108,116]⟩=2 by decide +kernel];clear O h h2 h3 h4 h5 h6 h7 h8 h9 D I J M N U ga;(go_enter func102,ntmps102);go_wp2_with fail;go_ret;exact⟨rfl,rfl⟩
 by_cases gd:s=(⟨#[100,101,102,101,114]⟩:BA)
 ·subst gd;rw[show bM ⟨#[100,101,102,101,114]⟩=2 by decide +kernel];clear O h h2 h3 h4 h5 h6 h7 h8 h9 D I J M N U ga gb;(go_enter func102,ntmps102);go_wp2_with fail;go_ret;exact⟨rfl,rfl⟩
 by_cases ge:s=(⟨#[102,97,108,108,116,104,114,111,117,103,104]⟩:BA)
 ·subst ge;rw[show bM ⟨#[102,97,108,108,116,104,114,111,117,103,104]⟩=2 by decide +kernel];clear O h h2 h3 h4 h5 h6 h7 h8 h9 D I J M N U ga gb gd;(go_enter func102,ntmps102);go_wp2_with fail;go_ret;exact⟨rfl,rfl⟩
 by_cases gg:s=(⟨#[103,111]⟩:BA)
 ·subst gg;rw[show bM ⟨#[103,111]⟩=2 by decide +kernel];clear O h h2 h3 h4 h5 h6 h7 h8 h9 D I J M N U ga gb gd ge;(go_enter func102,ntmps102);go_wp2_with fail;go_ret;exact⟨rfl,rfl⟩
 by_cases gh:s=(⟨#[103,111,116,111]⟩:BA)
 ·subst gh;rw[show bM ⟨#[103,111,116,111]⟩=2 by decide +kernel];clear O h h2 h3 h4 h5 h6 h7 h8 h9 D I J M N U ga gb gd ge gg;(go_enter func102,ntmps102);go_wp2_with fail;go_ret;exact⟨rfl,rfl⟩
 by_cases gi:s=(⟨#[109,97,112]⟩:BA)
 ·subst gi;rw[show bM ⟨#[109,97,112]⟩=2 by decide +kernel];clear O h h2 h3 h4 h5 h6 h7 h8 h9 D I J M N U ga gb gd ge gg gh;(go_enter func102,ntmps102);go_wp2_with fail;go_ret;exact⟨rfl,rfl⟩
 by_cases gj:s=(⟨#[115,101,108,101,99,116]⟩:BA)
 ·subst gj;rw[show bM ⟨#[115,101,108,101,99,116]⟩=2 by decide +kernel];clear O h h2 h3 h4 h5 h6 h7 h8 h9 D I J M N U ga gb gd ge gg gh gi;(go_enter func102,ntmps102);go_wp2_with fail;go_ret;exact⟨rfl,rfl⟩
 by_cases gk:s=(⟨#[115,119,105,116,99,104]⟩:BA)
 ·subst gk;rw[show bM ⟨#[115,119,105,116,99,104]⟩=2 by decide +kernel];clear O h h2 h3 h4 h5 h6 h7 h8 h9 D I J M N U ga gb gd ge gg gh gi gj;(go_enter func102,ntmps102);go_wp2_with fail;go_ret;exact⟨rfl,rfl⟩
 (have hz:bM s=0:=by simp only[bM,rb,rc,List.any_cons,List.any_nil,O,h,h2,h3,h4,h5,h6,h7,h8,h9,D,I,J,M,N,U,ga,gb,gd,ge,gg,gh,gi,gj,gk,decide_false,Bool.or_false,jC,kI]);have q0:(s.toList==[98,114,101,97,107])=false:=bm O;have q1:(s.toList==[99,111,110,116,105,110,117,101])=false:=bm h;have q2:(s.toList==[101,108,115,101])=false:=bm h2;have q3:(s.toList==[102,111,114])=false:=bm h3;have q4:(s.toList==[102,117,110,99])=false:=bm h4;have q5:(s.toList==[105,102])=false:=bm h5;have q6:(s.toList==[105,109,112,111,114,116])=false:=bm h6;have q7:(s.toList==[105,110,116,101,114,102,97,99,101])=false:=bm h7;have q8:(s.toList==[112,97,99,107,97,103,101])=false:=bm h8;have q9:(s.toList==[114,97,110,103,101])=false:=bm h9;have g0:(s.toList==[114,101,116,117,114,110])=false:=bm D;have gz:(s.toList==[115,116,114,117,99,116])=false:=bm I;have gy:(s.toList==[116,121,112,101])=false:=bm J;have gx:(s.toList==[118,97,114])=false:=bm M;have gw:(s.toList==[99,97,115,101])=false:=bm N;have gv:(s.toList==[99,104,97,110])=false:=bm U;have gu:(s.toList==[99,111,110,115,116])=false:=bm ga;have gt:(s.toList==[100,101,102,97,117,108,116])=false:=bm gb;have gs:(s.toList==[100,101,102,101,114])=false:=bm gd;have gr:(s.toList==[102,97,108,108,116,104,114,111,117,103,104])=false:=bm ge;have gq:(s.toList==[103,111])=false:=bm gg;have gp:(s.toList==[103,111,116,111])=false:=bm gh;have gn:(s.toList==[109,97,112])=false:=bm gi;have gm:(s.toList==[115,101,108,101,99,116])=false:=bm gj;have gl:(s.toList==[115,119,105,116,99,104])=false:=bm gk;rw[hz];clear hz O h h2 h3 h4 h5 h6 h7 h8 h9 D I J M N U ga gb gd ge gg gh gi gj gk;(go_enter func102,ntmps102);go_wp2_with fail;go_ret;exact⟨rfl,rfl⟩
theorem cF{w wr:World}{b:Nat}{s:ByteArray}{k:Nat}{B:Nat}(h:Below B w wr)(hb:B<=b):Below B w (wr.iterAt b s k):=
 ⟨h.os,h.tape,h.output,by rw[iterAt_size];exact h.size,fun j hj=>(iterAt_other wr _ _ s _ (by omega)).trans (h.block j hj)⟩
theorem rf(s:ByteArray)(i:Nat)(h:i<s.size):1<=(Utf8.decode s i).2/\i+(Utf8.decode s i).2<=s.size:=by simp only[Utf8.decode];(repeat' split);(all_goals simp_all);all_goals omega
def Oy(s:ByteArray)(j:Nat):Bool:=aJ ((s.data.toList.getD j 0).toNat:Int)||(decide (0<j)&&av ((s.data.toList.getD j 0).toNat:Int))
theorem lX(c:UInt8):lr c=aJ (c.toNat:Int):=by unfold lr aJ;rw[kQ];simp[UInt8.le_iff_toNat_le,<-UInt8.toNat_inj];omega
theorem eY(c:UInt8):eF c=av (c.toNat:Int):=by unfold eF av;rw[kQ];simp[UInt8.le_iff_toNat_le];omega
theorem pQ(l:List UInt8):cI l=true↔∀j,j<l.length->(aJ ((l.getD j 0).toNat:Int)||(decide (0<j)&&av ((l.getD j 0).toNat:Int)))=true:=by
 cases l with
 |nil=>simp[cI]
 | cons c r=>
  unfold cI;rw[gB,qI];constructor
  ·rintro⟨M,J⟩j D;cases j with
   |zero=>simp[<-lX,M]
   |succ j=>(have I:j<r.length:=by simpa using D);have:=J r[j] (gX _);rw[lX,eY]at this;simpa[I]using this
  ·intro h;refine⟨by have:=h 0 (by simp);simpa[<-lX]using this,fun x hx=>?_⟩;obtain⟨j,D,rfl⟩:=List.mem_iff_getElem.1 hx;have:=h (j+1) (by simpa using D);rw[lX,eY];simpa[D]using this
theorem lM{c:Int}(h:128<=c):aJ c=false:=by unfold aJ;(have J:(c==95)=false:=by simp;omega);(have I:decide (c<=122)=false:=by simp;omega);(have D:decide (c<=90)=false:=by simp;omega);rw[J,I,D];simp
theorem fd{c:Int}(h:128<=c):av c=false:=by unfold av;(have D:decide (c<=57)=false:=by simp;omega);rw[D];simp
theorem nQ(s:ByteArray)(i:Nat)(h:i<s.size):(Utf8.decode s i=((s.data.toList.getD i 0).toNat,1)/\(s.data.toList.getD i 0).toNat<128)\/(128<=(Utf8.decode s i).1/\128<=(s.data.toList.getD i 0).toNat):=by
 (have e:s.data.toList.getD i 0=s[i]:=by rw[gR,gN (by simpa using h)];rfl);rw[e];rcases kN s[i].toNat 128 with D|D
 ·exact .inl ⟨decode_ascii s i h D,D⟩
 ·exact .inr ⟨(decode_high s i h D).1,D⟩
def oM(i:Nat)(c:Int):Bool:=aJ c||(decide (0<i)&&av c)
theorem BL(s:ByteArray)(w:World):Calls prog 151 #[s] w fun e w'=>e=.returned (.bool (dP s))/\Below w w w':=by
 (have hT:dP s=(cI s.data.toList&&(!s.toList.isEmpty&&(bM s==0))):=by unfold dP;rw[aq,fH];congr 2;rw[kQ];simp);have hN:=pQ s.data.toList;rw[hT];generalize cI s.data.toList=nc at *;have HN:=hid hN;clear hT hN;have i1:=qE w s 0;have i2:Below w w (w.iter s 0):=(gG _ w).alloc (gA _) _;(go_enter func151,ntmps151);go_wp2_with fail;go_loopg [3,4,7,8] s.size (fun g _ _ _ _ wr=>∃i:Nat,i<=s.size/\s.size-i<=g/\wr.heap[w.heap.size]? = some (.stringIter s i)/\Below w w wr/\(∀j,j<i->Oy s j=true))
 case atStart=>exact⟨0,gP _,by omega,i1,i2,fun j hj=>by omega⟩
 case round=>
  clear i1 i2;obtain⟨i,hi,hg,hit,hB,ga⟩:=hrel;have gg:=hid hit;have HA:=hid ga;clear hit ga;by_cases M:i<s.size
  ·have hw:=rf s i M;have gd:=nQ s i M;have I:=fun ty=>qP (P:=prog) wr w.heap.size s i ty gg.out M;have gi:Oy s i=oM i ((s.data.toList.getD i 0).toNat:Int):=rfl;generalize hb:(s.data.toList.getD i 0).toNat=b at *;generalize hd:Utf8.decode s i=q at *;obtain⟨r,k⟩:=q;simp only at hw I gd;have h:oM i (r:Int)=oM i (b:Int)/\(oM i (r:Int)=true->k=1):=by
    rcases gd with⟨e,_⟩|⟨h1,h2⟩
    ·injection e with e1 e2;subst e1 e2;exact⟨rfl,fun _=>rfl⟩
    ·unfold oM;rw[lM (by omega),lM (by omega),fd (by omega),fd (by omega)];exact⟨rfl,by simp⟩
   have ge:=hid gi;have J:=hid h;have j1:=qT wr w.heap.size s i (i+k) gg.out;have j2:Below w w (wr.iterAt w.heap.size s (i+k)):=cF hB (gA _);generalize wr.iterAt w.heap.size s (i+k)=W1 at I j1 j2;have J1:=hid j1;clear gi h gd j1 hd hb;have U:oM i (r:Int)=false->nc=false:=by
    intro hf;cases hn:nc with
    |false=>rfl
    |true=>have:=(HN.out.1 hn) i (by simpa using M);rw[show(aJ ((s.data.toList.getD i 0).toNat:Int)||(decide (0<i)&&av ((s.data.toList.getD i 0).toNat:Int)))=Oy s i from rfl,ge.out,<-J.out.1,hf]at this;cases this
   have O:=hid U;have gj:oM i (r:Int)=true->k=1/\∀j,j<i+k->Oy s j=true:=by
    intro hf;have hk:=J.out.2 hf;refine⟨hk,fun j hj=>?_⟩;by_cases e:j=i
    ·subst e;rw[ge.out,<-J.out.1,hf]
    ·exact HA.out j (by omega)
   have gh:=hid gj;clear U gj J ge HA;unfold oM at O gh;cases hL:aJ (r:Int)with
   |true=>
    obtain⟨_,D⟩:=gh.out (by rw[hL];rfl);have N:=hid D;clear D;go_wp2_with fail;refine(ew _ _).mono ?_;rw[hL];rintro e w1⟨rfl,rfl⟩;go_wp2_with fail;go_roundg (s.size-(i+k))
    case measure=>omega
    case rel=>exact⟨i+k,hw.2,gA _,J1.out,j2,N.out⟩
   | false=>
    by_cases hz:i=0
    ·have HX:=hid (O.out (by rw[hL,hz];rfl));(have gl:((i:Int)==0)=true:=by simp[hz]);clear hz;go_wp2_with fail;refine(ew _ _).mono ?_;rw[hL];rintro e w1⟨rfl,rfl⟩;go_wp2_with fail;go_ret;exact⟨by rw[HX.out];rfl,j2⟩
    ·(have gl:((i:Int)==0)=false:=by simp;omega);(have gb:decide (0<i)=true:=by simp;omega);cases hF:av (r:Int)with
     |true=>
      obtain⟨_,D⟩:=gh.out (by rw[hL,hF,gb];rfl);have N:=hid D;clear D gb hz;go_wp2_with fail;refine(ew _ _).mono ?_;rw[hL];rintro e w1⟨rfl,rfl⟩;go_wp2_with fail;refine(ip _ _).mono ?_;rw[hF];rintro e w1⟨rfl,rfl⟩;go_wp2_with fail;go_roundg (s.size-(i+k))
      case measure=>omega
      case rel=>exact⟨i+k,hw.2,gA _,J1.out,j2,N.out⟩
     |false=>have HX:=hid (O.out (by rw[hL,hF];simp));clear gb hz;go_wp2_with fail;refine(ew _ _).mono ?_;rw[hL];rintro e w1⟨rfl,rfl⟩;go_wp2_with fail;refine(ip _ _).mono ?_;rw[hF];rintro e w1⟨rfl,rfl⟩;go_wp2_with fail;go_ret;exact⟨by rw[HX.out];rfl,j2⟩
  ·(have yk:i=s.size:=by omega);have I:=fun ty=>qF (P:=prog) wr w.heap.size s i ty gg.out M;have HX:Hid (nc=true):=hid (HN.out.2 fun j hj=>HA.out j (by simp at hj;omega));clear yk;cases hE:s.toList.isEmpty with
   |true=>go_wp2_with fail;go_ret;exact⟨by rw[HX.out,hE];rfl,hB⟩
   |false=>go_wp2_with fail;refine(BK _ _).mono ?_;rintro e w1⟨rfl,rfl⟩;go_wp2_with fail;go_ret;exact⟨by rw[HX.out,hE];rfl,hB⟩
theorem sI(w:World)(v:Value)(n:Nd)(D:aF w v n):Calls prog 174 #[v] w fun e w'=>e=.returned (.bool (ah n))/\Below w w w':=by obtain⟨A,cp,rfl,I⟩:=D.toC;(have hE:ah n=(n.kind==0&&(n.text.toList.isEmpty&&((n.kids.length:Int)==0))):=by unfold ah;rw[aq,fH,fH];congr 2;rw[kU];omega);rw[hE];generalize hl:(n.kids.length:Int)=m at *;generalize n.kind=k at *;generalize n.text=t at *;clear hE D I;cases N:(k==0)<;>cases M:t.toList.isEmpty<;>cases J:(m==0);all_goals(go_enter func174,ntmps174);go_wp2_with fail;go_ret;refine⟨rfl,?_⟩;exact bel
theorem af.retext{X:Nat->Prop}{w:World}{k:Value}{t p:Value}{A:Option Addr}{c:Nat}{n:Nd}(h:af X w (.agg #[k,t,.slice A n.kids.length c,p]) n)(x:ByteArray):
  af X w (.agg #[n.kind,x,.slice A n.kids.length c,n.pos]) (.mk n.kind x n.kids n.pos):=by obtain⟨M,c1,xs,e,J,I,D⟩:=h;injection e with e;injection e with e;simp only[qD,vD]at e;obtain⟨_,_,e,_⟩:=e;injection e with e1 _ e3;subst e1 e3;exact⟨A,c,xs,rfl,J,I,D⟩
def Ti(w:World)(n:Nd)(e:Ending)(w':World):Prop:=∃v,e=.returned v/\aF w' v n/\Below w w w'
theorem cJ(w:World)(v:Value)(n:Nd)(M:aF w v n)(f:Fv)(P:ByteArray->Bool)(hs:BJ P f w)(ht:n.text.size<=1000000000):
  Calls prog 155 #[v,.func (.func f.k) #[] f.cap] w (Ti w (au P n)):=by
 have I:=M;obtain⟨A,cp,rfl,hC⟩:=M.toC;have he:=hs.enter;have HS:=hid hs;have hB:=((gG w.heap.size w).alloc (gA _) (.cells #[n.kind,n.text,.slice A n.kids.length cp,n.pos] 24)).alloc (by simp) (.cells bP 24);have h:an ((w.alloc (.cells #[n.kind,n.text,.slice A n.kids.length cp,n.pos] 24)).alloc (.cells bP 24)) w.heap.size 24 #[n.kind,n.text,.slice A n.kids.length cp,n.pos]:=(an.new w _ _).alloc _;have U:an ((w.alloc (.cells #[n.kind,n.text,.slice A n.kids.length cp,n.pos] 24)).alloc (.cells bP 24)) (w.heap.size+1) 24 bP:=an.new_at (by simp) _ _;have N:=hid I;clear I M hC hs;(go_enter func155,ntmps155);go_wp2_with fail;refine(HS.out.out _ _ hB ht).mono ?_;rintro e w1⟨rfl,D⟩;have c1:=h.below D (by simp;omega);have c2:=U.below D (by simp);have gb:=aD hB D;clear h U hB D he HS;obtain⟨x0,x1,x2,x3,y0,y1,y2,y3⟩:=ab c1;obtain⟨z0,z1,z2,z3,u0,u1,u2,u3⟩:=ab c2;(have ga:w.heap.size+1≠w.heap.size:=by omega);cases J:P n.text with
 |true=>have O:Hid (au P n=.mk n.kind ⟨#[]⟩ n.kids n.pos):=hid (by unfold au;rw[J];rfl);clear J;go_wp2_with fail;have hb:an (dO (w1.setCell ⟨w,1,none⟩ (.string ⟨#[]⟩)) (w.heap.size+1) (.int .i64 n.kind) (.string ⟨#[]⟩) (.slice A n.kids.length cp) (.int .i64 n.pos)) (w.heap.size+1) 24 #[.int .i64 n.kind,.string ⟨#[]⟩,.slice A n.kids.length cp,.int .i64 n.pos]:=dJ (c2.far (p:=⟨w,1,none⟩) (by show w.heap.size+1≠w.heap.size;omega) _) _ _ _ _;refine jV (eX rfl _ (by rfl) hb) rfl ?_;rw[O.out];exact⟨_,rfl,(af.retext N.out ⟨#[]⟩).below lU,lU⟩
 |false=>have O:Hid (au P n=.mk 37 ⟨#[]⟩ [] 0):=hid (by unfold au;rw[J];rfl);clear J;go_wp2_with fail;have hb:an (dO w1 (w.heap.size+1) (.int .i64 37) (.string ⟨#[]⟩) (.slice none 0 0) (.int .i64 0)) (w.heap.size+1) 24 #[.int .i64 37,.string ⟨#[]⟩,.slice none 0 0,.int .i64 0]:=dJ c2 _ _ _ _;refine jV (eX rfl _ (by rfl) hb) rfl ?_;rw[O.out];exact⟨_,rfl,af.leaf _ _ _,lU⟩
theorem a7{w:World}{g:Nat}{t:TypeId}{a:Value}(h:an w g t #[a]):w.cell? ⟨g,0,none⟩=some a:=by have c0:=h.cell 0;simp at c0;exact c0
theorem Oz(d:Nat)(P Q:Nd->Bool)(f g:Fv)(w0:World)(hf:nP d P f w0)(hg:nP d Q g w0)(a b:Nat)
  (ha:an w0 a 37 #[.func (.func f.k) #[] f.cap])(hb:an w0 b 37 #[.func (.func g.k) #[] g.cap]):
  nP d (cB P Q) ⟨206,#[a,b]⟩ w0:=by
 refine⟨fun a w=>by kernel_rfl,fun w v n hw hv hd=>?_⟩;have gg:=hf.enter;have ge:=hg.enter;have J:=hv;obtain⟨A,cp,rfl,hC⟩:=hv.toC;have hB:=(aj w #[n.kind,n.text,.slice A n.kids.length cp,n.pos]).1;have I:=hw.alloc hw.size (.cells #[n.kind,n.text,.slice A n.kids.length cp,n.pos] 24);have b1:=(aj w #[n.kind,n.text,.slice A n.kids.length cp,n.pos]).2;have ca:=a7 (ha.bl I);have HF:=hid (hf.out _ _ n I (J.below hB) hd);have h:=hb.lt;have HV:=hid (J.below hB);have HG:=hid hg;have gb:=hid hb;have gd:=hw.size;show Calls _ _ _ w fun e w'=>e=.returned (.bool (P n||Q n))/\_;clear hf hg J hv hC ha hb;(go_enter func206,ntmps206);go_wp2_with fail;refine HF.out.mono ?_;rintro e w1⟨rfl,D⟩;have N:=aD I D;have cb:=a7 (gb.out.below N h);obtain⟨x0,x1,x2,x3,_,_,_,_⟩:=ab (b1.below D (by simp));have U:=hid (HG.out.out _ _ n N (HV.out.below D) hd);have M:=aD hB D;clear D hB b1 I ca HF;cases hP:P n with
 |true=>go_wp2_with fail;go_ret;exact⟨by rw[hP];rfl,M⟩
 |false=>go_wp2_with fail;refine U.out.mono ?_;rintro e w2⟨rfl,O⟩;have ga:=aD M O;clear O U M;go_wp2_with fail;go_ret;exact⟨by rw[hP];rfl,ga⟩
theorem fS(d:Nat)(P Q:Nd->Bool)(f g:Fv)(w:World)(I:nP d P f w)(D:nP d Q g w):
  Calls prog 158 #[.func (.func f.k) #[] f.cap,.func (.func g.k) #[] g.cap] w fun e w'=>∃h:Fv,e=.returned (.func (.func h.k) #[] h.cap)/\nP d (cB P Q) h w'/\Below w w w':=by have O:=hid I;have N:=hid D;have hB:=((gG w.heap.size w).alloc (gA _) (.cells #[.func (.func f.k) #[] f.cap] 37)).alloc (by simp) (.cells #[.func (.func g.k) #[] g.cap] 37);have M:an ((w.alloc (.cells #[.func (.func f.k) #[] f.cap] 37)).alloc (.cells #[.func (.func g.k) #[] g.cap] 37)) w.heap.size 37 #[.func (.func f.k) #[] f.cap]:=(an.new w _ _).alloc _;have J:an ((w.alloc (.cells #[.func (.func f.k) #[] f.cap] 37)).alloc (.cells #[.func (.func g.k) #[] g.cap] 37)) (w.heap.size+1) 37 #[.func (.func g.k) #[] g.cap]:=an.new_at (by simp) _ _;clear I D;(go_enter func158,ntmps158);go_wp2_with fail;go_ret;exact⟨⟨206,#[w,.pointer (some ⟨w.heap.size+1,0,none⟩)]⟩,rfl,Oz d P Q f g _ (O.out.below hB) (N.out.below hB) _ _ M J,hB⟩
theorem i9.at_{w:World}{A:Option Addr}{n c:Nat}{l:List Nd}(h:i9 w (.slice A n c) l)(i:Nat)(J:i<l.length):
  n = l.length/\∃b off D cp,A=some ⟨b,off,none⟩/\b<w.heap.size/\w.cell? ⟨b,off+i*4,none⟩=some (.int .i64 l[i].kind)/\w.cell? ⟨b,off+i*4+1,none⟩=some (.string l[i].text) /\
    w.cell? ⟨b,off+i*4+2,none⟩=some (.slice D l[i].kids.length cp)/\w.cell? ⟨b,off+i*4+3,none⟩=some (.int .i64 l[i].pos) /\
    aF w (.agg #[.int .i64 l[i].kind,.string l[i].text,.slice D l[i].kids.length cp,.int .i64 l[i].pos]) l[i]:=by(have I:n=l.length:=by obtain⟨_,_,_,e,_⟩:=h;injection e);obtain⟨b,off,D,cp,e,_,h1,h2,U,O,N,M⟩:=h.kid i J;exact⟨I,b,off,D,cp,e,h1,h2,U,O,N,M⟩
def yc(P:Nd->Bool):List Nd->Nat->Int
 |[],_ =>-1
 |n::l,i=>if P n then(i:Int)else yc P l (i+1)
theorem BM(P:Nd->Bool):∀(l:List Nd)(i:Nat),decide (0<=yc P l i)=l.any P
 |[],i=>rfl
 |n::l,i=>by
  rw[yc,List.any_cons];cases D:P n with
  |true=>simp
  |false=>simpa using BM P l (i+1)
theorem F5(P:Nd->Bool)(l:List Nd)(i:Nat)(D:i<l.length):yc P (l.drop i) i=if P l[i]then(i:Int)else yc P (l.drop (i+1)) (i+1):=by rw[jX D,yc]
theorem yd(d:Nat)(P:Nd->Bool)(f:Fv)(A:Option Addr)(c:Nat)(l:List Nd)(w:World)(hv:i9 w (.slice A l.length c) l)(hd:∀n∈l,dK d n)(hl:l.length<=1000000000)(hf:nP d P f w):
  Calls prog 202 #[.slice A l.length c,.func (.func f.k) #[] f.cap] w fun e w'=>e=.returned (.int .i64 (yc P l 0))/\Below w w w':=by
 have he:=hf.enter;have HF:=hid hf;have HV:=hid hv;have HD:=hid hd;generalize U:yc P l 0=I;have HI:=hid U;clear hf hv hd U;(go_enter func202,ntmps202);go_wp2_with fail;go_loopg [5,8] l.length (fun g _ u8 wr=>∃i:Nat,i<=l.length/\l.length-i<=g/\u8=.int .i64 (i:Int)/\yc P (l.drop i) i=I/\Below w w wr)
 case atStart=>exact⟨0,gP _,by omega,rfl,by simpa using HI.out,gG _ _⟩
 case round=>
  obtain⟨i,hi,hg,rfl,U,hB⟩:=hrel;have HI:=hid U;clear U;by_cases M:i<l.length
  ·(have O:(i:Int)<(l.length:Int):=by omega);(have h0:(0:Int)<=(i:Int):=by omega);obtain⟨_,b,off,A1,cp,rfl,hb,k0,k1,k2,k3,hn⟩:=i9.at_ (HV.out.below hB) i M;have HC:=hid (HF.out.out _ _ l[i] hB hn (HD.out _ (gX M)));have HE:=hid (F5 P l i M);generalize l[i]=x at *;clear hn;cases hP:P x with
   |true=>have h:=hid (show I=(i:Int)by rw[<-HI.out,HE.out,hP];rfl);go_wp2_with fail;refine HC.out.mono ?_;rw[hP];rintro e w1⟨rfl,D⟩;have N:=aD hB D;clear D HC;go_wp2_with fail;go_ret;exact⟨by rw[h.out];rfl,N⟩
   |false=>
    have h:Hid (yc P (l.drop (i+1)) (i+1)=I):=hid (by rw[<-HI.out,HE.out,hP];rfl);go_wp2_with fail;refine HC.out.mono ?_;rw[hP];rintro e w1⟨rfl,D⟩;have N:=aD hB D;clear D HC;go_wp2_with fail;go_roundg (l.length-(i+1))
    case measure=>omega
    case rel=>exact⟨i+1,by omega,gA _,by go_num,h.out,N⟩
  ·(have O:¬ (i:Int)<(l.length:Int):=by omega);have J:l.drop i=[]:=jS (by omega);have h:Hid (I = -1):=hid (by rw[<-HI.out,J];rfl);clear J;go_wp2_with fail;go_ret;exact⟨by rw[h.out];rfl,hB⟩
theorem sJ(d:Nat)(P:Nd->Bool)(f:Fv)(A:Option Addr)(c:Nat)(l:List Nd)(w:World)(I:i9 w (.slice A l.length c) l)(hd:∀n∈l,dK d n)(M:l.length<=1000000000)(J:nP d P f w):
  Calls prog 152 #[.slice A l.length c,.func (.func f.k) #[] f.cap] w fun e w'=>e=.returned (.bool (l.any P))/\Below w w w':=by have N:=hid (yd d P f A c l w I hd M J);rw[<-BM P l 0];clear I hd J;(go_enter func152,ntmps152);go_wp2_with fail;refine N.out.mono ?_;rintro e w1⟨rfl,D⟩;go_wp2_with fail;go_ret;exact⟨rfl,D⟩
theorem IT(d:Nat)(P:Nd->Bool)(f:Fv)(w0:World)(M:nP d P f w0)(a:Nat)(N:an w0 a 37 #[.func (.func f.k) #[] f.cap]):
  nP d (fun n =>!P n) ⟨153,#[a]⟩ w0:=by refine⟨fun a w=>by kernel_rfl,fun w v n hw hv hd=>?_⟩;have gb:=M.enter;have J:=hv;obtain⟨A,cp,rfl,hC⟩:=hv.toC;have hB:=(aj w #[n.kind,n.text,.slice A n.kids.length cp,n.pos]).1;have D:=hw.alloc hw.size (.cells #[n.kind,n.text,.slice A n.kids.length cp,n.pos] 24);have ca:=a7 (N.bl D);have U:=hid (M.out _ _ n D (J.below hB) hd);have ga:=N.lt;have h:=hw.size;show Calls _ _ _ w fun e w'=>e=.returned (.bool (!P n))/\_;clear M J hv hC N;(go_enter func153,ntmps153);go_wp2_with fail;refine U.out.mono ?_;rintro e w1⟨rfl,I⟩;have O:=aD hB I;clear I hB D ca U;go_wp2_with fail;go_ret;exact⟨rfl,O⟩
theorem OA(P:Nd->Bool)(l:List Nd):(!(l.any fun n =>!P n))=l.all P:=by
 induction l with
 |nil=>rfl
 |cons n l ih=>rw[List.any_cons,kz,<-ih];cases P n<;>simp
theorem iL(d:Nat)(P:Nd->Bool)(f:Fv)(A:Option Addr)(c:Nat)(l:List Nd)(w:World)(J:i9 w (.slice A l.length c) l)(hd:∀n∈l,dK d n)(O:l.length<=1000000000)(M:nP d P f w):
  Calls prog 119 #[.slice A l.length c,.func (.func f.k) #[] f.cap] w fun e w'=>e=.returned (.bool (l.all P))/\Below w w w':=by have hB:=(gG w.heap.size w).alloc (gA _) (.cells #[.func (.func f.k) #[] f.cap] 37);have N:=an.new w 37 #[.func (.func f.k) #[] f.cap];have U:=hid (sJ d (fun n =>!P n) ⟨153,#[w]⟩ A c l _ (J.below hB) hd O (IT d P f _ (M.below hB) _ N));(have h:∀a w,(callFunc 153 a).run prog w=.ok (.enter 153 a) w:=fun a w=>by kernel_rfl);rw[<-OA P l];clear J hd M N;(go_enter func119,ntmps119);go_wp2_with fail;refine U.out.mono ?_;rintro e w1⟨rfl,D⟩;have I:=aD hB D;clear D hB;go_wp2_with fail;go_ret;exact⟨rfl,I⟩
theorem BN(d:Nat)(P:Nd->Bool)(f:Fv)(v:Value)(n:Nd)(w:World)(J:aF w v n)(hd:dK (d+1) n)(M:nP d P f w):
  Calls prog 204 #[v,.func (.func f.k) #[] f.cap] w fun e w'=>e=.returned (.bool (lP P n))/\Below w w w':=by
 have I:=J;obtain⟨A,cp,rfl,N⟩:=J.toC;have hB:=(aj w #[n.kind,n.text,.slice A n.kids.length cp,n.pos]).1;have U:=hid (iL d P f A cp n.kids _ (I.below hB).kidsV hd.2 hd.1.1 (M.below hB));(have hE:lP P n=(n.kind==6&&(n.text.toList.isEmpty&&n.kids.all P)):=by unfold lP;rw[aq,fH]);rw[hE];clear hE I J N hd M;generalize n.kids.all P=q at *;generalize n.kind=k at *;generalize n.text=t at *;cases h1:(k==6)<;>cases h:t.toList.isEmpty;all_goals
  (go_enter func204,ntmps204);go_wp2_with fail;try
   refine U.out.mono ?_
   rintro e w1⟨rfl,D⟩
   have O:=aD hB D
   clear D
   go_wp2_with fail
  go_ret;exact⟨rfl,by assumption⟩
end
end Go.Proofs.YtiebcdeafofgdaaGreatDoor
