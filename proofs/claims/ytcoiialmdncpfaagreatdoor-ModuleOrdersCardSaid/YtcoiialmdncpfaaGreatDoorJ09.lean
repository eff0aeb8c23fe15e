/-
  Parts of the proof: Tstr Tname Tof Tall Tofk Task Tplain. By an AI agent.
-/
import Derived.Test.YtcoiialmdncpfaaGreatDoorJ08
import Derived.Test.YtcoiialmdncpfaaGreatDoorJ00
import Derived.Laws.RangeAny
import Derived.Lib.RuneCount
import Derived.Laws.Entries
open Go.Proofs.Tryz
set_option maxRecDepth 100000
set_option maxHeartbeats 8000000
namespace Go.Proofs.YtcoiialmdncpfaaGreatDoor
section
open Go.RowKit Go.Lib Go.Proofs
attribute [local go_sem ↓] Go.wp_at_zero Go.wp_at_succ
theorem gH:type_of% @decide_eq_false_iff_not:=@decide_eq_false_iff_not
theorem gT:type_of% @Nat.zero_le:=@Nat.zero_le
theorem jX:type_of% @List.drop_eq_getElem_cons:=@List.drop_eq_getElem_cons
theorem jZ:type_of% @List.drop_of_length_le:=@List.drop_of_length_le
theorem kE:type_of% @bne_iff_ne:=@bne_iff_ne
theorem qJ:type_of% @Go.World.iter_heap:=@Go.World.iter_heap
theorem qL:type_of% @Go.Lib.run_next_end_at:=@Go.Lib.run_next_end_at
theorem qV:type_of% @Go.Lib.run_next_any_at:=@Go.Lib.run_next_any_at
theorem qZ:type_of% @Go.Lib.iterAt_heap:=@Go.Lib.iterAt_heap
theorem vx:type_of% @Bool.not_eq_true':=@Bool.not_eq_true'
theorem vO:type_of% @decide_eq_decide:=@decide_eq_decide
def bD(c:Int):Bool:=c==95||((decide (97<=c)&&decide (c<=122))||(decide (65<=c)&&decide (c<=90)))
def aT(c:Int):Bool:=decide (48<=c)&&decide (c<=57)
theorem fm(c:Int)(w:World):Calls prog 165 #[.int .i32 c] w fun e w'=>e=.returned (.bool (bD c))/\w=w':=by unfold bD;cases O:(c==95)<;>cases M:decide (97<=c)<;>cases J:decide (c<=122)<;>cases I:decide (65<=c)<;>cases D:decide (c<=90);all_goals(go_enter func165,ntmps165);go_wp2_with fail;go_ret;exact⟨rfl,rfl⟩
theorem lM(c:Int)(w:World):Calls prog 168 #[.int .i32 c] w fun e w'=>e=.returned (.bool (aT c))/\w=w':=by unfold aT;cases I:decide (48<=c)<;>cases D:decide (c<=57);all_goals(go_enter func168,ntmps168);go_wp2_with fail;go_ret;exact⟨rfl,rfl⟩
theorem bU{s x:ByteArray}(h:¬ s=x):(s.toList==x.data.toList)=false:=by rw[<-qW,bW];simpa using h
theorem BI(s:ByteArray)(w:World):Calls prog 170 #[s] w fun e w'=>e=.returned (.int .i64 (cr s))/\w=w':=by
 by_cases h:s=(⟨#[98,114,101,97,107]⟩:BA)
 ·subst h;rw[show cr ⟨#[98,114,101,97,107]⟩=1 by decide +kernel];(go_enter func170,ntmps170);go_wp2_with fail;go_ret;exact⟨rfl,rfl⟩
 by_cases x:s=(⟨#[99,111,110,116,105,110,117,101]⟩:BA)
 ·subst x;rw[show cr ⟨#[99,111,110,116,105,110,117,101]⟩=1 by decide +kernel];clear h;(go_enter func170,ntmps170);go_wp2_with fail;go_ret;exact⟨rfl,rfl⟩
 by_cases y:s=(⟨#[101,108,115,101]⟩:BA)
 ·subst y;rw[show cr ⟨#[101,108,115,101]⟩=1 by decide +kernel];clear h x;(go_enter func170,ntmps170);go_wp2_with fail;go_ret;exact⟨rfl,rfl⟩
 by_cases z:s=(⟨#[102,111,114]⟩:BA)
 ·subst z;rw[show cr ⟨#[102,111,114]⟩=1 by decide +kernel];clear h x y;(go_enter func170,ntmps170);go_wp2_with fail;go_ret;exact⟨rfl,rfl⟩
 by_cases h4:s=(⟨#[102,117,110,99]⟩:BA)
 ·subst h4;rw[show cr ⟨#[102,117,110,99]⟩=1 by decide +kernel];clear h x y z;(go_enter func170,ntmps170);go_wp2_with fail;go_ret;exact⟨rfl,rfl⟩
 by_cases h5:s=(⟨#[105,102]⟩:BA)
 ·subst h5;rw[show cr ⟨#[105,102]⟩=1 by decide +kernel];clear h x y z h4;(go_enter func170,ntmps170);go_wp2_with fail;go_ret;exact⟨rfl,rfl⟩
 by_cases h6:s=(⟨#[105,109,112,111,114,116]⟩:BA)
 ·subst h6;rw[show cr ⟨#[105,109,112,111,114,116]⟩=1 by decide +kernel];clear h x y z h4 h5;(go_enter func170,ntmps170);go_wp2_with fail;go_ret;exact⟨rfl,rfl⟩
 by_cases h7:s=(⟨#[105,110,116,101,114,102,97,99,101]⟩:BA)
 ·subst h7;rw[show cr ⟨#[105,110,116,101,114,102,97,99,101]⟩=1 by decide +kernel];clear h x y z h4 h5 h6;(go_enter func170,ntmps170);go_wp2_with fail;go_ret;exact⟨rfl,rfl⟩
 by_cases h8:s=(⟨#[112,97,99,107,97,103,101]⟩:BA)
 ·subst h8;rw[show cr ⟨#[112,97,99,107,97,103,101]⟩=1 by decide +kernel];clear h x y z h4 h5 h6 h7;(go_enter func170,ntmps170);go_wp2_with fail;go_ret;exact⟨rfl,rfl⟩
 by_cases h9:s=(⟨#[114,97,110,103,101]⟩:BA)
 ·subst h9;rw[show cr ⟨#[114,97,110,103,101]⟩=1 by decide +kernel];clear h x y z h4 h5 h6 h7 h8;(go_enter func170,ntmps170);go_wp2_with fail;go_ret;exact⟨rfl,rfl⟩
 by_cases D:s=(⟨#[114,101,116,117,114,110]⟩:BA)
 ·subst D;rw[show cr ⟨#[114,101,116,117,114,110]⟩=1 by decide +kernel];clear h x y z h4 h5 h6 h7 h8 h9;(go_enter func170,ntmps170);go_wp2_with fail;go_ret;exact⟨rfl,rfl⟩
 by_cases I:s=(⟨#[115,116,114,117,99,116]⟩:BA)
 ·subst I;rw[show cr ⟨#[115,116,114,117,99,116]⟩=1 by decide +kernel];clear h x y z h4 h5 h6 h7 h8 h9 D;(go_enter func170,ntmps170);go_wp2_with fail;go_ret;exact⟨rfl,rfl⟩
 by_cases J:s=(⟨#[116,121,112,101]⟩:BA)
 ·subst J;rw[show cr ⟨#[116,121,112,101]⟩=1 by decide +kernel];clear h x y z h4 h5 h6 h7 h8 h9 D I;(go_enter func170,ntmps170);go_wp2_with fail;go_ret;exact⟨rfl,rfl⟩
 by_cases M:s=(⟨#[118,97,114]⟩:BA)
 ·subst M;rw[show cr ⟨#[118,97,114]⟩=1 by decide +kernel];clear h x y z h4 h5 h6 h7 h8 h9 D I J;(go_enter func170,ntmps170);go_wp2_with fail;go_ret;exact⟨rfl,rfl⟩
 by_cases O:s=(⟨#[99,97,115,101]⟩:BA)
 ·subst O;rw[show cr ⟨#[99,97,115,101]⟩=2 by decide +kernel];clear h x y z h4 h5 h6 h7 h8 h9 D I J M;(go_enter func170,ntmps170);go_wp2_with fail;go_ret;exact⟨rfl,rfl⟩
 by_cases q:s=(⟨#[99,104,97,110]⟩:BA)
 ·subst q;rw[show cr ⟨#[99,104,97,110]⟩=2 by decide +kernel];clear h x y z h4 h5 h6 h7 h8 h9 D I J M O;(go_enter func170,ntmps170);go_wp2_with fail;go_ret;exact⟨rfl,rfl⟩
 by_cases ga:s=(⟨#[99,111,110,115,116]⟩:BA)
 ·subst ga;rw[show cr ⟨#[99,111,110,115,116]⟩=2 by decide +kernel];clear h x y z h4 h5 h6 h7 h8 h9 D I J M O q;(go_enter func170,ntmps170);go_wp2_with fail;go_ret;exact⟨rfl,rfl⟩
 by_cases gb:s=(⟨#[100,101,102,97,117,108,116]⟩:BA)
 ·subst gb;rw[show cr ⟨#[100,101,102,97,117,108,116]⟩=2 by decide +kernel];clear h x y z h4 h5 h6 h7 h8 h9 D I J M O q ga;(go_enter func170,ntmps170);go_wp2_with fail;go_ret;exact⟨rfl,rfl⟩
 by_cases gd:s=(⟨#[100,101,102,101,114]⟩:BA)
 ·subst gd;rw[show cr ⟨#[100,101,102,101,114]⟩=2 by decide +kernel];clear h x y z h4 h5 h6 h7 h8 h9 D I J M O q ga gb;(go_enter func170,ntmps170);go_wp2_with fail;go_ret;exact⟨rfl,rfl⟩
 by_cases ge:s=(⟨#[102,97,108,108,116,104,114,111,117,103,104]⟩:BA)
 ·subst ge;rw[show cr ⟨#[102,97,108,108,116,104,114,111,117,103,104]⟩=2 by decide +kernel];clear h x y z h4 h5 h6 h7 h8 h9 D I J M O q ga gb gd;(go_enter func170,ntmps170);go_wp2_with fail;go_ret;exact⟨rfl,rfl⟩
 by_cases gg:s=(⟨#[103,111]⟩:BA)
 ·subst gg;rw[show cr ⟨#[103,111]⟩=2 by decide +kernel];clear h x y z h4 h5 h6 h7 h8 h9 D I J M O q ga gb gd ge;(go_enter func170,ntmps170);go_wp2_with fail;go_ret;exact⟨rfl,rfl⟩
 by_cases gh:s=(⟨#[103,111,116,111]⟩:BA)
 ·subst gh;rw[show cr ⟨#[103,111,116,111]⟩=2 by decide +kernel];clear h x y z h4 h5 h6 h7 h8 h9 D I J M O q ga gb gd ge gg;(go_enter func170,ntmps170);go_wp2_with fail;go_ret;exact⟨rfl,rfl⟩
 by_cases gi:s=(⟨#[109,97,112]⟩:BA)
 ·subst gi;rw[show cr ⟨#[109,97,112]⟩=2 by decide +kernel];clear h x y z h4 h5 h6 h7 h8 h9 D I J M O q ga gb gd ge gg gh;(go_enter func170,ntmps170);go_wp2_with fail;go_ret;exact⟨rfl,rfl⟩
 by_cases gj:s=(⟨#[115,101,108,101,99,116]⟩:BA)
 ·subst gj;rw[show cr ⟨#[115,101,108,101,99,116]⟩=2 by decide +kernel];clear h x y z h4 h5 h6 h7 h8 h9 D I J M O q ga gb gd ge gg gh gi;(go_enter func170,ntmps170);go_wp2_with fail;go_ret;exact⟨rfl,rfl⟩
 by_cases gk:s=(⟨#[115,119,105,116,99,104]⟩:BA)
 ·subst gk;rw[show cr ⟨#[115,119,105,116,99,104]⟩=2 by decide +kernel];clear h x y z h4 h5 h6 h7 h8 h9 D I J M O q ga gb gd ge gg gh gi gj;(go_enter func170,ntmps170);go_wp2_with fail;go_ret;exact⟨rfl,rfl⟩
 (have hz:cr s=0:=by simp only[cr,G6,G7,List.any_cons,List.any_nil,h,x,y,z,h4,h5,h6,h7,h8,h9,D,I,J,M,O,q,ga,gb,gd,ge,gg,gh,gi,gj,gk,decide_false,Bool.or_false,gX,kK]);have q0:(s.toList==[98,114,101,97,107])=false:=bU h;have q1:(s.toList==[99,111,110,116,105,110,117,101])=false:=bU x;have q2:(s.toList==[101,108,115,101])=false:=bU y;have q3:(s.toList==[102,111,114])=false:=bU z;have q4:(s.toList==[102,117,110,99])=false:=bU h4;have q5:(s.toList==[105,102])=false:=bU h5;have q6:(s.toList==[105,109,112,111,114,116])=false:=bU h6;have q7:(s.toList==[105,110,116,101,114,102,97,99,101])=false:=bU h7;have q8:(s.toList==[112,97,99,107,97,103,101])=false:=bU h8;have q9:(s.toList==[114,97,110,103,101])=false:=bU h9;have g0:(s.toList==[114,101,116,117,114,110])=false:=bU D;have gz:(s.toList==[115,116,114,117,99,116])=false:=bU I;have gy:(s.toList==[116,121,112,101])=false:=bU J;have gx:(s.toList==[118,97,114])=false:=bU M;have gw:(s.toList==[99,97,115,101])=false:=bU O;have gv:(s.toList==[99,104,97,110])=false:=bU q;have gu:(s.toList==[99,111,110,115,116])=false:=bU ga;have gt:(s.toList==[100,101,102,97,117,108,116])=false:=bU gb;have gs:(s.toList==[100,101,102,101,114])=false:=bU gd;have gr:(s.toList==[102,97,108,108,116,104,114,111,117,103,104])=false:=bU ge;have gq:(s.toList==[103,111])=false:=bU gg;have gp:(s.toList==[103,111,116,111])=false:=bU gh;have gn:(s.toList==[109,97,112])=false:=bU gi;have gm:(s.toList==[115,101,108,101,99,116])=false:=bU gj;have gl:(s.toList==[115,119,105,116,99,104])=false:=bU gk;rw[hz];clear hz h x y z h4 h5 h6 h7 h8 h9 D I J M O q ga gb gd ge gg gh gi gj gk;(go_enter func170,ntmps170);go_wp2_with fail;go_ret;exact⟨rfl,rfl⟩
theorem bx{w wr:World}{b:Nat}{s:ByteArray}{k:Nat}{B:Nat}(h:Below B w wr)(hb:B<=b):Below B w (wr.iterAt b s k):=
 ⟨h.os,h.tape,h.output,by rw[iterAt_size];exact h.size,fun j hj=>(iterAt_other wr _ _ s _ (by omega)).trans (h.block j hj)⟩
theorem pD(s:ByteArray)(i:Nat)(h:i<s.size):1<=(Utf8.decode s i).2/\i+(Utf8.decode s i).2<=s.size:=by simp only[Utf8.decode];(repeat' split);(all_goals simp_all);all_goals omega
def MC(s:ByteArray)(j:Nat):Bool:=bD ((s.data.toList.getD j 0).toNat:Int)||(decide (0<j)&&aT ((s.data.toList.getD j 0).toNat:Int))
theorem lm(c:UInt8):tP c=bD (c.toNat:Int):=by unfold tP bD;rw[jW];simp[UInt8.le_iff_toNat_le,<-UInt8.toNat_inj];omega
theorem ln(c:UInt8):mW c=aT (c.toNat:Int):=by unfold mW aT;rw[jW];simp[UInt8.le_iff_toNat_le];omega
theorem yi(l:List UInt8):lE l=true↔∀j,j<l.length->(bD ((l.getD j 0).toNat:Int)||(decide (0<j)&&aT ((l.getD j 0).toNat:Int)))=true:=by
 cases l with
 |nil=>simp[lE]
 | cons c r=>
  unfold lE;rw[gR,List.all_eq_true];constructor
  ·rintro⟨M,J⟩j D;cases j with
   |zero=>simp[<-lm,M]
   |succ j=>(have I:j<r.length:=by simpa using D);have:=J r[j] (jF _);rw[lm,ln]at this;simpa[I]using this
  ·intro h;refine⟨by have:=h 0 (by simp);simpa[<-lm]using this,fun x hx=>?_⟩;obtain⟨j,D,rfl⟩:=List.mem_iff_getElem.1 hx;have:=h (j+1) (by simpa using D);rw[lm,ln];simpa[D]using this
theorem iW{c:Int}(h:128<=c):bD c=false:=by unfold bD;(have J:(c==95)=false:=by simp;omega);(have I:decide (c<=122)=false:=by simp;omega);(have D:decide (c<=90)=false:=by simp;omega);rw[J,I,D];simp
theorem ee{c:Int}(h:128<=c):aT c=false:=by unfold aT;(have D:decide (c<=57)=false:=by simp;omega);rw[D];simp
theorem nd(s:ByteArray)(i:Nat)(h:i<s.size):(Utf8.decode s i=((s.data.toList.getD i 0).toNat,1)/\(s.data.toList.getD i 0).toNat<128)\/(128<=(Utf8.decode s i).1/\128<=(s.data.toList.getD i 0).toNat):=by
 (have e:s.data.toList.getD i 0=s[i]:=by rw[jJ,gO (by simpa using h)];rfl);rw[e];rcases kN s[i].toNat 128 with D|D
 ·exact .inl ⟨decode_ascii s i h D,D⟩
 ·exact .inr ⟨(decode_high s i h D).1,D⟩
def od(i:Nat)(c:Int):Bool:=bD c||(decide (0<i)&&aT c)
theorem BJ(s:ByteArray)(w:World):Calls prog 235 #[s] w fun e w'=>e=.returned (.bool (oJ s))/\Below w w w':=by
 (have hT:oJ s=(lE s.data.toList&&(!s.toList.isEmpty&&(cr s==0))):=by unfold oJ;rw[aF,fN];congr 2;rw[jW];simp);have hN:=yi s.data.toList;rw[hT];generalize lE s.data.toList=nc at *;have HN:=hid hN;clear hT hN;have i1:=qJ w s 0;have i2:Below w w (w.iter s 0):=(gC _ w).alloc (gA _) _;(go_enter func235,ntmps235);go_wp2_with fail;go_loopg [3,4,7,8] s.size (fun g _ _ _ _ wr=>∃i:Nat,i<=s.size/\s.size-i<=g/\wr.heap[w.heap.size]? = some (.stringIter s i)/\Below w w wr/\(∀j,j<i->MC s j=true))
 case atStart=>exact⟨0,gT _,by omega,i1,i2,fun j hj=>by omega⟩
 case round=>
  clear i1 i2;obtain⟨i,hi,hg,hit,hB,z⟩:=hrel;have ge:=hid hit;have HA:=hid z;clear hit z;by_cases M:i<s.size
  ·have hw:=pD s i M;have gb:=nd s i M;have I:=fun ty=>qV (P:=prog) wr w.heap.size s i ty ge.out M;have gh:MC s i=od i ((s.data.toList.getD i 0).toNat:Int):=rfl;generalize hb:(s.data.toList.getD i 0).toNat=b at *;generalize hd:Utf8.decode s i=q at *;obtain⟨r,k⟩:=q;simp only at hw I gb;have y:od i (r:Int)=od i (b:Int)/\(od i (r:Int)=true->k=1):=by
    rcases gb with⟨e,_⟩|⟨h1,h2⟩
    ·injection e with e1 e2;subst e1 e2;exact⟨rfl,fun _=>rfl⟩
    ·unfold od;rw[iW (by omega),iW (by omega),ee (by omega),ee (by omega)];exact⟨rfl,by simp⟩
   have gd:=hid gh;have J:=hid y;have j1:=qZ wr w.heap.size s i (i+k) ge.out;have j2:Below w w (wr.iterAt w.heap.size s (i+k)):=bx hB (gA _);generalize wr.iterAt w.heap.size s (i+k)=W1 at I j1 j2;have J1:=hid j1;clear gh y gb j1 hd hb;have x:od i (r:Int)=false->nc=false:=by
    intro hf;cases hn:nc with
    |false=>rfl
    |true=>have:=(HN.out.1 hn) i (by simpa using M);rw[show(bD ((s.data.toList.getD i 0).toNat:Int)||(decide (0<i)&&aT ((s.data.toList.getD i 0).toNat:Int)))=MC s i from rfl,gd.out,<-J.out.1,hf]at this;cases this
   have h:=hid x;have gi:od i (r:Int)=true->k=1/\∀j,j<i+k->MC s j=true:=by
    intro hf;have hk:=J.out.2 hf;refine⟨hk,fun j hj=>?_⟩;by_cases e:j=i
    ·subst e;rw[gd.out,<-J.out.1,hf]
    ·exact HA.out j (by omega)
   have gg:=hid gi;clear x gi J gd HA;unfold od at h gg;cases hL:bD (r:Int)with
   |true=>
    obtain⟨_,D⟩:=gg.out (by rw[hL];rfl);have O:=hid D;clear D;go_wp2_with fail;refine(fm _ _).mono ?_;rw[hL];rintro e w1⟨rfl,rfl⟩;go_wp2_with fail;go_roundg (s.size-(i+k))
    case measure=>omega
    case rel=>exact⟨i+k,hw.2,gA _,J1.out,j2,O.out⟩
   | false=>
    by_cases hz:i=0
    ·have HX:=hid (h.out (by rw[hL,hz];rfl));(have yk:((i:Int)==0)=true:=by simp[hz]);clear hz;go_wp2_with fail;refine(fm _ _).mono ?_;rw[hL];rintro e w1⟨rfl,rfl⟩;go_wp2_with fail;go_ret;exact⟨by rw[HX.out];rfl,j2⟩
    ·(have yk:((i:Int)==0)=false:=by simp;omega);(have ga:decide (0<i)=true:=by simp;omega);cases hF:aT (r:Int)with
     |true=>
      obtain⟨_,D⟩:=gg.out (by rw[hL,hF,ga];rfl);have O:=hid D;clear D ga hz;go_wp2_with fail;refine(fm _ _).mono ?_;rw[hL];rintro e w1⟨rfl,rfl⟩;go_wp2_with fail;refine(lM _ _).mono ?_;rw[hF];rintro e w1⟨rfl,rfl⟩;go_wp2_with fail;go_roundg (s.size-(i+k))
      case measure=>omega
      case rel=>exact⟨i+k,hw.2,gA _,J1.out,j2,O.out⟩
     |false=>have HX:=hid (h.out (by rw[hL,hF];simp));clear ga hz;go_wp2_with fail;refine(fm _ _).mono ?_;rw[hL];rintro e w1⟨rfl,rfl⟩;go_wp2_with fail;refine(lM _ _).mono ?_;rw[hF];rintro e w1⟨rfl,rfl⟩;go_wp2_with fail;go_ret;exact⟨by rw[HX.out];rfl,j2⟩
  ·(have gj:i=s.size:=by omega);have I:=fun ty=>qL (P:=prog) wr w.heap.size s i ty ge.out M;have HX:Hid (nc=true):=hid (HN.out.2 fun j hj=>HA.out j (by simp at hj;omega));clear gj;cases hE:s.toList.isEmpty with
   |true=>go_wp2_with fail;go_ret;exact⟨by rw[HX.out,hE];rfl,hB⟩
   |false=>go_wp2_with fail;refine(BI _ _).mono ?_;rintro e w1⟨rfl,rfl⟩;go_wp2_with fail;go_ret;exact⟨by rw[HX.out,hE];rfl,hB⟩
theorem sq(w:World)(v:Value)(n:Nd)(D:dy w v n):Calls prog 258 #[v] w fun e w'=>e=.returned (.bool (aX n))/\Below w w w':=by obtain⟨A,cp,rfl,J⟩:=D.toC;(have I:aX n=(n.kind==0&&(n.text.toList.isEmpty&&((n.kids.length:Int)==0))):=by unfold aX;rw[aF,fN,fN];congr 2;rw[vO];omega);rw[I];generalize hl:(n.kids.length:Int)=m at *;generalize n.kind=k at *;generalize n.text=t at *;clear I D J;cases h:(k==0)<;>cases O:t.toList.isEmpty<;>cases M:(m==0);all_goals(go_enter func258,ntmps258);go_wp2_with fail;go_ret;refine⟨rfl,?_⟩;exact bel
theorem aq.retext{X:Nat->Prop}{w:World}{k:Value}{t p:Value}{A:Option Addr}{c:Nat}{n:Nd}(h:aq X w (.agg #[k,t,.slice A n.kids.length c,p]) n)(x:ByteArray):
  aq X w (.agg #[n.kind,x,.slice A n.kids.length c,n.pos]) (.mk n.kind x n.kids n.pos):=by obtain⟨M,c1,xs,e,J,I,D⟩:=h;injection e with e;injection e with e;simp only[vk,xu]at e;obtain⟨_,_,e,_⟩:=e;injection e with e1 _ e3;subst e1 e3;exact⟨A,c,xs,rfl,J,I,D⟩
def O5(w:World)(n:Nd)(e:Ending)(w':World):Prop:=∃v,e=.returned v/\dy w' v n/\Below w w w'
theorem bY(w:World)(v:Value)(n:Nd)(M:dy w v n)(f:Fv)(P:ByteArray->Bool)(O:BH P f w)(ht:n.text.size<=1000000000):
  Calls prog 239 #[v,.func (.func f.k) #[] f.cap] w (O5 w (aJ P n)):=by
 have I:=M;obtain⟨A,cp,rfl,hC⟩:=M.toC;have he:=O.enter;have HS:=hid O;have h:=((gC w.heap.size w).alloc (gA _) (.cells #[n.kind,n.text,.slice A n.kids.length cp,n.pos] 41)).alloc (by simp) (.cells bg 41);have z:aa ((w.alloc (.cells #[n.kind,n.text,.slice A n.kids.length cp,n.pos] 41)).alloc (.cells bg 41)) w.heap.size 41 #[n.kind,n.text,.slice A n.kids.length cp,n.pos]:=(aa.new w _ _).alloc _;have y:aa ((w.alloc (.cells #[n.kind,n.text,.slice A n.kids.length cp,n.pos] 41)).alloc (.cells bg 41)) (w.heap.size+1) 41 bg:=aa.new_at (by simp) _ _;have q:=hid I;clear I M hC O;(go_enter func239,ntmps239);go_wp2_with fail;refine(HS.out.out _ _ h ht).mono ?_;rintro e w1⟨rfl,D⟩;have c1:=z.below D (by simp;omega);have c2:=y.below D (by simp);have gb:=aE h D;clear z y h D he HS;obtain⟨x0,x1,x2,x3,y0,y1,y2,y3⟩:=ah c1;obtain⟨z0,z1,z2,z3,u0,u1,u2,u3⟩:=ah c2;(have ga:w.heap.size+1≠w.heap.size:=by omega);cases J:P n.text with
 |true=>have x:Hid (aJ P n=.mk n.kind ⟨#[]⟩ n.kids n.pos):=hid (by unfold aJ;rw[J];rfl);clear J;go_wp2_with fail;have hb:aa (cM (w1.setCell ⟨w,1,none⟩ (.string ⟨#[]⟩)) (w.heap.size+1) (.int .i64 n.kind) (.string ⟨#[]⟩) (.slice A n.kids.length cp) (.int .i64 n.pos)) (w.heap.size+1) 41 #[.int .i64 n.kind,.string ⟨#[]⟩,.slice A n.kids.length cp,.int .i64 n.pos]:=cJ (c2.far (p:=⟨w,1,none⟩) (by show w.heap.size+1≠w.heap.size;omega) _) _ _ _ _;refine jD (dx rfl _ (by rfl) hb) rfl ?_;rw[x.out];exact⟨_,rfl,(aq.retext q.out ⟨#[]⟩).below lh,lh⟩
 |false=>have x:Hid (aJ P n=.mk 37 ⟨#[]⟩ [] 0):=hid (by unfold aJ;rw[J];rfl);clear J;go_wp2_with fail;have hb:aa (cM w1 (w.heap.size+1) (.int .i64 37) (.string ⟨#[]⟩) (.slice none 0 0) (.int .i64 0)) (w.heap.size+1) 41 #[.int .i64 37,.string ⟨#[]⟩,.slice none 0 0,.int .i64 0]:=cJ c2 _ _ _ _;refine jD (dx rfl _ (by rfl) hb) rfl ?_;rw[x.out];exact⟨_,rfl,aq.leaf _ _ _,lh⟩
theorem aw{w:World}{g:Nat}{t:TypeId}{a:Value}(h:aa w g t #[a]):w.cell? ⟨g,0,none⟩=some a:=by have c0:=h.cell 0;simp at c0;exact c0
theorem MD(d:Nat)(P Q:Nd->Bool)(f g:Fv)(w0:World)(hf:m9 d P f w0)(z:m9 d Q g w0)(a b:Nat)
  (ha:aa w0 a 196 #[.func (.func f.k) #[] f.cap])(hb:aa w0 b 196 #[.func (.func g.k) #[] g.cap]):
  m9 d (fD P Q) ⟨285,#[a,b]⟩ w0:=by
 refine⟨fun a w=>by kernel_rfl,fun w v n hw hv hd=>?_⟩;have gg:=hf.enter;have ge:=z.enter;have J:=hv;obtain⟨A,cp,rfl,hC⟩:=hv.toC;have x:=(cH w #[n.kind,n.text,.slice A n.kids.length cp,n.pos]).1;have I:=hw.alloc hw.size (.cells #[n.kind,n.text,.slice A n.kids.length cp,n.pos] 41);have b1:=(cH w #[n.kind,n.text,.slice A n.kids.length cp,n.pos]).2;have ca:=aw (ha.bl I);have HF:=hid (hf.out _ _ n I (J.below x) hd);have y:=hb.lt;have HV:=hid (J.below x);have HG:=hid z;have gb:=hid hb;have gd:=hw.size;show Calls _ _ _ w fun e w'=>e=.returned (.bool (P n||Q n))/\_;clear hf z J hv hC ha hb;(go_enter func285,ntmps285);go_wp2_with fail;refine HF.out.mono ?_;rintro e w1⟨rfl,D⟩;have O:=aE I D;have cb:=aw (gb.out.below O y);obtain⟨x0,x1,x2,x3,_,_,_,_⟩:=ah (b1.below D (by simp));have q:=hid (HG.out.out _ _ n O (HV.out.below D) hd);have M:=aE x D;clear D x b1 I ca HF;cases hP:P n with
 |true=>go_wp2_with fail;go_ret;exact⟨by rw[hP];rfl,M⟩
 |false=>go_wp2_with fail;refine q.out.mono ?_;rintro e w2⟨rfl,h⟩;have ga:=aE M h;clear h q M;go_wp2_with fail;go_ret;exact⟨by rw[hP];rfl,ga⟩
theorem eV(d:Nat)(P Q:Nd->Bool)(f g:Fv)(w:World)(J:m9 d P f w)(I:m9 d Q g w):
  Calls prog 242 #[.func (.func f.k) #[] f.cap,.func (.func g.k) #[] g.cap] w fun e w'=>∃h:Fv,e=.returned (.func (.func h.k) #[] h.cap)/\m9 d (fD P Q) h w'/\Below w w w':=by have x:=hid J;have q:=hid I;have D:=((gC w.heap.size w).alloc (gA _) (.cells #[.func (.func f.k) #[] f.cap] 196)).alloc (by simp) (.cells #[.func (.func g.k) #[] g.cap] 196);have O:aa ((w.alloc (.cells #[.func (.func f.k) #[] f.cap] 196)).alloc (.cells #[.func (.func g.k) #[] g.cap] 196)) w.heap.size 196 #[.func (.func f.k) #[] f.cap]:=(aa.new w _ _).alloc _;have M:aa ((w.alloc (.cells #[.func (.func f.k) #[] f.cap] 196)).alloc (.cells #[.func (.func g.k) #[] g.cap] 196)) (w.heap.size+1) 196 #[.func (.func g.k) #[] g.cap]:=aa.new_at (by simp) _ _;clear J I;(go_enter func242,ntmps242);go_wp2_with fail;go_ret;exact⟨⟨285,#[w,.pointer (some ⟨w.heap.size+1,0,none⟩)]⟩,rfl,MD d P Q f g _ (x.out.below D) (q.out.below D) _ _ O M,D⟩
theorem lL.at_{w:World}{A:Option Addr}{n c:Nat}{l:List Nd}(h:lL w (.slice A n c) l)(i:Nat)(J:i<l.length):
  n = l.length/\∃b off D cp,A=some ⟨b,off,none⟩/\b<w.heap.size/\w.cell? ⟨b,off+i*4,none⟩=some (.int .i64 l[i].kind)/\w.cell? ⟨b,off+i*4+1,none⟩=some (.string l[i].text) /\
    w.cell? ⟨b,off+i*4+2,none⟩=some (.slice D l[i].kids.length cp)/\w.cell? ⟨b,off+i*4+3,none⟩=some (.int .i64 l[i].pos) /\
    dy w (.agg #[.int .i64 l[i].kind,.string l[i].text,.slice D l[i].kids.length cp,.int .i64 l[i].pos]) l[i]:=by(have I:n=l.length:=by obtain⟨_,_,_,e,_⟩:=h;injection e);obtain⟨b,off,D,cp,e,_,z,y,x,q,O,M⟩:=h.kid i J;exact⟨I,b,off,D,cp,e,z,y,x,q,O,M⟩
def yj(P:Nd->Bool):List Nd->Nat->Int
 |[],_ =>-1
 |n::l,i=>if P n then(i:Int)else yj P l (i+1)
theorem BK(P:Nd->Bool):∀(l:List Nd)(i:Nat),decide (0<=yj P l i)=l.any P
 |[],i=>rfl
 |n::l,i=>by
  rw[yj,List.any_cons];cases D:P n with
  |true=>simp
  |false=>simpa using BK P l (i+1)
theorem Fp(P:Nd->Bool)(l:List Nd)(i:Nat)(D:i<l.length):yj P (l.drop i) i=if P l[i]then(i:Int)else yj P (l.drop (i+1)) (i+1):=by rw[jX D,yj]
theorem yo(d:Nat)(P:Nd->Bool)(f:Fv)(A:Option Addr)(c:Nat)(l:List Nd)(w:World)(hv:lL w (.slice A l.length c) l)(hd:∀n∈l,ie d n)(hl:l.length<=1000000000)(hf:m9 d P f w):
  Calls prog 281 #[.slice A l.length c,.func (.func f.k) #[] f.cap] w fun e w'=>e=.returned (.int .i64 (yj P l 0))/\Below w w w':=by
 have he:=hf.enter;have HF:=hid hf;have HV:=hid hv;have HD:=hid hd;generalize q:yj P l 0=I;have HI:=hid q;clear hf hv hd q;(go_enter func281,ntmps281);go_wp2_with fail;go_loopg [5,8] l.length (fun g _ u8 wr=>∃i:Nat,i<=l.length/\l.length-i<=g/\u8=.int .i64 (i:Int)/\yj P (l.drop i) i=I/\Below w w wr)
 case atStart=>exact⟨0,gT _,by omega,rfl,by simpa using HI.out,gC _ _⟩
 case round=>
  obtain⟨i,hi,hg,rfl,q,y⟩:=hrel;have HI:=hid q;clear q;by_cases M:i<l.length
  ·(have h:(i:Int)<(l.length:Int):=by omega);(have h0:(0:Int)<=(i:Int):=by omega);obtain⟨_,b,off,A1,cp,rfl,hb,k0,k1,k2,k3,hn⟩:=lL.at_ (HV.out.below y) i M;have HC:=hid (HF.out.out _ _ l[i] y hn (HD.out _ (jF M)));have HE:=hid (Fp P l i M);generalize l[i]=x at *;clear hn;cases hP:P x with
   |true=>have z:=hid (show I=(i:Int)by rw[<-HI.out,HE.out,hP];rfl);go_wp2_with fail;refine HC.out.mono ?_;rw[hP];rintro e w1⟨rfl,D⟩;have O:=aE y D;clear D HC;go_wp2_with fail;go_ret;exact⟨by rw[z.out];rfl,O⟩
   |false=>
    have z:Hid (yj P (l.drop (i+1)) (i+1)=I):=hid (by rw[<-HI.out,HE.out,hP];rfl);go_wp2_with fail;refine HC.out.mono ?_;rw[hP];rintro e w1⟨rfl,D⟩;have O:=aE y D;clear D HC;go_wp2_with fail;go_roundg (l.length-(i+1))
    case measure=>omega
    case rel=>exact⟨i+1,by omega,gA _,by go_num,z.out,O⟩
  ·(have h:¬ (i:Int)<(l.length:Int):=by omega);have J:l.drop i=[]:=jZ (by omega);have z:Hid (I = -1):=hid (by rw[<-HI.out,J];rfl);clear J;go_wp2_with fail;go_ret;exact⟨by rw[z.out];rfl,y⟩
theorem sr(d:Nat)(P:Nd->Bool)(f:Fv)(A:Option Addr)(c:Nat)(l:List Nd)(w:World)(I:lL w (.slice A l.length c) l)(hd:∀n∈l,ie d n)(M:l.length<=1000000000)(J:m9 d P f w):
  Calls prog 236 #[.slice A l.length c,.func (.func f.k) #[] f.cap] w fun e w'=>e=.returned (.bool (l.any P))/\Below w w w':=by have O:=hid (yo d P f A c l w I hd M J);rw[<-BK P l 0];clear I hd J;(go_enter func236,ntmps236);go_wp2_with fail;refine O.out.mono ?_;rintro e w1⟨rfl,D⟩;go_wp2_with fail;go_ret;exact⟨rfl,D⟩
theorem G8(d:Nat)(P:Nd->Bool)(f:Fv)(w0:World)(M:m9 d P f w0)(a:Nat)(O:aa w0 a 196 #[.func (.func f.k) #[] f.cap]):
  m9 d (fun n =>!P n) ⟨237,#[a]⟩ w0:=by refine⟨fun a w=>by kernel_rfl,fun w v n hw hv hd=>?_⟩;have ga:=M.enter;have J:=hv;obtain⟨A,cp,rfl,hC⟩:=hv.toC;have q:=(cH w #[n.kind,n.text,.slice A n.kids.length cp,n.pos]).1;have D:=hw.alloc hw.size (.cells #[n.kind,n.text,.slice A n.kids.length cp,n.pos] 41);have ca:=aw (O.bl D);have x:=hid (M.out _ _ n D (J.below q) hd);have z:=O.lt;have y:=hw.size;show Calls _ _ _ w fun e w'=>e=.returned (.bool (!P n))/\_;clear M J hv hC O;(go_enter func237,ntmps237);go_wp2_with fail;refine x.out.mono ?_;rintro e w1⟨rfl,I⟩;have h:=aE q I;clear I q D ca x;go_wp2_with fail;go_ret;exact⟨rfl,h⟩
theorem ME(P:Nd->Bool)(l:List Nd):(!(l.any fun n =>!P n))=l.all P:=by
 induction l with
 |nil=>rfl
 |cons n l ih=>rw[List.any_cons,List.all_cons,<-ih];cases P n<;>simp
theorem fO(d:Nat)(P:Nd->Bool)(f:Fv)(A:Option Addr)(c:Nat)(l:List Nd)(w:World)(M:lL w (.slice A l.length c) l)(hd:∀n∈l,ie d n)(q:l.length<=1000000000)(O:m9 d P f w):
  Calls prog 188 #[.slice A l.length c,.func (.func f.k) #[] f.cap] w fun e w'=>e=.returned (.bool (l.all P))/\Below w w w':=by have I:=(gC w.heap.size w).alloc (gA _) (.cells #[.func (.func f.k) #[] f.cap] 196);have h:=aa.new w 196 #[.func (.func f.k) #[] f.cap];have x:=hid (sr d (fun n =>!P n) ⟨237,#[w]⟩ A c l _ (M.below I) hd q (G8 d P f _ (O.below I) _ h));(have y:∀a w,(callFunc 237 a).run prog w=.ok (.enter 237 a) w:=fun a w=>by kernel_rfl);rw[<-ME P l];clear M hd O h;(go_enter func188,ntmps188);go_wp2_with fail;refine x.out.mono ?_;rintro e w1⟨rfl,D⟩;have J:=aE I D;clear D I;go_wp2_with fail;go_ret;exact⟨rfl,J⟩
theorem BL(d:Nat)(P:Nd->Bool)(f:Fv)(v:Value)(n:Nd)(w:World)(J:dy w v n)(hd:ie (d+1) n)(O:m9 d P f w):
  Calls prog 283 #[v,.func (.func f.k) #[] f.cap] w fun e w'=>e=.returned (.bool (n7 P n))/\Below w w w':=by
 have I:=J;obtain⟨A,cp,rfl,x⟩:=J.toC;have M:=(cH w #[n.kind,n.text,.slice A n.kids.length cp,n.pos]).1;have z:=hid (fO d P f A cp n.kids _ (I.below M).kidsV hd.2 hd.1.1 (O.below M));(have h:n7 P n=(n.kind==6&&(n.text.toList.isEmpty&&n.kids.all P)):=by unfold n7;rw[aF,fN]);rw[h];clear h I J x hd O;generalize n.kids.all P=q at *;generalize n.kind=k at *;generalize n.text=t at *;cases h1:(k==6)<;>cases h2:t.toList.isEmpty;all_goals
  (go_enter func283,ntmps283);go_wp2_with fail;try
   refine z.out.mono ?_
   rintro e w1⟨rfl,D⟩
   have y:=aE M D
   clear D
   go_wp2_with fail
  go_ret;exact⟨rfl,by assumption⟩
theorem pE:∀(l:List (Nd->Bool))(ns:List Nd),l.length≠ns.length->dY l ns=false
 |[],[],h=>absurd rfl h
 |[],_::_,_=>rfl
 |_::_,[],_=>rfl
 |p::l,n::ns,h=>by rw[dY,pE l ns (by simpa using h)];simp
theorem BM(l:List (Nd->Bool))(ns:List Nd)(i:Nat)(I:i<l.length)(D:i<ns.length):dY (l.drop i) (ns.drop i)=(l[i] ns[i]&&dY (l.drop (i+1)) (ns.drop (i+1))):=by rw[jX I,jX D,dY]
def dq(w:World)(B:Option Addr)(fs:List (Fv×(Nd->Bool))):Prop:=
 (fs=[]/\B=none)\/∃b,B=some ⟨b,0,none⟩/\aa w b 196 (fs.map fun x=>Value.func (.func x.1.k) #[] x.1.cap).toArray
theorem dq.below{w w':World}{B:Option Addr}{fs:List (Fv×(Nd->Bool))}(h:dq w B fs)(hb:Below w w w'):dq w' B fs:=by
 rcases h with h|⟨b,e,h⟩
 ·exact .inl h
 ·exact .inr ⟨b,e,h.bl hb⟩
theorem dq.get{w:World}{B:Option Addr}{fs:List (Fv×(Nd->Bool))}(h:dq w B fs)(i:Nat)(D:i<fs.length):∃b,B=some ⟨b,0,none⟩/\b<w.heap.size/\w.cell? ⟨b,i,none⟩=some (.func (.func fs[i].1.k) #[] fs[i].1.cap):=by
 rcases h with⟨rfl,_⟩|⟨b,e,h⟩
 ·simp at D
 ·refine⟨b,e,h.lt,?_⟩;rw[h.cell i];simp[D]
theorem bI(d:Nat)(fs:List (Fv×(Nd->Bool)))(k:Int)(v:Value)(n:Nd)(B:Option Addr)(w:World)(m:Nat)(hm:fs.length=m)(gi:m<=9)
  (hv:dy w v n)(hd:ie (d+1) n)(q:dq w B fs)(hs:∀x∈fs,m9 d x.2 x.1 w):
  Calls prog 238 #[v,k,.slice B m m] w fun e w'=>e=.returned (.bool (fi k (fs.map (·.2)) n))/\Below w w w':=by
 have gb:=hv;obtain⟨A,cp,rfl,hC⟩:=hv.toC;have J:=(cH w #[n.kind,n.text,.slice A n.kids.length cp,n.pos]).1;have b1:=(cH w #[n.kind,n.text,.slice A n.kids.length cp,n.pos]).2;have HK:=hid (aq.kidsV (gb.below J));have HF:=hid (q.below J);have HS:=hid (fun x hx=>(hs x hx).below J);have HM:=hid hm;have HD:=hid hd.2;have gg:=hd.1.1;have hE:fi k (fs.map (·.2)) n=(!(n.kind != k)&&(!(!n.text.toList.isEmpty)&&(!((n.kids.length:Int) != (m:Int))&&dY (fs.map (·.2)) n.kids))):=by
  unfold fi;rw[aF];by_cases h3:n.kids.length=m
  ·(have:((n.kids.length:Int) != (m:Int))=false:=by simp[h3]);rw[this];simp[bne,fN]
  ·(have h4:((n.kids.length:Int) != (m:Int))=true:=by simp;omega);rw[h4,pE (fs.map (·.2)) n.kids (by rw[jN];omega)];simp
 rw[hE];clear hE gb hv hC hd q hs hm;generalize hI:dY (fs.map (·.2)) n.kids=I;have HI:=hid hI;clear hI;generalize n.kind=nk at *;generalize n.text=nt at *;generalize n.kids=ks at *;cases h1:(nk != k)with
 |true=>(go_enter func238,ntmps238);go_wp2_with fail;go_ret;exact⟨rfl,J⟩
 | false=>
  cases h2:nt.toList.isEmpty with
  |false=>(go_enter func238,ntmps238);go_wp2_with fail;go_ret;exact⟨rfl,J⟩
  | true=>
   cases h3:((ks.length:Int) != (m:Int))with
   |true=>(go_enter func238,ntmps238);go_wp2_with fail;go_ret;exact⟨rfl,J⟩
   | false=>
    have O:Hid (ks.length=m):=hid (by simp at h3;omega);(go_enter func238,ntmps238);go_wp2_with fail;clear h3;go_loopg [7,8,28] m (fun g _ _ u28 wr=>∃i:Nat,i<=m/\m-i<=g/\u28=.int .i64 (i:Int)/\dY ((fs.map (·.2)).drop i) (ks.drop i)=I/\Below (w.heap.size+1) (w.alloc (.cells #[.int .i64 nk,.string nt,.slice A ks.length cp,n.pos] 41)) wr)
    case atStart=>exact⟨0,gT _,by omega,rfl,by simpa using HI.out,gC _ _⟩
    case round=>
     obtain⟨i,hi,hg,rfl,hI,q⟩:=hrel;have HI:=hid hI;have gd:=J.trans (q.mono (by omega));have h:Hid (Below (w.alloc (.cells #[.int .i64 nk,.string nt,.slice A ks.length cp,n.pos] 41)).heap.size (w.alloc (.cells #[.int .i64 nk,.string nt,.slice A ks.length cp,n.pos] 41)) wr):=hid (by simpa using q);obtain⟨x0,x1,x2,x3,_,_,_,_⟩:=ah (b1.below q (by omega));(have gh:w.heap.size+1<=wr.heap.size:=by have:=q.size;simpa using this);clear hI q;by_cases D:i<m
     ·(have ga:(i:Int)<(m:Int):=by omega);(have h0:(0:Int)<=(i:Int):=by omega);(have ge:(i:Int)<(ks.length:Int):=by rw[O.out];omega);obtain⟨_,b,off,A1,yk,rfl,hb,k0,k1,k2,k3,hn⟩:=lL.at_ (HK.out.below h.out) i (by rw[O.out];exact D);obtain⟨bf,rfl,gj,f0⟩:=(HF.out.below h.out).get i (by rw[HM.out];exact D);have z:=HS.out (fs[i]'(by rw[HM.out];exact D)) (jF _);have he:=z.enter;have HC:=hid (z.out _ _ _ h.out hn (HD.out _ (jF _)));have HE:=hid (BM (fs.map (·.2)) ks i (by rw[jN,HM.out];exact D) (by rw[O.out];exact D));simp only[List.getElem_map]at HE;generalize fs[i]'(by rw[HM.out];exact D)=ff at *;generalize ks[i]'(by rw[O.out];exact D)=x at *;clear hn z;cases hP:ff.2 x with
      |true=>
       have HX:Hid (dY ((fs.map (·.2)).drop (i+1)) (ks.drop (i+1))=I):=hid (by rw[<-HI.out,HE.out,hP];rfl);go_wp2_with fail;refine HC.out.mono ?_;rw[hP];rintro e w1⟨rfl,M⟩;have y:=aE h.out M;clear M HC;go_wp2_with fail;go_roundg (m-(i+1))
       case measure=>omega
       case rel=>exact⟨i+1,by omega,gA _,by go_num,HX.out,by simpa using y⟩
      |false=>have HX:Hid (I=false):=hid (by rw[<-HI.out,HE.out,hP];rfl);go_wp2_with fail;refine HC.out.mono ?_;rw[hP];rintro e w1⟨rfl,M⟩;have y:=aE gd M;clear M HC;go_wp2_with fail;go_ret;exact⟨by rw[HX.out];rfl,y⟩
     ·(have ga:¬ (i:Int)<(m:Int):=by omega);have h4:ks.drop i=[]:=jZ (by rw[O.out];omega);have h5:(fs.map (·.2)).drop i=[]:=jZ (by rw[jN,HM.out];omega);have HX:Hid (I=true):=hid (by rw[<-HI.out,h4,h5];rfl);clear h4 h5;go_wp2_with fail;go_ret;exact⟨by rw[HX.out];rfl,gd⟩
theorem bN(s:ByteArray)(l:List UInt8):decide (s=⟨l.toArray⟩)=(s.toList==l):=by rw[<-bW,qW ⟨l.toArray⟩]
theorem dz(s sub:ByteArray)(w:World)(hT:bQ w)(I:s.size<=2000000000):
  Calls prog 133 #[s,sub] w fun e w'=>e=.returned (.bool (Lib.contains s.data.toList sub.data.toList))/\w=w':=by obtain⟨m,D⟩:=hT;exact(Any.strings_Contains Tryz.laysContains s sub m w (by omega) D).mono fun _ _ h=>⟨h.1,h.2.symm⟩
theorem MF(s sep:ByteArray)(w:World)(hT:bQ w)(I:s.size<=2000000000):
  Calls prog 35 #[s,sep] w fun e w'=>e=.returned (.tuple #[.string ⟨(Lib.cut s.data.toList sep.data.toList).1.toArray⟩,.string ⟨(Lib.cut s.data.toList sep.data.toList).2.1.toArray⟩,.bool (Lib.cut s.data.toList sep.data.toList).2.2])/\Below w w w':=by obtain⟨m,D⟩:=hT;exact(Any.strings_Cut Tryz.laysCut s sep m w (by omega) D).mono fun _ _ h=>⟨h.1,by obtain⟨n,e⟩:=h.2;subst e;exact az (gC _ _) n⟩
theorem ss(s:ByteArray)(w:World):Calls prog 187 #[s] w fun e w'=>e=.returned (.bool (br s))/\Below w w w':=by
 (have D:br s=(decide ((s.size:Int)<=100)&&oJ s):=by unfold br;congr 1;rw[vO];omega);rw[D];have J:=hid (BJ s w);generalize oJ s=q at *;clear D;cases M:decide ((s.size:Int)<=100);all_goals
  (go_enter func187,ntmps187);go_wp2_with fail;try
   refine J.out.mono ?_
   rintro e w1⟨rfl,I⟩
   go_wp2_with fail
  go_ret;exact⟨rfl,by first|assumption|exact gC _ _⟩
theorem AH(s:ByteArray)(w:World):Calls prog 291 #[s] w fun e w'=>e=.returned (.bool (fL s))/\Below w w w':=by(have I:fL s=(br s && !(s.toList==[95])):=by unfold fL;rw[<-bN s [95],<-decide_not]);rw[I];have J:=hid (ss s w);generalize br s=q at *;clear I;cases q<;>cases M:(s.toList==[95]);all_goals(go_enter func291,ntmps291);go_wp2_with fail;refine J.out.mono ?_;rintro e w1⟨rfl,D⟩;go_wp2_with fail;go_ret;exact⟨rfl,D⟩
theorem mg{P:ByteArray->Bool}{f:FuncId}(D:∀a w,(callFunc f a).run prog w=.ok (.enter f a) w)(w0:World)
  (h:∀(s:ByteArray)(w:World),Below w0 w0 w->s.size<=1000000000->Calls prog f #[s] w fun e w'=>e=.returned (.bool (P s))/\Below w w w'):BH P ⟨f,#[]⟩ w0:=
 ⟨D,fun w s hb hs=>h s w hb hs⟩
theorem lu(w0:World):BH br ⟨187,#[]⟩ w0:=mg (fun a w=>by kernel_rfl) w0 fun s w _ _=>ss s w
theorem G9(w0:World):BH fL ⟨291,#[]⟩ w0:=mg (fun a w=>by kernel_rfl) w0 fun s w _ _=>AH s w
theorem Fq(w0:World):BH sp ⟨247,#[]⟩ w0:=mg (fun a w=>by kernel_rfl) w0 fun s w _ _=>by(have D:sp s=s.toList.isEmpty:=by unfold sp;rw[aF]);rw[D];cases I:s.toList.isEmpty;all_goals(go_enter func247,ntmps247);go_wp2_with fail;go_ret;exact⟨rfl,gC _ _⟩
theorem Ia(w0:World):BH py ⟨288,#[]⟩ w0:=mg (fun a w=>by kernel_rfl) w0 fun s w _ _=>by(have D:py s=(s.toList.isEmpty||s.toList==[126]):=by unfold py;rw[aF,bN s [126]]);rw[D];cases J:s.toList.isEmpty<;>cases I:(s.toList==[126]);all_goals(go_enter func288,ntmps288);go_wp2_with fail;go_ret;exact⟨rfl,gC _ _⟩
theorem Ib(w0:World):BH lK ⟨249,#[]⟩ w0:=mg (fun a w=>by kernel_rfl) w0 fun s w _ _=>by(have D:lK s=decide ((s.size:Int)<=1000):=by unfold lK;rw[vO];omega);rw[D];(go_enter func249,ntmps249);go_wp2_with fail;go_ret;exact⟨rfl,gC _ _⟩
theorem Ic(w0:World):BH pA ⟨250,#[]⟩ w0:=mg (fun a w=>by kernel_rfl) w0 fun s w _ _=>by(have D:pA s=(s.toList==[45]||s.toList==[33]):=by unfold pA;rw[bN s [45],bN s [33]]);rw[D];cases J:(s.toList==[45])<;>cases I:(s.toList==[33]);all_goals(go_enter func250,ntmps250);go_wp2_with fail;go_ret;exact⟨rfl,gC _ _⟩
theorem MG(w0:World):BH uu ⟨292,#[]⟩ w0:=mg (fun a w=>by kernel_rfl) w0 fun s w _ _=>by(have D:uu s=(s.toList==[43,43]||s.toList==[45,45]):=by unfold uu;rw[bN s [43,43],bN s [45,45]]);rw[D];cases J:(s.toList==[43,43])<;>cases I:(s.toList==[45,45]);all_goals(go_enter func292,ntmps292);go_wp2_with fail;go_ret;exact⟨rfl,gC _ _⟩
theorem Fr(x:ByteArray)(w:World)(hT:bQ w):
  Calls prog 133 #[.string ⟨#[32,43,32,45,32,42,32,47,32,37,32,61,61,32,33,61,32,60,32,60,61,32,62,32,62,61,32,38,38,32,124,124,32]⟩,.string x] w fun e w'=>e=.returned (.bool (Lib.contains (32::rj) x.data.toList))/\w=w':=
 dz _ x w hT (gM (show _<=100 by decide +kernel) (by omega))
theorem Fs(w0:World)(hT:bQ w0):BH mY ⟨251,#[]⟩ w0:=mg (fun a w=>by kernel_rfl) w0 fun s w hb hs=>by
 have O:=hid (hT.below hb);(have D:mY s=(!s.toList.isEmpty&&(!(Lib.contains s.data.toList [32])&&Lib.contains (32::rj) (32::(s.data.toList++[32])))):=by unfold mY;rw[aF,<-decide_not]);rw[D];clear D;have J:=hid (dz s ⟨#[32]⟩ w O.out (by omega));(have M:((⟨#[32]⟩++s++⟨#[32]⟩:ByteArray)).data.toList=32::(s.data.toList++[32]):=by simp[ByteArray.data_append]);have I:=Fr (⟨#[32]⟩++s++⟨#[32]⟩) w O.out;rw[M]at I;generalize Lib.contains (32::rj) (32::(s.data.toList++[32]))=q2 at *;have q:=hid I;rw[show(⟨#[32]⟩:BA).data.toList=[32]from rfl]at J;clear I M;cases h:Lib.contains s.data.toList [32]<;>cases D:s.toList.isEmpty;all_goals
  (go_enter func251,ntmps251);go_wp2_with fail;try
   refine J.out.mono ?_
   rw[h]
   rintro e w1⟨rfl,rfl⟩
   go_wp2_with fail
  try
   refine q.out.mono ?_
   rintro e w1⟨rfl,rfl⟩
   go_wp2_with fail
  go_ret;exact⟨rfl,gC _ _⟩
theorem Ft(w0:World)(hT:bQ w0):BH mZ ⟨259,#[]⟩ w0:=mg (fun a w=>by kernel_rfl) w0 fun s w hb hs=>by
 have HT:=hid (hT.below hb);have y:=hid (MF s ⟨#[44]⟩ w HT.out (by omega));(have x:mZ s=(s.toList.isEmpty||(((tJ s).2.2&&(br ⟨(tJ s).1.toArray⟩&&fL ⟨(tJ s).2.1.toArray⟩))||(!(tJ s).2.2&&fL ⟨(tJ s).1.toArray⟩))):=by unfold mZ;rw[aF]);rw[x];clear x;rw[show Lib.cut s.data.toList (⟨#[44]⟩:BA).data.toList=tJ s from rfl]at y;generalize tJ s=q at *;obtain⟨J,h,z⟩:=q;simp only at *;have hn:=hid (fun w=>ss ⟨J.toArray⟩ w);have O:=hid (fun w=>AH ⟨J.toArray⟩ w);have M:=hid (fun w=>AH ⟨h.toArray⟩ w);generalize br ⟨J.toArray⟩=n1 at *;generalize fL ⟨J.toArray⟩=b1 at *;generalize fL ⟨h.toArray⟩=b2 at *;cases ga:s.toList.isEmpty<;>cases z<;>cases n1<;>cases b1<;>cases b2;all_goals
  (go_enter func259,ntmps259);go_wp2_with fail;refine y.out.mono ?_;rintro e w1⟨rfl,I⟩;go_wp2_with (first
   |(go_at_call 187;with_reducible refine(hn.out _).mono ?_;rintro e w2⟨rfl,D⟩;replace I:=aE I D;clear D)
   |(go_at_call 291;with_reducible refine(M.out _).mono ?_;rintro e w2⟨rfl,D⟩;replace I:=aE I D;clear D)
   |(go_at_call 291;with_reducible refine(O.out _).mono ?_;rintro e w2⟨rfl,D⟩;replace I:=aE I D;clear D))
  go_ret;exact⟨rfl,I⟩
theorem BN(l:List UInt8):l.all mW=true↔∀j,j<l.length->aT ((l.getD j 0).toNat:Int)=true:=by
 rw[List.all_eq_true];constructor
 ·intro h j D;have:=h l[j] (jF _);rw[ln]at this;simpa[D]using this
 ·intro h x hx;obtain⟨j,D,rfl⟩:=List.mem_iff_getElem.1 hx;have:=h j D;rw[ln];simpa[D]using this
theorem MH{s:ByteArray}(h:0<s.size):decide (s.data.toList.head? ≠ some 48)=((s[0].toNat:Int) != 48):=by(have e:s.data.toList.head? = some s[0]:=by rw[List.head?_eq_getElem?,gO (by simpa using h)];rfl);rw[e,jW];simp only[ne_eq,Option.some.injEq,decide_not,vx,gH,kE];rw[<-UInt8.toNat_inj];simp only[UInt8.reduceToNat];omega
theorem Fu(s:ByteArray)(w:World):Calls prog 248 #[s] w fun e w'=>e=.returned (.bool (n4 s))/\Below w w w':=by
 have hT:n4 s=(s.data.toList.all mW&&(s.toList==[48]||(!s.toList.isEmpty&&(decide ((s.size:Int)<=200)&&decide (s.data.toList.head? ≠ some 48))))):=by
  unfold n4;rw[aF,bN s [48]];congr 3
  ·simp
  ·congr 1;rw[vO];omega
 have hN:=BN s.data.toList;rw[hT];generalize s.data.toList.all mW=nc at *;have HN:=hid hN;clear hT hN;have i1:=qJ w s 0;have i2:Below w w (w.iter s 0):=(gC _ w).alloc (gA _) _;(go_enter func248,ntmps248);go_wp2_with fail;go_loopg [4,7,8] s.size (fun g _ _ _ wr=>∃i:Nat,i<=s.size/\s.size-i<=g/\wr.heap[w.heap.size]? = some (.stringIter s i)/\Below w w wr/\(∀j,j<i->aT ((s.data.toList.getD j 0).toNat:Int)=true))
 case atStart=>exact⟨0,gT _,by omega,i1,i2,fun j hj=>by omega⟩
 case round=>
  clear i1 i2;obtain⟨i,hi,hg,hit,hB,y⟩:=hrel;have gd:=hid hit;have HA:=hid y;clear hit y;by_cases J:i<s.size
  ·have hw:=pD s i J;have ga:=nd s i J;have D:=fun ty=>qV (P:=prog) wr w.heap.size s i ty gd.out J;generalize hb:(s.data.toList.getD i 0).toNat=b at *;generalize hd:Utf8.decode s i=q at *;obtain⟨r,k⟩:=q;simp only at hw D ga;have x:aT (r:Int)=aT (b:Int)/\(aT (r:Int)=true->k=1):=by
    rcases ga with⟨e,_⟩|⟨h1,h2⟩
    ·injection e with e1 e2;subst e1 e2;exact⟨rfl,fun _=>rfl⟩
    ·rw[ee (by omega),ee (by omega)];exact⟨rfl,by simp⟩
   have I:=hid x;have ge:=hid hb;have j1:=qZ wr w.heap.size s i (i+k) gd.out;have j2:Below w w (wr.iterAt w.heap.size s (i+k)):=bx hB (gA _);generalize wr.iterAt w.heap.size s (i+k)=W1 at D j1 j2;have J1:=hid j1;clear x ga j1 hd hb;have h:aT (r:Int)=false->nc=false:=by
    intro hf;cases hn:nc with
    |false=>rfl
    |true=>have:=(HN.out.1 hn) i (by simpa using J);rw[ge.out,<-I.out.1,hf]at this;cases this
   have M:=hid h;have gg:aT (r:Int)=true->∀j,j<i+k->aT ((s.data.toList.getD j 0).toNat:Int)=true:=by
    intro hf j hj;have hk:=I.out.2 hf;by_cases e:j=i
    ·subst e;rw[ge.out,<-I.out.1,hf]
    ·exact HA.out j (by omega)
   have gj:=hid gg;clear h gg I ge HA;unfold aT at M gj;cases h1:decide ((r:Int)<48)with
   |true=>have z:=hid (M.out (by(have:decide (48<=(r:Int))=false:=by simp at h1 |-;omega);rw[this];rfl));go_wp2_with fail;go_ret;exact⟨by rw[z.out];rfl,j2⟩
   | false=>
    (have gb:decide (48<=(r:Int))=true:=by simp at h1 |-;omega);cases h2:decide (57<(r:Int))with
    |true=>have z:=hid (M.out (by(have:decide ((r:Int)<=57)=false:=by simp at h2 |-;omega);rw[this];simp));clear gb;go_wp2_with fail;go_ret;exact⟨by rw[z.out];rfl,j2⟩
    |false=>
     have gi:=hid (gj.out (by(have:decide ((r:Int)<=57)=true:=by simp at h2 |-;omega);rw[gb,this];rfl));clear gb;go_wp2_with fail;go_roundg (s.size-(i+k))
     case measure=>omega
     case rel=>exact⟨i+k,hw.2,gA _,J1.out,j2,gi.out⟩
  ·(have gh:i=s.size:=by omega);have D:=fun ty=>qL (P:=prog) wr w.heap.size s i ty gd.out J;have z:Hid (nc=true):=hid (HN.out.2 fun j hj=>HA.out j (by simp at hj;omega));clear gh;cases O:(s.toList==[48])with
   |true=>go_wp2_with fail;go_ret;exact⟨by rw[z.out,O];rfl,hB⟩
   | false=>
    cases hE:s.toList.isEmpty with
    |true=>go_wp2_with fail;go_ret;exact⟨by rw[z.out,O,hE];rfl,hB⟩
    | false=>
     cases hL:decide ((s.size:Int)<=200)with
     |false=>go_wp2_with fail;go_ret;exact⟨by rw[z.out,O,hE,hL];rfl,hB⟩
     | true=>
      have hp:0<s.size:=by
       rcases qH s.size with h0|h0
       ·(have:s.toList=[]:=by rw[qW];exact jI h0);rw[this]at hE;cases hE
       ·exact h0
      (have yk:(0:Int)<(s.size:Int):=by omega);go_wp2_with fail;go_ret;refine⟨?_,hB⟩;rw[z.out,O,hE,hL,MH hp];rfl
theorem Id(w0:World):BH n4 ⟨248,#[]⟩ w0:=mg (fun a w=>by kernel_rfl) w0 fun s w _ _=>Fu s w
end
end Go.Proofs.YtcoiialmdncpfaaGreatDoor
