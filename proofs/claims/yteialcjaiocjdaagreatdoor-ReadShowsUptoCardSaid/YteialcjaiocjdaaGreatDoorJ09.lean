/-
  Parts of the proof: Tstr Tname Tof Tall Tofk. By an AI agent.
-/
import Derived.Test.YteialcjaiocjdaaGreatDoorJ08
import Derived.Test.YteialcjaiocjdaaGreatDoorJ01
import Derived.Laws.RangeAny
import Derived.Lib.RuneCount
import Derived.Laws.Entries
open Go.Proofs.Tryz
set_option maxRecDepth 100000
set_option maxHeartbeats 8000000
namespace Go.Proofs.YteialcjaiocjdaaGreatDoor
section
open Go.RowKit Go.Lib Go.Proofs
attribute [local go_sem ↓] Go.wp_at_zero Go.wp_at_succ
theorem gQ:type_of% @Nat.zero_le:=@Nat.zero_le
theorem jX:type_of% @List.all_cons:=@List.all_cons
theorem kz:type_of% @List.drop_of_length_le:=@List.drop_of_length_le
theorem kF:type_of% @List.drop_eq_getElem_cons:=@List.drop_eq_getElem_cons
theorem kV:type_of% @decide_eq_decide:=@decide_eq_decide
theorem qF:type_of% @Go.World.iter_heap:=@Go.World.iter_heap
theorem qP:type_of% @Go.Lib.run_next_any_at:=@Go.Lib.run_next_any_at
theorem qQ:type_of% @Go.Lib.run_next_end_at:=@Go.Lib.run_next_end_at
theorem vt:type_of% @UInt8.toNat_inj:=@UInt8.toNat_inj
def aL(c:Int):Bool:=c==95||((decide (97<=c)&&decide (c<=122))||(decide (65<=c)&&decide (c<=90)))
def aC(c:Int):Bool:=decide (48<=c)&&decide (c<=57)
theorem iM(c:Int)(w:World):Calls prog 122 #[.int .i32 c] w fun e w'=>e=.returned (.bool (aL c))/\w=w':=by unfold aL;cases N:(c==95)<;>cases M:decide (97<=c)<;>cases J:decide (c<=122)<;>cases I:decide (65<=c)<;>cases D:decide (c<=90);all_goals(go_enter func122,ntmps122);go_wp2_with fail;go_ret;exact⟨rfl,rfl⟩
theorem mx(c:Int)(w:World):Calls prog 125 #[.int .i32 c] w fun e w'=>e=.returned (.bool (aC c))/\w=w':=by unfold aC;cases I:decide (48<=c)<;>cases D:decide (c<=57);all_goals(go_enter func125,ntmps125);go_wp2_with fail;go_ret;exact⟨rfl,rfl⟩
theorem bF{s x:ByteArray}(h:¬ s=x):(s.toList==x.data.toList)=false:=by rw[<-qw,cz];simpa using h
theorem Cc(s:ByteArray)(w:World):Calls prog 127 #[s] w fun e w'=>e=.returned (.int .i64 (bW s))/\w=w':=by
 by_cases O:s=(⟨#[98,114,101,97,107]⟩:BA)
 ·subst O;rw[show bW ⟨#[98,114,101,97,107]⟩=1 by decide +kernel];(go_enter func127,ntmps127);go_wp2_with fail;go_ret;exact⟨rfl,rfl⟩
 by_cases h:s=(⟨#[99,111,110,116,105,110,117,101]⟩:BA)
 ·subst h;rw[show bW ⟨#[99,111,110,116,105,110,117,101]⟩=1 by decide +kernel];clear O;(go_enter func127,ntmps127);go_wp2_with fail;go_ret;exact⟨rfl,rfl⟩
 by_cases h2:s=(⟨#[101,108,115,101]⟩:BA)
 ·subst h2;rw[show bW ⟨#[101,108,115,101]⟩=1 by decide +kernel];clear O h;(go_enter func127,ntmps127);go_wp2_with fail;go_ret;exact⟨rfl,rfl⟩
 by_cases h3:s=(⟨#[102,111,114]⟩:BA)
 ·subst h3;rw[show bW ⟨#[102,111,114]⟩=1 by decide +kernel];clear O h h2;(go_enter func127,ntmps127);go_wp2_with fail;go_ret;exact⟨rfl,rfl⟩
 by_cases h4:s=(⟨#[102,117,110,99]⟩:BA)
 ·subst h4;rw[show bW ⟨#[102,117,110,99]⟩=1 by decide +kernel];clear O h h2 h3;(go_enter func127,ntmps127);go_wp2_with fail;go_ret;exact⟨rfl,rfl⟩
 by_cases h5:s=(⟨#[105,102]⟩:BA)
 ·subst h5;rw[show bW ⟨#[105,102]⟩=1 by decide +kernel];clear O h h2 h3 h4;(go_enter func127,ntmps127);go_wp2_with fail;go_ret;exact⟨rfl,rfl⟩
 by_cases h6:s=(⟨#[105,109,112,111,114,116]⟩:BA)
 ·subst h6;rw[show bW ⟨#[105,109,112,111,114,116]⟩=1 by decide +kernel];clear O h h2 h3 h4 h5;(go_enter func127,ntmps127);go_wp2_with fail;go_ret;exact⟨rfl,rfl⟩
 by_cases h7:s=(⟨#[105,110,116,101,114,102,97,99,101]⟩:BA)
 ·subst h7;rw[show bW ⟨#[105,110,116,101,114,102,97,99,101]⟩=1 by decide +kernel];clear O h h2 h3 h4 h5 h6;(go_enter func127,ntmps127);go_wp2_with fail;go_ret;exact⟨rfl,rfl⟩
 by_cases h8:s=(⟨#[112,97,99,107,97,103,101]⟩:BA)
 ·subst h8;rw[show bW ⟨#[112,97,99,107,97,103,101]⟩=1 by decide +kernel];clear O h h2 h3 h4 h5 h6 h7;(go_enter func127,ntmps127);go_wp2_with fail;go_ret;exact⟨rfl,rfl⟩
 by_cases h9:s=(⟨#[114,97,110,103,101]⟩:BA)
 ·subst h9;rw[show bW ⟨#[114,97,110,103,101]⟩=1 by decide +kernel];clear O h h2 h3 h4 h5 h6 h7 h8;(go_enter func127,ntmps127);go_wp2_with fail;go_ret;exact⟨rfl,rfl⟩
 by_cases D:s=(⟨#[114,101,116,117,114,110]⟩:BA)
 ·subst D;rw[show bW ⟨#[114,101,116,117,114,110]⟩=1 by decide +kernel];clear O h h2 h3 h4 h5 h6 h7 h8 h9;(go_enter func127,ntmps127);go_wp2_with fail;go_ret;exact⟨rfl,rfl⟩
 by_cases I:s=(⟨#[115,116,114,117,99,116]⟩:BA)
 ·subst I;rw[show bW ⟨#[115,116,114,117,99,116]⟩=1 by decide +kernel];clear O h h2 h3 h4 h5 h6 h7 h8 h9 D;(go_enter func127,ntmps127);go_wp2_with fail;go_ret;exact⟨rfl,rfl⟩
 by_cases J:s=(⟨#[116,121,112,101]⟩:BA)
 ·subst J;rw[show bW ⟨#[116,121,112,101]⟩=1 by decide +kernel];clear O h h2 h3 h4 h5 h6 h7 h8 h9 D I;(go_enter func127,ntmps127);go_wp2_with fail;go_ret;exact⟨rfl,rfl⟩
 by_cases M:s=(⟨#[118,97,114]⟩:BA)
 ·subst M;rw[show bW ⟨#[118,97,114]⟩=1 by decide +kernel];clear O h h2 h3 h4 h5 h6 h7 h8 h9 D I J;(go_enter func127,ntmps127);go_wp2_with fail;go_ret;exact⟨rfl,rfl⟩
 by_cases N:s=(⟨#[99,97,115,101]⟩:BA)
 ·subst N;rw[show bW ⟨#[99,97,115,101]⟩=2 by decide +kernel];clear O h h2 h3 h4 h5 h6 h7 h8 h9 D I J M;(go_enter func127,ntmps127);go_wp2_with fail;go_ret;exact⟨rfl,rfl⟩
 by_cases U:s=(⟨#[99,104,97,110]⟩:BA)
 ·subst U;rw[show bW ⟨#[99,104,97,110]⟩=2 by decide +kernel];clear O h h2 h3 h4 h5 h6 h7 h8 h9 D I J M N;(go_enter func127,ntmps127);go_wp2_with fail;go_ret;exact⟨rfl,rfl⟩
 by_cases ga:s=(⟨#[99,111,110,115,116]⟩:BA)
 ·subst ga;rw[show bW ⟨#[99,111,110,115,116]⟩=2 by decide +kernel];clear O h h2 h3 h4 h5 h6 h7 h8 h9 D I J M N U;(go_enter func127,ntmps127);go_wp2_with fail;go_ret;exact⟨rfl,rfl⟩
 by_cases gb:s=(⟨#[100,101,102,97,117,108,116]⟩:BA)
 ·subst gb;rw[show bW ⟨#[100,101,102,97,117,108,116]⟩=2 by decide +kernel];clear O h h2 h3 h4 h5 h6 h7 h8 h9 D I J M N U ga;(go_enter func127,ntmps127);go_wp2_with fail;go_ret;exact⟨rfl,rfl⟩
 by_cases gd:s=(⟨#[100,101,102,101,114]⟩:BA)
 ·subst gd;rw[show bW ⟨#[100,101,102,101,114]⟩=2 by decide +kernel];clear O h h2 h3 h4 h5 h6 h7 h8 h9 D I J M N U ga gb;(go_enter func127,ntmps127);go_wp2_with fail;go_ret;exact⟨rfl,rfl⟩
 by_cases ge:s=(⟨#[102,97,108,108,116,104,114,111,117,103,104]⟩:BA)
 ·subst ge;rw[show bW ⟨#[102,97,108,108,116,104,114,111,117,103,104]⟩=2 by decide +kernel];clear O h h2 h3 h4 h5 h6 h7 h8 h9 D I J M N U ga gb gd;(go_enter func127,ntmps127);go_wp2_with fail;go_ret;exact⟨rfl,rfl⟩
 by_cases gg:s=(⟨#[103,111]⟩:BA)
 ·subst gg;rw[show bW ⟨#[103,111]⟩=2 by decide +kernel];clear O h h2 h3 h4 h5 h6 h7 h8 h9 D I J M N U ga gb gd ge;(go_enter func127,ntmps127);go_wp2_with fail;go_ret;exact⟨rfl,rfl⟩
 by_cases gh:s=(⟨#[103,111,116,111]⟩:BA)
 ·subst gh;rw[show bW ⟨#[103,111,116,111]⟩=2 by decide +kernel];clear O h h2 h3 h4 h5 h6 h7 h8 h9 D I J M N U ga gb gd ge gg;(go_enter func127,ntmps127);go_wp2_with fail;go_ret;exact⟨rfl,rfl⟩
 by_cases gi:s=(⟨#[109,97,112]⟩:BA)
 ·subst gi;rw[show bW ⟨#[109,97,112]⟩=2 by decide +kernel];clear O h h2 h3 h4 h5 h6 h7 h8 h9 D I J M N U ga gb gd ge gg gh;(go_enter func127,ntmps127);go_wp2_with fail;go_ret;exact⟨rfl,rfl⟩
 by_cases gj:s=(⟨#[115,101,108,101,99,116]⟩:BA)
 ·subst gj;rw[show bW ⟨#[115,101,108,101,99,116]⟩=2 by decide +kernel];clear O h h2 h3 h4 h5 h6 h7 h8 h9 D I J M N U ga gb gd ge gg gh gi;(go_enter func127,ntmps127);go_wp2_with fail;go_ret;exact⟨rfl,rfl⟩
 by_cases gk:s=(⟨#[115,119,105,116,99,104]⟩:BA)
 ·subst gk;rw[show bW ⟨#[115,119,105,116,99,104]⟩=2 by decide +kernel];clear O h h2 h3 h4 h5 h6 h7 h8 h9 D I J M N U ga gb gd ge gg gh gi gj;(go_enter func127,ntmps127);go_wp2_with fail;go_ret;exact⟨rfl,rfl⟩
 (have hz:bW s=0:=by simp only[bW,rl,rm,List.any_cons,List.any_nil,O,h,h2,h3,h4,h5,h6,h7,h8,h9,D,I,J,M,N,U,ga,gb,gd,ge,gg,gh,gi,gj,gk,decide_false,Bool.or_false,gW,jW]);have q0:(s.toList==[98,114,101,97,107])=false:=bF O;have q1:(s.toList==[99,111,110,116,105,110,117,101])=false:=bF h;have q2:(s.toList==[101,108,115,101])=false:=bF h2;have q3:(s.toList==[102,111,114])=false:=bF h3;have q4:(s.toList==[102,117,110,99])=false:=bF h4;have q5:(s.toList==[105,102])=false:=bF h5;have q6:(s.toList==[105,109,112,111,114,116])=false:=bF h6;have q7:(s.toList==[105,110,116,101,114,102,97,99,101])=false:=bF h7;have q8:(s.toList==[112,97,99,107,97,103,101])=false:=bF h8;have q9:(s.toList==[114,97,110,103,101])=false:=bF h9;have g0:(s.toList==[114,101,116,117,114,110])=false:=bF D;have gz:(s.toList==[115,116,114,117,99,116])=false:=bF I;have gy:(s.toList==[116,121,112,101])=false:=bF J;have gx:(s.toList==[118,97,114])=false:=bF M;have gw:(s.toList==[99,97,115,101])=false:=bF N;have gv:(s.toList==[99,104,97,110])=false:=bF U;have gu:(s.toList==[99,111,110,115,116])=false:=bF ga;have gt:(s.toList==[100,101,102,97,117,108,116])=false:=bF gb;have gs:(s.toList==[100,101,102,101,114])=false:=bF gd;have gr:(s.toList==[102,97,108,108,116,104,114,111,117,103,104])=false:=bF ge;have gq:(s.toList==[103,111])=false:=bF gg;have gp:(s.toList==[103,111,116,111])=false:=bF gh;have gn:(s.toList==[109,97,112])=false:=bF gi;have gm:(s.toList==[115,101,108,101,99,116])=false:=bF gj;have gl:(s.toList==[115,119,105,116,99,104])=false:=bF gk;rw[hz];clear hz O h h2 h3 h4 h5 h6 h7 h8 h9 D I J M N U ga gb gd ge gg gh gi gj gk;(go_enter func127,ntmps127);go_wp2_with fail;go_ret;exact⟨rfl,rfl⟩
theorem eD{w wr:World}{b:Nat}{s:ByteArray}{k:Nat}{B:Nat}(h:Below B w wr)(hb:B<=b):Below B w (wr.iterAt b s k):=
 ⟨h.os,h.tape,h.output,by rw[iterAt_size];exact h.size,fun j hj=>(iterAt_other wr _ _ s _ (by omega)).trans (h.block j hj)⟩
theorem ro(s:ByteArray)(i:Nat)(h:i<s.size):1<=(Utf8.decode s i).2/\i+(Utf8.decode s i).2<=s.size:=by simp only[Utf8.decode];(repeat' split);(all_goals simp_all);all_goals omega
def O2(s:ByteArray)(j:Nat):Bool:=aL ((s.data.toList.getD j 0).toNat:Int)||(decide (0<j)&&aC ((s.data.toList.getD j 0).toNat:Int))
theorem me(c:UInt8):lI c=aL (c.toNat:Int):=by unfold lI aL;rw[kT];simp[UInt8.le_iff_toNat_le,<-UInt8.toNat_inj];omega
theorem fj(c:UInt8):dY c=aC (c.toNat:Int):=by unfold dY aC;rw[kT];simp[UInt8.le_iff_toNat_le];omega
theorem rb(l:List UInt8):cO l=true↔∀j,j<l.length->(aL ((l.getD j 0).toNat:Int)||(decide (0<j)&&aC ((l.getD j 0).toNat:Int)))=true:=by
 cases l with
 |nil=>simp[cO]
 | cons c r=>
  unfold cO;rw[gA,qo];constructor
  ·rintro⟨M,J⟩j D;cases j with
   |zero=>simp[<-me,M]
   |succ j=>(have I:j<r.length:=by simpa using D);have:=J r[j] (gS _);rw[me,fj]at this;simpa[I]using this
  ·intro h;refine⟨by have:=h 0 (by simp);simpa[<-me]using this,fun x hx=>?_⟩;obtain⟨j,D,rfl⟩:=List.mem_iff_getElem.1 hx;have:=h (j+1) (by simpa using D);rw[me,fj];simpa[D]using this
theorem l6{c:Int}(h:128<=c):aL c=false:=by unfold aL;(have J:(c==95)=false:=by simp;omega);(have I:decide (c<=122)=false:=by simp;omega);(have D:decide (c<=90)=false:=by simp;omega);rw[J,I,D];simp
theorem fo{c:Int}(h:128<=c):aC c=false:=by unfold aC;(have D:decide (c<=57)=false:=by simp;omega);rw[D];simp
theorem od(s:ByteArray)(i:Nat)(h:i<s.size):(Utf8.decode s i=((s.data.toList.getD i 0).toNat,1)/\(s.data.toList.getD i 0).toNat<128)\/(128<=(Utf8.decode s i).1/\128<=(s.data.toList.getD i 0).toNat):=by
 (have e:s.data.toList.getD i 0=s[i]:=by rw[jB,gT (by simpa using h)];rfl);rw[e];rcases kL s[i].toNat 128 with D|D
 ·exact .inl ⟨decode_ascii s i h D,D⟩
 ·exact .inr ⟨(Go.decode_high s i h D).1,D⟩
def o5(i:Nat)(c:Int):Bool:=aL c||(decide (0<i)&&aC c)
theorem Cd(s:ByteArray)(w:World):Calls prog 139 #[s] w fun e w'=>e=.returned (.bool (dZ s))/\Below w w w':=by
 (have hT:dZ s=(cO s.data.toList&&(!s.toList.isEmpty&&(bW s==0))):=by unfold dZ;rw[ao,fZ];congr 2;rw[kT];simp);have hN:=rb s.data.toList;rw[hT];generalize cO s.data.toList=nc at *;have HN:=hid hN;clear hT hN;have i1:=qF w s 0;have i2:Below w w (w.iter s 0):=(gH _ w).alloc (gC _) _;(go_enter func139,ntmps139);go_wp2_with fail;go_loopg [3,4,7,8] s.size (fun g _ _ _ _ wr=>∃i:Nat,i<=s.size/\s.size-i<=g/\wr.heap[w.heap.size]? = some (.stringIter s i)/\Below w w wr/\(∀j,j<i->O2 s j=true))
 case atStart=>exact⟨0,gQ _,by omega,i1,i2,fun j hj=>by omega⟩
 case round=>
  clear i1 i2;obtain⟨i,hi,hg,hit,hB,ga⟩:=hrel;have gg:=hid hit;have HA:=hid ga;clear hit ga;by_cases M:i<s.size
  ·have hw:=ro s i M;have gd:=od s i M;have I:=fun ty=>qP (P:=prog) wr w.heap.size s i ty gg.out M;have gi:O2 s i=o5 i ((s.data.toList.getD i 0).toNat:Int):=rfl;generalize hb:(s.data.toList.getD i 0).toNat=b at *;generalize hd:Utf8.decode s i=q at *;obtain⟨r,k⟩:=q;simp only at hw I gd;have h:o5 i (r:Int)=o5 i (b:Int)/\(o5 i (r:Int)=true->k=1):=by
    rcases gd with⟨e,_⟩|⟨h1,h2⟩
    ·injection e with e1 e2;subst e1 e2;exact⟨rfl,fun _=>rfl⟩
    ·unfold o5;rw[l6 (by omega),l6 (by omega),fo (by omega),fo (by omega)];exact⟨rfl,by simp⟩
   have ge:=hid gi;have J:=hid h;have j1:=iterAt_heap wr w.heap.size s i (i+k) gg.out;have j2:Below w w (wr.iterAt w.heap.size s (i+k)):=eD hB (gC _);generalize wr.iterAt w.heap.size s (i+k)=W1 at I j1 j2;have J1:=hid j1;clear gi h gd j1 hd hb;have U:o5 i (r:Int)=false->nc=false:=by
    intro hf;cases hn:nc with
    |false=>rfl
    |true=>have:=(HN.out.1 hn) i (by simpa using M);rw[show(aL ((s.data.toList.getD i 0).toNat:Int)||(decide (0<i)&&aC ((s.data.toList.getD i 0).toNat:Int)))=O2 s i from rfl,ge.out,<-J.out.1,hf]at this;cases this
   have O:=hid U;have gj:o5 i (r:Int)=true->k=1/\∀j,j<i+k->O2 s j=true:=by
    intro hf;have hk:=J.out.2 hf;refine⟨hk,fun j hj=>?_⟩;by_cases e:j=i
    ·subst e;rw[ge.out,<-J.out.1,hf]
    ·exact HA.out j (by omega)
   have gh:=hid gj;clear U gj J ge HA;unfold o5 at O gh;cases hL:aL (r:Int)with
   |true=>
    obtain⟨_,D⟩:=gh.out (by rw[hL];rfl);have N:=hid D;clear D;go_wp2_with fail;refine(iM _ _).mono ?_;rw[hL];rintro e w1⟨rfl,rfl⟩;go_wp2_with fail;go_roundg (s.size-(i+k))
    case measure=>omega
    case rel=>exact⟨i+k,hw.2,gC _,J1.out,j2,N.out⟩
   | false=>
    by_cases hz:i=0
    ·have HX:=hid (O.out (by rw[hL,hz];rfl));(have gl:((i:Int)==0)=true:=by simp[hz]);clear hz;go_wp2_with fail;refine(iM _ _).mono ?_;rw[hL];rintro e w1⟨rfl,rfl⟩;go_wp2_with fail;go_ret;exact⟨by rw[HX.out];rfl,j2⟩
    ·(have gl:((i:Int)==0)=false:=by simp;omega);(have gb:decide (0<i)=true:=by simp;omega);cases hF:aC (r:Int)with
     |true=>
      obtain⟨_,D⟩:=gh.out (by rw[hL,hF,gb];rfl);have N:=hid D;clear D gb hz;go_wp2_with fail;refine(iM _ _).mono ?_;rw[hL];rintro e w1⟨rfl,rfl⟩;go_wp2_with fail;refine(mx _ _).mono ?_;rw[hF];rintro e w1⟨rfl,rfl⟩;go_wp2_with fail;go_roundg (s.size-(i+k))
      case measure=>omega
      case rel=>exact⟨i+k,hw.2,gC _,J1.out,j2,N.out⟩
     |false=>have HX:=hid (O.out (by rw[hL,hF];simp));clear gb hz;go_wp2_with fail;refine(iM _ _).mono ?_;rw[hL];rintro e w1⟨rfl,rfl⟩;go_wp2_with fail;refine(mx _ _).mono ?_;rw[hF];rintro e w1⟨rfl,rfl⟩;go_wp2_with fail;go_ret;exact⟨by rw[HX.out];rfl,j2⟩
  ·(have yk:i=s.size:=by omega);have I:=fun ty=>qQ (P:=prog) wr w.heap.size s i ty gg.out M;have HX:Hid (nc=true):=hid (HN.out.2 fun j hj=>HA.out j (by simp at hj;omega));clear yk;cases hE:s.toList.isEmpty with
   |true=>go_wp2_with fail;go_ret;exact⟨by rw[HX.out,hE];rfl,hB⟩
   |false=>go_wp2_with fail;refine(Cc _ _).mono ?_;rintro e w1⟨rfl,rfl⟩;go_wp2_with fail;go_ret;exact⟨by rw[HX.out,hE];rfl,hB⟩
theorem sO(w:World)(v:Value)(n:Nd)(D:aF w v n):Calls prog 162 #[v] w fun e w'=>e=.returned (.bool (an n))/\Below w w w':=by obtain⟨A,cp,rfl,I⟩:=D.toC;(have hE:an n=(n.kind==0&&(n.text.toList.isEmpty&&((n.kids.length:Int)==0))):=by unfold an;rw[ao,fZ,fZ];congr 2;rw[kV];omega);rw[hE];generalize hl:(n.kids.length:Int)=m at *;generalize n.kind=k at *;generalize n.text=t at *;clear hE D I;cases N:(k==0)<;>cases M:t.toList.isEmpty<;>cases J:(m==0);all_goals(go_enter func162,ntmps162);go_wp2_with fail;go_ret;refine⟨rfl,?_⟩;exact bel
theorem af.retext{X:Nat->Prop}{w:World}{k:Value}{t p:Value}{A:Option Addr}{c:Nat}{n:Nd}(h:af X w (.agg #[k,t,.slice A n.kids.length c,p]) n)(x:ByteArray):
  af X w (.agg #[n.kind,x,.slice A n.kids.length c,n.pos]) (.mk n.kind x n.kids n.pos):=by obtain⟨M,c1,xs,e,J,I,D⟩:=h;injection e with e;injection e with e;simp only[qx,vy]at e;obtain⟨_,_,e,_⟩:=e;injection e with e1 _ e3;subst e1 e3;exact⟨A,c,xs,rfl,J,I,D⟩
def TH(w:World)(n:Nd)(e:Ending)(w':World):Prop:=∃v,e=.returned v/\aF w' v n/\Below w w w'
theorem cP(w:World)(v:Value)(n:Nd)(M:aF w v n)(f:Fv)(P:ByteArray->Bool)(hs:Cb P f w)(ht:n.text.size<=1000000000):
  Calls prog 143 #[v,.func (.func f.k) #[] f.cap] w (TH w (aw P n)):=by
 have I:=M;obtain⟨A,cp,rfl,hC⟩:=M.toC;have he:=hs.enter;have HS:=hid hs;have hB:=((gH w.heap.size w).alloc (gC _) (.cells #[n.kind,n.text,.slice A n.kids.length cp,n.pos] 24)).alloc (by simp) (.cells bJ 24);have h:aq ((w.alloc (.cells #[n.kind,n.text,.slice A n.kids.length cp,n.pos] 24)).alloc (.cells bJ 24)) w.heap.size 24 #[n.kind,n.text,.slice A n.kids.length cp,n.pos]:=(aq.new w _ _).alloc _;have U:aq ((w.alloc (.cells #[n.kind,n.text,.slice A n.kids.length cp,n.pos] 24)).alloc (.cells bJ 24)) (w.heap.size+1) 24 bJ:=aq.new_at (by simp) _ _;have N:=hid I;clear I M hC hs;(go_enter func143,ntmps143);go_wp2_with fail;refine(HS.out.out _ _ hB ht).mono ?_;rintro e w1⟨rfl,D⟩;have c1:=h.below D (by simp;omega);have c2:=U.below D (by simp);have gb:=au hB D;clear h U hB D he HS;obtain⟨x0,x1,x2,x3,y0,y1,y2,y3⟩:=ab c1;obtain⟨z0,z1,z2,z3,u0,u1,u2,u3⟩:=ab c2;(have ga:w.heap.size+1≠w.heap.size:=by omega);cases J:P n.text with
 |true=>have O:Hid (aw P n=.mk n.kind ⟨#[]⟩ n.kids n.pos):=hid (by unfold aw;rw[J];rfl);clear J;go_wp2_with fail;have hb:aq (dT (w1.setCell ⟨w,1,none⟩ (.string ⟨#[]⟩)) (w.heap.size+1) (.int .i64 n.kind) (.string ⟨#[]⟩) (.slice A n.kids.length cp) (.int .i64 n.pos)) (w.heap.size+1) 24 #[.int .i64 n.kind,.string ⟨#[]⟩,.slice A n.kids.length cp,.int .i64 n.pos]:=dy (c2.far (p:=⟨w,1,none⟩) (by show w.heap.size+1≠w.heap.size;omega) _) _ _ _ _;refine jY (eB rfl _ (by rfl) hb) rfl ?_;rw[O.out];exact⟨_,rfl,(af.retext N.out ⟨#[]⟩).below rk,rk⟩
 |false=>have O:Hid (aw P n=.mk 37 ⟨#[]⟩ [] 0):=hid (by unfold aw;rw[J];rfl);clear J;go_wp2_with fail;have hb:aq (dT w1 (w.heap.size+1) (.int .i64 37) (.string ⟨#[]⟩) (.slice none 0 0) (.int .i64 0)) (w.heap.size+1) 24 #[.int .i64 37,.string ⟨#[]⟩,.slice none 0 0,.int .i64 0]:=dy c2 _ _ _ _;refine jY (eB rfl _ (by rfl) hb) rfl ?_;rw[O.out];exact⟨_,rfl,af.leaf _ _ _,rk⟩
theorem ce{w:World}{g:Nat}{t:TypeId}{a:Value}(h:aq w g t #[a]):w.cell? ⟨g,0,none⟩=some a:=by have c0:=h.cell 0;simp at c0;exact c0
theorem O3(d:Nat)(P Q:Nd->Bool)(f g:Fv)(w0:World)(hf:ob d P f w0)(hg:ob d Q g w0)(a b:Nat)
  (ha:aq w0 a 39 #[.func (.func f.k) #[] f.cap])(hb:aq w0 b 39 #[.func (.func g.k) #[] g.cap]):
  ob d (ck P Q) ⟨198,#[a,b]⟩ w0:=by
 refine⟨fun a w=>by kernel_rfl,fun w v n hw hv hd=>?_⟩;have gg:=hf.enter;have ge:=hg.enter;have J:=hv;obtain⟨A,cp,rfl,hC⟩:=hv.toC;have hB:=(aj w #[n.kind,n.text,.slice A n.kids.length cp,n.pos]).1;have I:=hw.alloc hw.size (.cells #[n.kind,n.text,.slice A n.kids.length cp,n.pos] 24);have b1:=(aj w #[n.kind,n.text,.slice A n.kids.length cp,n.pos]).2;have ca:=ce (ha.bl I);have HF:=hid (hf.out _ _ n I (J.below hB) hd);have h:=hb.lt;have HV:=hid (J.below hB);have HG:=hid hg;have gb:=hid hb;have gd:=hw.size;show Calls _ _ _ w fun e w'=>e=.returned (.bool (P n||Q n))/\_;clear hf hg J hv hC ha hb;(go_enter func198,ntmps198);go_wp2_with fail;refine HF.out.mono ?_;rintro e w1⟨rfl,D⟩;have N:=au I D;have cb:=ce (gb.out.below N h);obtain⟨x0,x1,x2,x3,_,_,_,_⟩:=ab (b1.below D (by simp));have U:=hid (HG.out.out _ _ n N (HV.out.below D) hd);have M:=au hB D;clear D hB b1 I ca HF;cases hP:P n with
 |true=>go_wp2_with fail;go_ret;exact⟨by rw[hP];rfl,M⟩
 |false=>go_wp2_with fail;refine U.out.mono ?_;rintro e w2⟨rfl,O⟩;have ga:=au M O;clear O U M;go_wp2_with fail;go_ret;exact⟨by rw[hP];rfl,ga⟩
theorem ip(d:Nat)(P Q:Nd->Bool)(f g:Fv)(w:World)(I:ob d P f w)(D:ob d Q g w):
  Calls prog 146 #[.func (.func f.k) #[] f.cap,.func (.func g.k) #[] g.cap] w fun e w'=>∃h:Fv,e=.returned (.func (.func h.k) #[] h.cap)/\ob d (ck P Q) h w'/\Below w w w':=by have O:=hid I;have N:=hid D;have hB:=((gH w.heap.size w).alloc (gC _) (.cells #[.func (.func f.k) #[] f.cap] 39)).alloc (by simp) (.cells #[.func (.func g.k) #[] g.cap] 39);have M:aq ((w.alloc (.cells #[.func (.func f.k) #[] f.cap] 39)).alloc (.cells #[.func (.func g.k) #[] g.cap] 39)) w.heap.size 39 #[.func (.func f.k) #[] f.cap]:=(aq.new w _ _).alloc _;have J:aq ((w.alloc (.cells #[.func (.func f.k) #[] f.cap] 39)).alloc (.cells #[.func (.func g.k) #[] g.cap] 39)) (w.heap.size+1) 39 #[.func (.func g.k) #[] g.cap]:=aq.new_at (by simp) _ _;clear I D;(go_enter func146,ntmps146);go_wp2_with fail;go_ret;exact⟨⟨198,#[w,.pointer (some ⟨w.heap.size+1,0,none⟩)]⟩,rfl,O3 d P Q f g _ (O.out.below hB) (N.out.below hB) _ _ M J,hB⟩
theorem lA.at_{w:World}{A:Option Addr}{n c:Nat}{l:List Nd}(h:lA w (.slice A n c) l)(i:Nat)(J:i<l.length):
  n = l.length/\∃b off D cp,A=some ⟨b,off,none⟩/\b<w.heap.size/\w.cell? ⟨b,off+i*4,none⟩=some (.int .i64 l[i].kind)/\w.cell? ⟨b,off+i*4+1,none⟩=some (.string l[i].text) /\
    w.cell? ⟨b,off+i*4+2,none⟩=some (.slice D l[i].kids.length cp)/\w.cell? ⟨b,off+i*4+3,none⟩=some (.int .i64 l[i].pos) /\
    aF w (.agg #[.int .i64 l[i].kind,.string l[i].text,.slice D l[i].kids.length cp,.int .i64 l[i].pos]) l[i]:=by(have I:n=l.length:=by obtain⟨_,_,_,e,_⟩:=h;injection e);obtain⟨b,off,D,cp,e,_,h1,h2,U,O,N,M⟩:=h.kid i J;exact⟨I,b,off,D,cp,e,h1,h2,U,O,N,M⟩
def yy(P:Nd->Bool):List Nd->Nat->Int
 |[],_ =>-1
 |n::l,i=>if P n then(i:Int)else yy P l (i+1)
theorem Ce(P:Nd->Bool):∀(l:List Nd)(i:Nat),decide (0<=yy P l i)=l.any P
 |[],i=>rfl
 |n::l,i=>by
  rw[yy,List.any_cons];cases D:P n with
  |true=>simp
  |false=>simpa using Ce P l (i+1)
theorem GA(P:Nd->Bool)(l:List Nd)(i:Nat)(D:i<l.length):yy P (l.drop i) i=if P l[i]then(i:Int)else yy P (l.drop (i+1)) (i+1):=by rw[kF D,yy]
theorem yz(d:Nat)(P:Nd->Bool)(f:Fv)(A:Option Addr)(c:Nat)(l:List Nd)(w:World)(hv:lA w (.slice A l.length c) l)(hd:∀n∈l,df d n)(hl:l.length<=1000000000)(hf:ob d P f w):
  Calls prog 194 #[.slice A l.length c,.func (.func f.k) #[] f.cap] w fun e w'=>e=.returned (.int .i64 (yy P l 0))/\Below w w w':=by
 have he:=hf.enter;have HF:=hid hf;have HV:=hid hv;have HD:=hid hd;generalize U:yy P l 0=I;have HI:=hid U;clear hf hv hd U;(go_enter func194,ntmps194);go_wp2_with fail;go_loopg [5,8] l.length (fun g _ u8 wr=>∃i:Nat,i<=l.length/\l.length-i<=g/\u8=.int .i64 (i:Int)/\yy P (l.drop i) i=I/\Below w w wr)
 case atStart=>exact⟨0,gQ _,by omega,rfl,by simpa using HI.out,gH _ _⟩
 case round=>
  obtain⟨i,hi,hg,rfl,U,hB⟩:=hrel;have HI:=hid U;clear U;by_cases M:i<l.length
  ·(have O:(i:Int)<(l.length:Int):=by omega);(have h0:(0:Int)<=(i:Int):=by omega);obtain⟨_,b,off,A1,cp,rfl,hb,k0,k1,k2,k3,hn⟩:=lA.at_ (HV.out.below hB) i M;have HC:=hid (HF.out.out _ _ l[i] hB hn (HD.out _ (gS M)));have HE:=hid (GA P l i M);generalize l[i]=x at *;clear hn;cases hP:P x with
   |true=>have h:=hid (show I=(i:Int)by rw[<-HI.out,HE.out,hP];rfl);go_wp2_with fail;refine HC.out.mono ?_;rw[hP];rintro e w1⟨rfl,D⟩;have N:=au hB D;clear D HC;go_wp2_with fail;go_ret;exact⟨by rw[h.out];rfl,N⟩
   |false=>
    have h:Hid (yy P (l.drop (i+1)) (i+1)=I):=hid (by rw[<-HI.out,HE.out,hP];rfl);go_wp2_with fail;refine HC.out.mono ?_;rw[hP];rintro e w1⟨rfl,D⟩;have N:=au hB D;clear D HC;go_wp2_with fail;go_roundg (l.length-(i+1))
    case measure=>omega
    case rel=>exact⟨i+1,by omega,gC _,by go_num,h.out,N⟩
  ·(have O:¬ (i:Int)<(l.length:Int):=by omega);have J:l.drop i=[]:=kz (by omega);have h:Hid (I = -1):=hid (by rw[<-HI.out,J];rfl);clear J;go_wp2_with fail;go_ret;exact⟨by rw[h.out];rfl,hB⟩
theorem sP(d:Nat)(P:Nd->Bool)(f:Fv)(A:Option Addr)(c:Nat)(l:List Nd)(w:World)(I:lA w (.slice A l.length c) l)(hd:∀n∈l,df d n)(M:l.length<=1000000000)(J:ob d P f w):
  Calls prog 140 #[.slice A l.length c,.func (.func f.k) #[] f.cap] w fun e w'=>e=.returned (.bool (l.any P))/\Below w w w':=by have N:=hid (yz d P f A c l w I hd M J);rw[<-Ce P l 0];clear I hd J;(go_enter func140,ntmps140);go_wp2_with fail;refine N.out.mono ?_;rintro e w1⟨rfl,D⟩;go_wp2_with fail;go_ret;exact⟨rfl,D⟩
theorem Lk(d:Nat)(P:Nd->Bool)(f:Fv)(w0:World)(M:ob d P f w0)(a:Nat)(N:aq w0 a 39 #[.func (.func f.k) #[] f.cap]):
  ob d (fun n =>!P n) ⟨141,#[a]⟩ w0:=by refine⟨fun a w=>by kernel_rfl,fun w v n hw hv hd=>?_⟩;have gb:=M.enter;have J:=hv;obtain⟨A,cp,rfl,hC⟩:=hv.toC;have hB:=(aj w #[n.kind,n.text,.slice A n.kids.length cp,n.pos]).1;have D:=hw.alloc hw.size (.cells #[n.kind,n.text,.slice A n.kids.length cp,n.pos] 24);have ca:=ce (N.bl D);have U:=hid (M.out _ _ n D (J.below hB) hd);have ga:=N.lt;have h:=hw.size;show Calls _ _ _ w fun e w'=>e=.returned (.bool (!P n))/\_;clear M J hv hC N;(go_enter func141,ntmps141);go_wp2_with fail;refine U.out.mono ?_;rintro e w1⟨rfl,I⟩;have O:=au hB I;clear I hB D ca U;go_wp2_with fail;go_ret;exact⟨rfl,O⟩
theorem O4(P:Nd->Bool)(l:List Nd):(!(l.any fun n =>!P n))=l.all P:=by
 induction l with
 |nil=>rfl
 |cons n l ih=>rw[List.any_cons,jX,<-ih];cases P n<;>simp
theorem lj(d:Nat)(P:Nd->Bool)(f:Fv)(A:Option Addr)(c:Nat)(l:List Nd)(w:World)(J:lA w (.slice A l.length c) l)(hd:∀n∈l,df d n)(O:l.length<=1000000000)(M:ob d P f w):
  Calls prog 98 #[.slice A l.length c,.func (.func f.k) #[] f.cap] w fun e w'=>e=.returned (.bool (l.all P))/\Below w w w':=by have hB:=(gH w.heap.size w).alloc (gC _) (.cells #[.func (.func f.k) #[] f.cap] 39);have N:=aq.new w 39 #[.func (.func f.k) #[] f.cap];have U:=hid (sP d (fun n =>!P n) ⟨141,#[w]⟩ A c l _ (J.below hB) hd O (Lk d P f _ (M.below hB) _ N));(have h:∀a w,(callFunc 141 a).run prog w=.ok (.enter 141 a) w:=fun a w=>by kernel_rfl);rw[<-O4 P l];clear J hd M N;(go_enter func98,ntmps98);go_wp2_with fail;refine U.out.mono ?_;rintro e w1⟨rfl,D⟩;have I:=au hB D;clear D hB;go_wp2_with fail;go_ret;exact⟨rfl,I⟩
theorem Cf(d:Nat)(P:Nd->Bool)(f:Fv)(v:Value)(n:Nd)(w:World)(J:aF w v n)(hd:df (d+1) n)(M:ob d P f w):
  Calls prog 196 #[v,.func (.func f.k) #[] f.cap] w fun e w'=>e=.returned (.bool (iv P n))/\Below w w w':=by
 have I:=J;obtain⟨A,cp,rfl,N⟩:=J.toC;have hB:=(aj w #[n.kind,n.text,.slice A n.kids.length cp,n.pos]).1;have U:=hid (lj d P f A cp n.kids _ (I.below hB).kidsV hd.2 hd.1.1 (M.below hB));(have hE:iv P n=(n.kind==6&&(n.text.toList.isEmpty&&n.kids.all P)):=by unfold iv;rw[ao,fZ]);rw[hE];clear hE I J N hd M;generalize n.kids.all P=q at *;generalize n.kind=k at *;generalize n.text=t at *;cases h1:(k==6)<;>cases h:t.toList.isEmpty;all_goals
  (go_enter func196,ntmps196);go_wp2_with fail;try
   refine U.out.mono ?_
   rintro e w1⟨rfl,D⟩
   have O:=au hB D
   clear D
   go_wp2_with fail
  go_ret;exact⟨rfl,by assumption⟩
theorem rp:∀(l:List (Nd->Bool))(ns:List Nd),l.length≠ns.length->a6 l ns=false
 |[],[],h=>absurd rfl h
 |[],_::_,_=>rfl
 |_::_,[],_=>rfl
 |p::l,n::ns,h=>by rw[a6,rp l ns (by simpa using h)];simp
theorem Cg(l:List (Nd->Bool))(ns:List Nd)(i:Nat)(I:i<l.length)(D:i<ns.length):a6 (l.drop i) (ns.drop i)=(l[i] ns[i]&&a6 (l.drop (i+1)) (ns.drop (i+1))):=by rw[kF I,kF D,a6]
def ei(w:World)(B:Option Addr)(fs:List (Fv×(Nd->Bool))):Prop:=
 (fs=[]/\B=none)\/∃b,B=some ⟨b,0,none⟩/\aq w b 39 (fs.map fun x=>Value.func (.func x.1.k) #[] x.1.cap).toArray
theorem ei.below{w w':World}{B:Option Addr}{fs:List (Fv×(Nd->Bool))}(h:ei w B fs)(hb:Below w w w'):ei w' B fs:=by
 rcases h with h|⟨b,e,h⟩
 ·exact .inl h
 ·exact .inr ⟨b,e,h.bl hb⟩
theorem ei.get{w:World}{B:Option Addr}{fs:List (Fv×(Nd->Bool))}(h:ei w B fs)(i:Nat)(D:i<fs.length):∃b,B=some ⟨b,0,none⟩/\b<w.heap.size/\w.cell? ⟨b,i,none⟩=some (.func (.func fs[i].1.k) #[] fs[i].1.cap):=by
 rcases h with⟨rfl,_⟩|⟨b,e,h⟩
 ·simp at D
 ·refine⟨b,e,h.lt,?_⟩;rw[h.cell i];simp[D]
theorem cx(d:Nat)(fs:List (Fv×(Nd->Bool)))(k:Int)(v:Value)(n:Nd)(B:Option Addr)(w:World)(m:Nat)(hm:fs.length=m)(gi:m<=9)
  (hv:aF w v n)(hd:df (d+1) n)(hB:ei w B fs)(hs:∀x∈fs,ob d x.2 x.1 w):
  Calls prog 142 #[v,k,.slice B m m] w fun e w'=>e=.returned (.bool (cE k (fs.map (·.2)) n))/\Below w w w':=by
 have gb:=hv;obtain⟨A,cp,rfl,hC⟩:=hv.toC;have J:=(aj w #[n.kind,n.text,.slice A n.kids.length cp,n.pos]).1;have b1:=(aj w #[n.kind,n.text,.slice A n.kids.length cp,n.pos]).2;have HK:=hid (af.kidsV (gb.below J));have HF:=hid (hB.below J);have HS:=hid (fun x hx=>(hs x hx).below J);have HM:=hid hm;have HD:=hid hd.2;have gg:=hd.1.1;have hE:cE k (fs.map (·.2)) n=(!(n.kind != k)&&(!(!n.text.toList.isEmpty)&&(!((n.kids.length:Int) != (m:Int))&&a6 (fs.map (·.2)) n.kids))):=by
  unfold cE;rw[ao];by_cases h3:n.kids.length=m
  ·(have:((n.kids.length:Int) != (m:Int))=false:=by simp[h3]);rw[this];simp[bne,fZ]
  ·(have h4:((n.kids.length:Int) != (m:Int))=true:=by simp;omega);rw[h4,rp (fs.map (·.2)) n.kids (by rw[jR];omega)];simp
 rw[hE];clear hE gb hv hC hd hB hs hm;generalize hI:a6 (fs.map (·.2)) n.kids=I;have HI:=hid hI;clear hI;generalize n.kind=nk at *;generalize n.text=nt at *;generalize n.kids=ks at *;cases h1:(nk != k)with
 |true=>(go_enter func142,ntmps142);go_wp2_with fail;go_ret;exact⟨rfl,J⟩
 | false=>
  cases h2:nt.toList.isEmpty with
  |false=>(go_enter func142,ntmps142);go_wp2_with fail;go_ret;exact⟨rfl,J⟩
  | true=>
   cases h3:((ks.length:Int) != (m:Int))with
   |true=>(go_enter func142,ntmps142);go_wp2_with fail;go_ret;exact⟨rfl,J⟩
   | false=>
    have N:Hid (ks.length=m):=hid (by simp at h3;omega);(go_enter func142,ntmps142);go_wp2_with fail;clear h3;go_loopg [7,8,28] m (fun g _ _ u28 wr=>∃i:Nat,i<=m/\m-i<=g/\u28=.int .i64 (i:Int)/\a6 ((fs.map (·.2)).drop i) (ks.drop i)=I/\Below (w.heap.size+1) (w.alloc (.cells #[.int .i64 nk,.string nt,.slice A ks.length cp,n.pos] 24)) wr)
    case atStart=>exact⟨0,gQ _,by omega,rfl,by simpa using HI.out,gH _ _⟩
    case round=>
     obtain⟨i,hi,hg,rfl,hI,hB⟩:=hrel;have HI:=hid hI;have gd:=J.trans (hB.mono (by omega));have O:Hid (Below (w.alloc (.cells #[.int .i64 nk,.string nt,.slice A ks.length cp,n.pos] 24)).heap.size (w.alloc (.cells #[.int .i64 nk,.string nt,.slice A ks.length cp,n.pos] 24)) wr):=hid (by simpa using hB);obtain⟨x0,x1,x2,x3,_,_,_,_⟩:=ab (b1.below hB (by omega));(have gh:w.heap.size+1<=wr.heap.size:=by have:=hB.size;simpa using this);clear hI hB;by_cases D:i<m
     ·(have ga:(i:Int)<(m:Int):=by omega);(have h0:(0:Int)<=(i:Int):=by omega);(have ge:(i:Int)<(ks.length:Int):=by rw[N.out];omega);obtain⟨_,b,off,A1,yk,rfl,hb,k0,k1,k2,k3,hn⟩:=lA.at_ (HK.out.below O.out) i (by rw[N.out];exact D);obtain⟨bf,rfl,gj,f0⟩:=(HF.out.below O.out).get i (by rw[HM.out];exact D);have h:=HS.out (fs[i]'(by rw[HM.out];exact D)) (gS _);have he:=h.enter;have HC:=hid (h.out _ _ _ O.out hn (HD.out _ (gS _)));have HE:=hid (Cg (fs.map (·.2)) ks i (by rw[jR,HM.out];exact D) (by rw[N.out];exact D));simp only[List.getElem_map]at HE;generalize fs[i]'(by rw[HM.out];exact D)=ff at *;generalize ks[i]'(by rw[N.out];exact D)=x at *;clear hn h;cases hP:ff.2 x with
      |true=>
       have HX:Hid (a6 ((fs.map (·.2)).drop (i+1)) (ks.drop (i+1))=I):=hid (by rw[<-HI.out,HE.out,hP];rfl);go_wp2_with fail;refine HC.out.mono ?_;rw[hP];rintro e w1⟨rfl,M⟩;have U:=au O.out M;clear M HC;go_wp2_with fail;go_roundg (m-(i+1))
       case measure=>omega
       case rel=>exact⟨i+1,by omega,gC _,by go_num,HX.out,by simpa using U⟩
      |false=>have HX:Hid (I=false):=hid (by rw[<-HI.out,HE.out,hP];rfl);go_wp2_with fail;refine HC.out.mono ?_;rw[hP];rintro e w1⟨rfl,M⟩;have U:=au gd M;clear M HC;go_wp2_with fail;go_ret;exact⟨by rw[HX.out];rfl,U⟩
     ·(have ga:¬ (i:Int)<(m:Int):=by omega);have h4:ks.drop i=[]:=kz (by rw[N.out];omega);have h5:(fs.map (·.2)).drop i=[]:=kz (by rw[jR,HM.out];omega);have HX:Hid (I=true):=hid (by rw[<-HI.out,h4,h5];rfl);clear h4 h5;go_wp2_with fail;go_ret;exact⟨by rw[HX.out];rfl,gd⟩
end
end Go.Proofs.YteialcjaiocjdaaGreatDoor
