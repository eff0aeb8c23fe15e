/-
  Parts of the proof: Tstr Tname Tof Tall. By an AI agent.
-/
import Derived.Test.YtiebcdeafofgdaaGreatDoorJ12
import Derived.Test.YtiebcdeafofgdaaGreatDoorJ01
import Derived.Laws.RangeAny
import Derived.Lib.RuneCount
import Derived.Laws.Entries
set_option maxRecDepth 100000
set_option maxHeartbeats 8000000
namespace Go.Proofs.YtiebcdeafofgdaaGreatDoor
section
open Go.RowKit Go.Lib Go.Proofs
attribute [local go_sem ↓] Go.wp_at_zero Go.wp_at_succ
def a7 (c:Int):Bool:=c==95||((decide (97≤c)&&decide (c≤122))||(decide (65≤c)&&decide (c≤90)))
def aK (c:Int):Bool:=decide (48≤c)&&decide (c≤57)
theorem dR (c:Int) (w:World):Calls Tryz.prog 97 #[.int .i32 c] w fun e w'=>e=.returned (.bool (a7 c))∧w=w':=by unfold a7;cases N:(c==95) <;> cases M:decide (97≤c) <;> cases J:decide (c≤122) <;> cases I:decide (65≤c) <;> cases D:decide (c≤90);all_goals (go_enter Tryz.func97,Tryz.ntmps97);(go_wp2_with fail);go_ret;exact ⟨rfl,rfl⟩
theorem ft (c:Int) (w:World):Calls Tryz.prog 100 #[.int .i32 c] w fun e w'=>e=.returned (.bool (aK c))∧w=w':=by unfold aK;cases I:decide (48≤c) <;> cases D:decide (c≤57);all_goals (go_enter Tryz.func100,Tryz.ntmps100);(go_wp2_with fail);go_ret;exact ⟨rfl,rfl⟩
theorem cx {s x:ByteArray} (h:¬ s=x):(s.toList==x.data.toList)=false:=by rw [←ByteArray.toList_eq,cU];simpa using h
theorem yT (s:ByteArray) (w:World):Calls Tryz.prog 102 #[.string s] w fun e w'=>e=.returned (.int .i64 (ci s))∧w=w':=by
 by_cases O:s=(⟨#[98,114,101,97,107]⟩:BA)
 ·subst O;rw [show ci (⟨#[98,114,101,97,107]⟩:BA)=1 by decide +kernel];(go_enter Tryz.func102,Tryz.ntmps102);(go_wp2_with fail);go_ret;exact ⟨rfl,rfl⟩
 by_cases h:s=(⟨#[99,111,110,116,105,110,117,101]⟩:BA)
 ·subst h;rw [show ci (⟨#[99,111,110,116,105,110,117,101]⟩:BA)=1 by decide +kernel];clear O;(go_enter Tryz.func102,Tryz.ntmps102);(go_wp2_with fail);go_ret;exact ⟨rfl,rfl⟩
 by_cases q:s=(⟨#[101,108,115,101]⟩:BA)
 ·subst q;rw [show ci (⟨#[101,108,115,101]⟩:BA)=1 by decide +kernel];clear O h;(go_enter Tryz.func102,Tryz.ntmps102);(go_wp2_with fail);go_ret;exact ⟨rfl,rfl⟩
 by_cases y:s=(⟨#[102,111,114]⟩:BA)
 ·subst y;rw [show ci (⟨#[102,111,114]⟩:BA)=1 by decide +kernel];clear O h q;(go_enter Tryz.func102,Tryz.ntmps102);(go_wp2_with fail);go_ret;exact ⟨rfl,rfl⟩
 by_cases h4:s=(⟨#[102,117,110,99]⟩:BA)
 ·subst h4;rw [show ci (⟨#[102,117,110,99]⟩:BA)=1 by decide +kernel];clear O h q y;(go_enter Tryz.func102,Tryz.ntmps102);(go_wp2_with fail);go_ret;exact ⟨rfl,rfl⟩
 by_cases h5:s=(⟨#[105,102]⟩:BA)
 ·subst h5;rw [show ci (⟨#[105,102]⟩:BA)=1 by decide +kernel];clear O h q y h4;(go_enter Tryz.func102,Tryz.ntmps102);(go_wp2_with fail);go_ret;exact ⟨rfl,rfl⟩
 by_cases h6:s=(⟨#[105,109,112,111,114,116]⟩:BA)
 ·subst h6;rw [show ci (⟨#[105,109,112,111,114,116]⟩:BA)=1 by decide +kernel];clear O h q y h4 h5;(go_enter Tryz.func102,Tryz.ntmps102);(go_wp2_with fail);go_ret;exact ⟨rfl,rfl⟩
 by_cases h7:s=(⟨#[105,110,116,101,114,102,97,99,101]⟩:BA)
 ·subst h7;rw [show ci (⟨#[105,110,116,101,114,102,97,99,101]⟩:BA)=1 by decide +kernel];clear O h q y h4 h5 h6;(go_enter Tryz.func102,Tryz.ntmps102);(go_wp2_with fail);go_ret;exact ⟨rfl,rfl⟩
 by_cases h8:s=(⟨#[112,97,99,107,97,103,101]⟩:BA)
 ·subst h8;rw [show ci (⟨#[112,97,99,107,97,103,101]⟩:BA)=1 by decide +kernel];clear O h q y h4 h5 h6 h7;(go_enter Tryz.func102,Tryz.ntmps102);(go_wp2_with fail);go_ret;exact ⟨rfl,rfl⟩
 by_cases h9:s=(⟨#[114,97,110,103,101]⟩:BA)
 ·subst h9;rw [show ci (⟨#[114,97,110,103,101]⟩:BA)=1 by decide +kernel];clear O h q y h4 h5 h6 h7 h8;(go_enter Tryz.func102,Tryz.ntmps102);(go_wp2_with fail);go_ret;exact ⟨rfl,rfl⟩
 by_cases D:s=(⟨#[114,101,116,117,114,110]⟩:BA)
 ·subst D;rw [show ci (⟨#[114,101,116,117,114,110]⟩:BA)=1 by decide +kernel];clear O h q y h4 h5 h6 h7 h8 h9;(go_enter Tryz.func102,Tryz.ntmps102);(go_wp2_with fail);go_ret;exact ⟨rfl,rfl⟩
 by_cases I:s=(⟨#[115,116,114,117,99,116]⟩:BA)
 ·subst I;rw [show ci (⟨#[115,116,114,117,99,116]⟩:BA)=1 by decide +kernel];clear O h q y h4 h5 h6 h7 h8 h9 D;(go_enter Tryz.func102,Tryz.ntmps102);(go_wp2_with fail);go_ret;exact ⟨rfl,rfl⟩
 by_cases J:s=(⟨#[116,121,112,101]⟩:BA)
 ·subst J;rw [show ci (⟨#[116,121,112,101]⟩:BA)=1 by decide +kernel];clear O h q y h4 h5 h6 h7 h8 h9 D I;(go_enter Tryz.func102,Tryz.ntmps102);(go_wp2_with fail);go_ret;exact ⟨rfl,rfl⟩
 by_cases M:s=(⟨#[118,97,114]⟩:BA)
 ·subst M;rw [show ci (⟨#[118,97,114]⟩:BA)=1 by decide +kernel];clear O h q y h4 h5 h6 h7 h8 h9 D I J;(go_enter Tryz.func102,Tryz.ntmps102);(go_wp2_with fail);go_ret;exact ⟨rfl,rfl⟩
 by_cases N:s=(⟨#[99,97,115,101]⟩:BA)
 ·subst N;rw [show ci (⟨#[99,97,115,101]⟩:BA)=2 by decide +kernel];clear O h q y h4 h5 h6 h7 h8 h9 D I J M;(go_enter Tryz.func102,Tryz.ntmps102);(go_wp2_with fail);go_ret;exact ⟨rfl,rfl⟩
 by_cases U:s=(⟨#[99,104,97,110]⟩:BA)
 ·subst U;rw [show ci (⟨#[99,104,97,110]⟩:BA)=2 by decide +kernel];clear O h q y h4 h5 h6 h7 h8 h9 D I J M N;(go_enter Tryz.func102,Tryz.ntmps102);(go_wp2_with fail);go_ret;exact ⟨rfl,rfl⟩
 by_cases z:s=(⟨#[99,111,110,115,116]⟩:BA)
 ·subst z;rw [show ci (⟨#[99,111,110,115,116]⟩:BA)=2 by decide +kernel];clear O h q y h4 h5 h6 h7 h8 h9 D I J M N U;(go_enter Tryz.func102,Tryz.ntmps102);(go_wp2_with fail);go_ret;exact ⟨rfl,rfl⟩
 by_cases ga:s=(⟨#[100,101,102,97,117,108,116]⟩:BA)
 ·subst ga;rw [show ci (⟨#[100,101,102,97,117,108,116]⟩:BA)=2 by decide +kernel];clear O h q y h4 h5 h6 h7 h8 h9 D I J M N U z;(go_enter Tryz.func102,Tryz.ntmps102);(go_wp2_with fail);go_ret;exact ⟨rfl,rfl⟩
 by_cases gb:s=(⟨#[100,101,102,101,114]⟩:BA)
 ·subst gb;rw [show ci (⟨#[100,101,102,101,114]⟩:BA)=2 by decide +kernel];clear O h q y h4 h5 h6 h7 h8 h9 D I J M N U z ga;(go_enter Tryz.func102,Tryz.ntmps102);(go_wp2_with fail);go_ret;exact ⟨rfl,rfl⟩
 by_cases gd:s=(⟨#[102,97,108,108,116,104,114,111,117,103,104]⟩:BA)
 ·subst gd;rw [show ci (⟨#[102,97,108,108,116,104,114,111,117,103,104]⟩:BA)=2 by decide +kernel];clear O h q y h4 h5 h6 h7 h8 h9 D I J M N U z ga gb;(go_enter Tryz.func102,Tryz.ntmps102);(go_wp2_with fail);go_ret;exact ⟨rfl,rfl⟩
 by_cases ge:s=(⟨#[103,111]⟩:BA)
 ·subst ge;rw [show ci (⟨#[103,111]⟩:BA)=2 by decide +kernel];clear O h q y h4 h5 h6 h7 h8 h9 D I J M N U z ga gb gd;(go_enter Tryz.func102,Tryz.ntmps102);(go_wp2_with fail);go_ret;exact ⟨rfl,rfl⟩
 by_cases gg:s=(⟨#[103,111,116,111]⟩:BA)
 ·subst gg;rw [show ci (⟨#[103,111,116,111]⟩:BA)=2 by decide +kernel];clear O h q y h4 h5 h6 h7 h8 h9 D I J M N U z ga gb gd ge;(go_enter Tryz.func102,Tryz.ntmps102);(go_wp2_with fail);go_ret;exact ⟨rfl,rfl⟩
 by_cases gh:s=(⟨#[109,97,112]⟩:BA)
 ·subst gh;rw [show ci (⟨#[109,97,112]⟩:BA)=2 by decide +kernel];clear O h q y h4 h5 h6 h7 h8 h9 D I J M N U z ga gb gd ge gg;(go_enter Tryz.func102,Tryz.ntmps102);(go_wp2_with fail);go_ret;exact ⟨rfl,rfl⟩
 by_cases gi:s=(⟨#[115,101,108,101,99,116]⟩:BA)
 ·subst gi;rw [show ci (⟨#[115,101,108,101,99,116]⟩:BA)=2 by decide +kernel];clear O h q y h4 h5 h6 h7 h8 h9 D I J M N U z ga gb gd ge gg gh;(go_enter Tryz.func102,Tryz.ntmps102);(go_wp2_with fail);go_ret;exact ⟨rfl,rfl⟩
 by_cases gj:s=(⟨#[115,119,105,116,99,104]⟩:BA)
 ·subst gj;rw [show ci (⟨#[115,119,105,116,99,104]⟩:BA)=2 by decide +kernel];clear O h q y h4 h5 h6 h7 h8 h9 D I J M N U z ga gb gd ge gg gh gi;(go_enter Tryz.func102,Tryz.ntmps102);(go_wp2_with fail);go_ret;exact ⟨rfl,rfl⟩
 (have hz:ci s=0:=by simp only [ci,EM,EN,List.any_cons,List.any_nil,O,h,q,y,h4,h5,h6,h7,h8,h9,D,I,J,M,N,U,z,ga,gb,gd,ge,gg,gh,gi,gj,decide_false,Bool.or_false,Bool.false_eq_true,if_false]);have q0:(s.toList==[98,114,101,97,107])=false:=cx O;have q1:(s.toList==[99,111,110,116,105,110,117,101])=false:=cx h;have q2:(s.toList==[101,108,115,101])=false:=cx q;have q3:(s.toList==[102,111,114])=false:=cx y;have q4:(s.toList==[102,117,110,99])=false:=cx h4;have q5:(s.toList==[105,102])=false:=cx h5;have q6:(s.toList==[105,109,112,111,114,116])=false:=cx h6;have q7:(s.toList==[105,110,116,101,114,102,97,99,101])=false:=cx h7;have q8:(s.toList==[112,97,99,107,97,103,101])=false:=cx h8;have q9:(s.toList==[114,97,110,103,101])=false:=cx h9;have gz:(s.toList==[114,101,116,117,114,110])=false:=cx D;have gy:(s.toList==[115,116,114,117,99,116])=false:=cx I;have gx:(s.toList==[116,121,112,101])=false:=cx J;have gw:(s.toList==[118,97,114])=false:=cx M;have gv:(s.toList==[99,97,115,101])=false:=cx N;have gu:(s.toList==[99,104,97,110])=false:=cx U;have gt:(s.toList==[99,111,110,115,116])=false:=cx z;have gs:(s.toList==[100,101,102,97,117,108,116])=false:=cx ga;have gr:(s.toList==[100,101,102,101,114])=false:=cx gb;have gq:(s.toList==[102,97,108,108,116,104,114,111,117,103,104])=false:=cx gd;have gp:(s.toList==[103,111])=false:=cx ge;have gn:(s.toList==[103,111,116,111])=false:=cx gg;have gm:(s.toList==[109,97,112])=false:=cx gh;have gl:(s.toList==[115,101,108,101,99,116])=false:=cx gi;have gk:(s.toList==[115,119,105,116,99,104])=false:=cx gj;rw [hz];clear hz O h q y h4 h5 h6 h7 h8 h9 D I J M N U z ga gb gd ge gg gh gi gj;(go_enter Tryz.func102,Tryz.ntmps102);(go_wp2_with fail);go_ret;exact ⟨rfl,rfl⟩
theorem bR {w wr:World} {b:Nat} {s:ByteArray} {k:Nat} {B:Nat} (h:Below B w wr) (hb:B≤b):Below B w (wr.iterAt b s k):=
 ⟨h.os,h.tape,h.output,by rw [iterAt_size];exact h.size,fun j hj=>(iterAt_other wr _ _ s _ (by omega)).trans (h.block j hj)⟩
theorem o9 (s:ByteArray) (i:Nat) (h:i<s.size):1≤(Utf8.decode s i).2∧i+(Utf8.decode s i).2≤s.size:=by simp only [Utf8.decode];(repeat' split);(all_goals simp_all);all_goals omega
def GW (s:ByteArray) (j:Nat):Bool:=a7 ((s.data.toList.getD j 0).toNat:Int)||(decide (0<j)&&aK ((s.data.toList.getD j 0).toNat:Int))
theorem lf (c:UInt8):sq c=a7 (c.toNat:Int):=by unfold sq a7;rw [Bool.eq_iff_iff];simp [UInt8.le_iff_toNat_le,←UInt8.toNat_inj];omega
theorem lg (c:UInt8):mP c=aK (c.toNat:Int):=by unfold mP aK;rw [Bool.eq_iff_iff];simp [UInt8.le_iff_toNat_le];omega
theorem uk (l:List UInt8):lq l=true↔∀ j,j<l.length→(a7 ((l.getD j 0).toNat:Int)||(decide (0<j)&&aK ((l.getD j 0).toNat:Int)))=true:=by
 cases l with
 | nil=>simp [lq]
 | cons c r=>
  unfold lq;rw [Bool.and_eq_true,List.all_eq_true];constructor
  ·rintro ⟨M,J⟩ j D;cases j with
   | zero=>simp [←lf,M]
   | succ j=>(have I:j<r.length:=by simpa using D);have:=J r[j] (List.getElem_mem _);rw [lf,lg] at this;simpa [I] using this
  ·intro h;refine ⟨by have:=h 0 (by simp);simpa [←lf] using this,fun x hx=>?_⟩;obtain ⟨j,D,rfl⟩:=List.mem_iff_getElem.1 hx;have:=h (j+1) (by simpa using D);rw [lf,lg];simpa [D] using this
theorem iU {c:Int} (h:128≤c):a7 c=false:=by unfold a7;(have J:(c==95)=false:=by simp;omega);(have I:decide (c≤122)=false:=by simp;omega);(have D:decide (c≤90)=false:=by simp;omega);rw [J,I,D];simp
theorem eh {c:Int} (h:128≤c):aK c=false:=by unfold aK;(have D:decide (c≤57)=false:=by simp;omega);rw [D];simp
theorem mW (s:ByteArray) (i:Nat) (h:i<s.size):(Utf8.decode s i=((s.data.toList.getD i 0).toNat,1)∧(s.data.toList.getD i 0).toNat<128)∨(128≤(Utf8.decode s i).1∧128≤(s.data.toList.getD i 0).toNat):=by
 (have e:s.data.toList.getD i 0=s[i]:=by rw [List.getD_eq_getElem?_getD,List.getElem?_eq_getElem (by simpa using h)];rfl);rw [e];rcases Nat.lt_or_ge s[i].toNat 128 with D | D
 ·exact .inl ⟨decode_ascii s i h D,D⟩
 ·exact .inr ⟨(decode_high s i h D).1,D⟩
def nK (i:Nat) (c:Int):Bool:=a7 c||(decide (0<i)&&aK c)
theorem yU (s:ByteArray) (w:World):Calls Tryz.prog 151 #[.string s] w fun e w'=>e=.returned (.bool (ox s))∧Below w.heap.size w w':=by
 (have hT:ox s=(lq s.data.toList&&(!s.toList.isEmpty&&(ci s==0))):=by unfold ox;rw [aM,fQ];congr 2;rw [Bool.eq_iff_iff];simp);have hN:=uk s.data.toList;rw [hT];generalize lq s.data.toList=nc at *;have HN:=hid hN;clear hT hN;have i1:=World.iter_heap w s 0;have i2:Below w.heap.size w (w.iter s 0):=(Below.refl _ w).alloc (Nat.le_refl _) _;(go_enter Tryz.func151,Tryz.ntmps151);(go_wp2_with fail);go_loopg [3,4,7,8] s.size (fun g _ _ _ _ wr=>∃ i:Nat,i≤s.size∧s.size-i≤g∧wr.heap[w.heap.size]? = some (.stringIter s i)∧Below w.heap.size w wr∧(∀ j,j<i→GW s j=true))
 case atStart=>exact ⟨0,Nat.zero_le _,by omega,i1,i2,fun j hj=>by omega⟩
 case round=>
  clear i1 i2;obtain ⟨i,hi,hg,hit,hB,y⟩:=hrel;have ge:=hid hit;have HA:=hid y;clear hit y;by_cases M:i<s.size
  ·have hw:=o9 s i M;have gb:=mW s i M;have I:=fun ty=>run_next_any_at (P:=Tryz.prog) wr w.heap.size s i ty ge.out M;have gh:GW s i=nK i ((s.data.toList.getD i 0).toNat:Int):=rfl;generalize hb:(s.data.toList.getD i 0).toNat=b at *;generalize hd:Utf8.decode s i=q at *;obtain ⟨r,k⟩:=q;simp only at hw I gb;have h:nK i (r:Int)=nK i (b:Int)∧(nK i (r:Int)=true→k=1):=by
    rcases gb with ⟨e,_⟩ | ⟨h1,h2⟩
    ·injection e with e1 e2;subst e1 e2;exact ⟨rfl,fun _=>rfl⟩
    ·unfold nK;rw [iU (by omega),iU (by omega),eh (by omega),eh (by omega)];exact ⟨rfl,by simp⟩
   have gd:=hid gh;have J:=hid h;have j1:=iterAt_heap wr w.heap.size s i (i+k) ge.out;have j2:Below w.heap.size w (wr.iterAt w.heap.size s (i+k)):=bR hB (Nat.le_refl _);generalize wr.iterAt w.heap.size s (i+k)=W1 at I j1 j2;have J1:=hid j1;clear gh h gb j1 hd hb;have U:nK i (r:Int)=false→nc=false:=by
    intro hf;cases hn:nc with
    | false=>rfl
    | true=>have:=(HN.out.1 hn) i (by simpa using M);rw [show (a7 ((s.data.toList.getD i 0).toNat:Int)||(decide (0<i)&&aK ((s.data.toList.getD i 0).toNat:Int)))=GW s i from rfl,gd.out,←J.out.1,hf] at this;cases this
   have O:=hid U;have gi:nK i (r:Int)=true→k=1∧∀ j,j<i+k→GW s j=true:=by
    intro hf;have hk:=J.out.2 hf;refine ⟨hk,fun j hj=>?_⟩;by_cases e:j=i
    ·subst e;rw [gd.out,←J.out.1,hf]
    ·exact HA.out j (by omega)
   have gg:=hid gi;clear U gi J gd HA;unfold nK at O gg;cases z:a7 (r:Int) with
   | true=>
    obtain ⟨_,D⟩:=gg.out (by rw [z];rfl);have N:=hid D;clear D;(go_wp2_with fail);refine (dR _ _).mono ?_;rw [z];rintro e w1 ⟨rfl,rfl⟩;(go_wp2_with fail);go_roundg (s.size-(i+k))
    case measure=>omega
    case rel=>exact ⟨i+k,hw.2,Nat.le_refl _,J1.out,j2,N.out⟩
   | false=>
    by_cases hz:i=0
    ·have HX:=hid (O.out (by rw [z,hz];rfl));(have gk:((i:Int)==0)=true:=by simp [hz]);clear hz;(go_wp2_with fail);refine (dR _ _).mono ?_;rw [z];rintro e w1 ⟨rfl,rfl⟩;(go_wp2_with fail);go_ret;exact ⟨by rw [HX.out];rfl,j2⟩
    ·(have gk:((i:Int)==0)=false:=by simp;omega);(have ga:decide (0<i)=true:=by simp;omega);cases hF:aK (r:Int) with
     | true=>
      obtain ⟨_,D⟩:=gg.out (by rw [z,hF,ga];rfl);have N:=hid D;clear D ga hz;(go_wp2_with fail);refine (dR _ _).mono ?_;rw [z];rintro e w1 ⟨rfl,rfl⟩;(go_wp2_with fail);refine (ft _ _).mono ?_;rw [hF];rintro e w1 ⟨rfl,rfl⟩;(go_wp2_with fail);go_roundg (s.size-(i+k))
      case measure=>omega
      case rel=>exact ⟨i+k,hw.2,Nat.le_refl _,J1.out,j2,N.out⟩
     | false=>have HX:=hid (O.out (by rw [z,hF];simp));clear ga hz;(go_wp2_with fail);refine (dR _ _).mono ?_;rw [z];rintro e w1 ⟨rfl,rfl⟩;(go_wp2_with fail);refine (ft _ _).mono ?_;rw [hF];rintro e w1 ⟨rfl,rfl⟩;(go_wp2_with fail);go_ret;exact ⟨by rw [HX.out];rfl,j2⟩
  ·(have gj:i=s.size:=by omega);have I:=fun ty=>run_next_end_at (P:=Tryz.prog) wr w.heap.size s i ty ge.out M;have HX:=hid (show nc=true from HN.out.2 fun j hj=>HA.out j (by simp at hj;omega));clear gj;cases hE:s.toList.isEmpty with
   | true=>(go_wp2_with fail);go_ret;exact ⟨by rw [HX.out,hE];rfl,hB⟩
   | false=>(go_wp2_with fail);refine (yT _ _).mono ?_;rintro e w1 ⟨rfl,rfl⟩;(go_wp2_with fail);go_ret;exact ⟨by rw [HX.out,hE];rfl,hB⟩
theorem rx (w:World) (v:Value) (n:Nd) (D:eG w v n):Calls Tryz.prog 174 #[v] w fun e w'=>e=.returned (.bool (aS n))∧Below w.heap.size w w':=by obtain ⟨A,cp,rfl,I⟩:=D.toC;(have hE:aS n=(n.kind==0&&(n.text.toList.isEmpty&&((n.kids.length:Int)==0))):=by unfold aS;rw [aM,fQ,fQ];congr 2;rw [decide_eq_decide];omega);rw [hE];generalize hl:(n.kids.length:Int)=m at *;generalize n.kind=k at *;generalize n.text=t at *;clear hE D I;cases N:(k==0) <;> cases M:t.toList.isEmpty <;> cases J:(m==0);all_goals (go_enter Tryz.func174,Tryz.ntmps174);(go_wp2_with fail);go_ret;refine ⟨rfl,?_⟩;(repeat' (first | with_reducible exact Below.refl _ _ | with_reducible refine Below.alloc ?_ ?_ _ | with_reducible refine Below.setCell ?_ ?_ _ | with_reducible refine Below.drew ?_ | with_reducible refine al ?_ _ | (simp <;> omega) | omega))
theorem av.retext {X:Nat→Prop} {w:World} {k:Value} {t p:Value} {A:Option Addr} {c:Nat} {n:Nd} (h:av X w (.agg #[k,t,.slice A n.kids.length c,p]) n) (x:ByteArray) :
  av X w (.agg #[.int .i64 n.kind,.string x,.slice A n.kids.length c,.int .i64 n.pos]) (.mk n.kind x n.kids n.pos):=by obtain ⟨M,c1,xs,e,J,I,D⟩:=h;injection e with e;injection e with e;simp only [List.cons.injEq,and_true] at e;obtain ⟨_,_,e,_⟩:=e;injection e with e1 _ e3;subst e1 e3;exact ⟨A,c,xs,rfl,J,I,D⟩
def LT (w:World) (n:Nd) (e:Ending) (w':World):Prop:=∃ v,e=.returned v∧eG w' v n∧Below w.heap.size w w'
theorem cB (w:World) (v:Value) (n:Nd) (N:eG w v n) (f:Fv) (P:ByteArray→Bool) (hs:yS P f w) (z:n.text.size≤1000000000) :
  Calls Tryz.prog 155 #[v,.func (.func f.k) #[] f.cap] w (LT w (aA P n)):=by
 have I:=N;obtain ⟨A,cp,rfl,hC⟩:=N.toC;have he:=hs.enter;have y:=hid hs;have M:=((Below.refl w.heap.size w).alloc (Nat.le_refl _) (.cells #[.int .i64 n.kind,.string n.text,.slice A n.kids.length cp,.int .i64 n.pos] 24)).alloc (by simp) (.cells aV 24);have q:aj ((w.alloc (.cells #[.int .i64 n.kind,.string n.text,.slice A n.kids.length cp,.int .i64 n.pos] 24)).alloc (.cells aV 24)) w.heap.size 24 #[.int .i64 n.kind,.string n.text,.slice A n.kids.length cp,.int .i64 n.pos]:=(aj.new w _ _).alloc _;have h:aj ((w.alloc (.cells #[.int .i64 n.kind,.string n.text,.slice A n.kids.length cp,.int .i64 n.pos] 24)).alloc (.cells aV 24)) (w.heap.size+1) 24 aV:=aj.new_at (by simp) _ _;have O:=hid I;clear I N hC hs;(go_enter Tryz.func155,Tryz.ntmps155);(go_wp2_with fail);refine (y.out.out _ _ M z).mono ?_;rintro e w1 ⟨rfl,D⟩;have c1:=q.below D (by simp;omega);have c2:=h.below D (by simp);have gb:=M.trans (D.mono M.size);clear q h M D he y;obtain ⟨x0,x1,x2,x3,y0,y1,y2,y3⟩:=ac c1;obtain ⟨z0,z1,z2,z3,u0,u1,u2,u3⟩:=ac c2;(have ga:w.heap.size+1≠w.heap.size:=by omega);cases J:P n.text with
 | true=>have U:=hid (show aA P n=.mk n.kind (⟨#[]⟩:BA) n.kids n.pos by unfold aA;rw [J];rfl);clear J;(go_wp2_with fail);have hb:aj (bu (w1.setCell ⟨w.heap.size,1,none⟩ (.string (⟨#[]⟩:BA))) (w.heap.size+1) (.int .i64 n.kind) (.string (⟨#[]⟩:BA)) (.slice A n.kids.length cp) (.int .i64 n.pos)) (w.heap.size+1) 24 #[.int .i64 n.kind,.string (⟨#[]⟩:BA),.slice A n.kids.length cp,.int .i64 n.pos]:=br (c2.far (p:=⟨w.heap.size,1,none⟩) (by show w.heap.size+1≠w.heap.size;omega) _) _ _ _ _;refine bodyPost_ret (dN rfl _ (by rfl) hb) rfl ?_;rw [U.out];exact ⟨_,rfl,(av.retext O.out (⟨#[]⟩:BA)).below (by (repeat' (first | with_reducible assumption | with_reducible exact Below.refl _ _ | with_reducible refine Below.alloc ?_ ?_ _ | with_reducible refine Below.setCell ?_ ?_ _ | with_reducible refine Below.drew ?_ | with_reducible refine al ?_ _ | (simp <;> omega) | omega))),by (repeat' (first | with_reducible assumption | with_reducible exact Below.refl _ _ | with_reducible refine Below.alloc ?_ ?_ _ | with_reducible refine Below.setCell ?_ ?_ _ | with_reducible refine Below.drew ?_ | with_reducible refine al ?_ _ | (simp <;> omega) | omega))⟩
 | false=>have U:=hid (show aA P n=.mk 37 (⟨#[]⟩:BA) [] 0 by unfold aA;rw [J];rfl);clear J;(go_wp2_with fail);have hb:aj (bu w1 (w.heap.size+1) (.int .i64 37) (.string (⟨#[]⟩:BA)) (.slice none 0 0) (.int .i64 0)) (w.heap.size+1) 24 #[.int .i64 37,.string (⟨#[]⟩:BA),.slice none 0 0,.int .i64 0]:=br c2 _ _ _ _;refine bodyPost_ret (dN rfl _ (by rfl) hb) rfl ?_;rw [U.out];exact ⟨_,rfl,av.leaf _ _ _,by (repeat' (first | with_reducible assumption | with_reducible exact Below.refl _ _ | with_reducible refine Below.alloc ?_ ?_ _ | with_reducible refine Below.setCell ?_ ?_ _ | with_reducible refine Below.drew ?_ | with_reducible refine al ?_ _ | (simp <;> omega) | omega))⟩
theorem aJ {w:World} {g:Nat} {t:TypeId} {a:Value} (h:aj w g t #[a]):w.cell? ⟨g,0,none⟩=some a:=by have c0:=h.cell 0;simp at c0;exact c0
theorem GX (d:Nat) (P Q:Nd→Bool) (f g:Fv) (w0:World) (z:mV d P f w0) (y:mV d Q g w0) (a b:Nat)
  (ha:aj w0 a 37 #[.func (.func f.k) #[] f.cap]) (hb:aj w0 b 37 #[.func (.func g.k) #[] g.cap]) :
  mV d (fm P Q) ⟨206,#[.pointer (some ⟨a,0,none⟩),.pointer (some ⟨b,0,none⟩)]⟩ w0:=by
 refine ⟨fun a w=>by kernel_rfl,fun w v n hw hv hd=>?_⟩;have gg:=z.enter;have ge:=y.enter;have M:=hv;obtain ⟨A,cp,rfl,hC⟩:=hv.toC;have U:=(Below.refl w.heap.size w).alloc (Nat.le_refl _) (.cells #[.int .i64 n.kind,.string n.text,.slice A n.kids.length cp,.int .i64 n.pos] 24);have D:=hw.alloc hw.size (.cells #[.int .i64 n.kind,.string n.text,.slice A n.kids.length cp,.int .i64 n.pos] 24);have b1:aj (w.alloc (.cells #[.int .i64 n.kind,.string n.text,.slice A n.kids.length cp,.int .i64 n.pos] 24)) w.heap.size 24 #[.int .i64 n.kind,.string n.text,.slice A n.kids.length cp,.int .i64 n.pos]:=aj.new w _ _;have ca:=aJ (ha.below D ha.lt);have HF:=hid (z.out _ _ n D (M.below U) hd);have q:=hb.lt;have HV:=hid (M.below U);have HG:=hid y;have gb:=hid hb;have gd:=hw.size;show Calls _ _ _ w fun e w'=>e=.returned (.bool (P n||Q n))∧_;clear z y M hv hC ha hb;(go_enter Tryz.func206,Tryz.ntmps206);(go_wp2_with fail);refine HF.out.mono ?_;rintro e w1 ⟨rfl,I⟩;have N:=D.trans (I.mono D.size);have cb:=aJ (gb.out.below N q);obtain ⟨x0,x1,x2,x3,_,_,_,_⟩:=ac (b1.below I (by simp));have h:=hid (HG.out.out _ _ n N (HV.out.below I) hd);have J:=U.trans (I.mono U.size);clear I U b1 D ca HF;cases hP:P n with
 | true=>(go_wp2_with fail);go_ret;exact ⟨by rw [hP];rfl,J⟩
 | false=>(go_wp2_with fail);refine h.out.mono ?_;rintro e w2 ⟨rfl,O⟩;have ga:=J.trans (O.mono J.size);clear O h J;(go_wp2_with fail);go_ret;exact ⟨by rw [hP];rfl,ga⟩
theorem eZ (d:Nat) (P Q:Nd→Bool) (f g:Fv) (w:World) (J:mV d P f w) (I:mV d Q g w) :
  Calls Tryz.prog 158 #[.func (.func f.k) #[] f.cap,.func (.func g.k) #[] g.cap] w fun e w'=>∃ h:Fv,e=.returned (.func (.func h.k) #[] h.cap)∧mV d (fm P Q) h w'∧Below w.heap.size w w':=by have U:=hid J;have O:=hid I;have D:=((Below.refl w.heap.size w).alloc (Nat.le_refl _) (.cells #[.func (.func f.k) #[] f.cap] 37)).alloc (by simp) (.cells #[.func (.func g.k) #[] g.cap] 37);have N:aj ((w.alloc (.cells #[.func (.func f.k) #[] f.cap] 37)).alloc (.cells #[.func (.func g.k) #[] g.cap] 37)) w.heap.size 37 #[.func (.func f.k) #[] f.cap]:=(aj.new w _ _).alloc _;have M:aj ((w.alloc (.cells #[.func (.func f.k) #[] f.cap] 37)).alloc (.cells #[.func (.func g.k) #[] g.cap] 37)) (w.heap.size+1) 37 #[.func (.func g.k) #[] g.cap]:=aj.new_at (by simp) _ _;clear J I;(go_enter Tryz.func158,Tryz.ntmps158);(go_wp2_with fail);go_ret;exact ⟨⟨206,#[.pointer (some ⟨w.heap.size,0,none⟩),.pointer (some ⟨w.heap.size+1,0,none⟩)]⟩,rfl,GX d P Q f g _ (U.out.below D) (O.out.below D) _ _ N M,D⟩
theorem lF.at_ {w:World} {A:Option Addr} {n c:Nat} {l:List Nd} (h:lF w (.slice A n c) l) (i:Nat) (J:i<l.length) :
  n = l.length∧∃ b off D cp,A=some ⟨b,off,none⟩∧b<w.heap.size∧w.cell? ⟨b,off+i * 4,none⟩=some (.int .i64 l[i].kind)∧w.cell? ⟨b,off+i * 4+1,none⟩=some (.string l[i].text) ∧
    w.cell? ⟨b,off+i * 4+2,none⟩=some (.slice D l[i].kids.length cp)∧w.cell? ⟨b,off+i * 4+3,none⟩=some (.int .i64 l[i].pos) ∧
    eG w (.agg #[.int .i64 l[i].kind,.string l[i].text,.slice D l[i].kids.length cp,.int .i64 l[i].pos]) l[i]:=by (have I:n=l.length:=by obtain ⟨_,_,_,e,_⟩:=h;injection e);obtain ⟨b,off,D,cp,e,_,y,q,U,O,N,M⟩:=h.kid i J;exact ⟨I,b,off,D,cp,e,y,q,U,O,N,M⟩
def ul (P:Nd→Bool):List Nd→Nat→Int
 | [],_ => -1
 | n::l,i=>if P n then (i:Int) else ul P l (i+1)
theorem yV (P:Nd→Bool):∀ (l:List Nd) (i:Nat),decide (0≤ul P l i)=l.any P
 | [],i=>rfl
 | n::l,i=>by
  rw [ul,List.any_cons];cases D:P n with
  | true=>simp
  | false=>simpa using yV P l (i+1)
theorem Dv (P:Nd→Bool) (l:List Nd) (i:Nat) (D:i<l.length):ul P (l.drop i) i=if P l[i] then (i:Int) else ul P (l.drop (i+1)) (i+1):=by rw [List.drop_eq_getElem_cons D,ul]
theorem um (d:Nat) (P:Nd→Bool) (f:Fv) (A:Option Addr) (c:Nat) (l:List Nd) (w:World) (hv:lF w (.slice A l.length c) l) (hd:∀ n∈l,et d n) (hl:l.length≤1000000000) (hf:mV d P f w) :
  Calls Tryz.prog 202 #[.slice A l.length c,.func (.func f.k) #[] f.cap] w fun e w'=>e=.returned (.int .i64 (ul P l 0))∧Below w.heap.size w w':=by
 have he:=hf.enter;have HF:=hid hf;have HV:=hid hv;have HD:=hid hd;generalize h:ul P l 0=I;have y:=hid h;clear hf hv hd h;(go_enter Tryz.func202,Tryz.ntmps202);(go_wp2_with fail);go_loopg [5,8] l.length (fun g _ u8 wr=>∃ i:Nat,i≤l.length∧l.length-i≤g∧u8=.int .i64 (i:Int)∧ul P (l.drop i) i=I∧Below w.heap.size w wr)
 case atStart=>exact ⟨0,Nat.zero_le _,by omega,rfl,by simpa using y.out,Below.refl _ _⟩
 case round=>
  obtain ⟨i,hi,hg,rfl,h,O⟩:=hrel;have y:=hid h;clear h;by_cases M:i<l.length
  ·(have U:(i:Int)<(l.length:Int):=by omega);(have h0:(0:Int)≤(i:Int):=by omega);obtain ⟨_,b,off,A1,cp,rfl,hb,k0,k1,k2,k3,hn⟩:=lF.at_ (HV.out.below O) i M;have HC:=hid (HF.out.out _ _ l[i] O hn (HD.out _ (List.getElem_mem M)));have HE:=hid (Dv P l i M);generalize l[i]=x at *;clear hn;cases z:P x with
   | true=>have q:=hid (show I=(i:Int) by rw [←y.out,HE.out,z];rfl);(go_wp2_with fail);refine HC.out.mono ?_;rw [z];rintro e w1 ⟨rfl,D⟩;have N:=O.trans (D.mono O.size);clear D HC;(go_wp2_with fail);go_ret;exact ⟨by rw [q.out];rfl,N⟩
   | false=>
    have q:=hid (show ul P (l.drop (i+1)) (i+1)=I by rw [←y.out,HE.out,z];rfl);(go_wp2_with fail);refine HC.out.mono ?_;rw [z];rintro e w1 ⟨rfl,D⟩;have N:=O.trans (D.mono O.size);clear D HC;(go_wp2_with fail);go_roundg (l.length-(i+1))
    case measure=>omega
    case rel=>exact ⟨i+1,by omega,Nat.le_refl _,by go_num,q.out,N⟩
  ·(have U:¬ (i:Int)<(l.length:Int):=by omega);have J:l.drop i=[]:=List.drop_of_length_le (by omega);have q:=hid (show I = -1 by rw [←y.out,J];rfl);clear J;(go_wp2_with fail);go_ret;exact ⟨by rw [q.out];rfl,O⟩
theorem ry (d:Nat) (P:Nd→Bool) (f:Fv) (A:Option Addr) (c:Nat) (l:List Nd) (w:World) (I:lF w (.slice A l.length c) l) (hd:∀ n∈l,et d n) (M:l.length≤1000000000) (J:mV d P f w) :
  Calls Tryz.prog 152 #[.slice A l.length c,.func (.func f.k) #[] f.cap] w fun e w'=>e=.returned (.bool (l.any P))∧Below w.heap.size w w':=by have N:=hid (um d P f A c l w I hd M J);rw [←yV P l 0];clear I hd J;(go_enter Tryz.func152,Tryz.ntmps152);(go_wp2_with fail);refine N.out.mono ?_;rintro e w1 ⟨rfl,D⟩;(go_wp2_with fail);go_ret;exact ⟨rfl,D⟩
theorem EO (d:Nat) (P:Nd→Bool) (f:Fv) (w0:World) (O:mV d P f w0) (a:Nat) (M:aj w0 a 37 #[.func (.func f.k) #[] f.cap]) :
  mV d (fun n => !P n) ⟨153,#[.pointer (some ⟨a,0,none⟩)]⟩ w0:=by refine ⟨fun a w=>by kernel_rfl,fun w v n hw hv hd=>?_⟩;have z:=O.enter;have J:=hv;obtain ⟨A,cp,rfl,hC⟩:=hv.toC;have N:=(Below.refl w.heap.size w).alloc (Nat.le_refl _) (.cells #[.int .i64 n.kind,.string n.text,.slice A n.kids.length cp,.int .i64 n.pos] 24);have D:=hw.alloc hw.size (.cells #[.int .i64 n.kind,.string n.text,.slice A n.kids.length cp,.int .i64 n.pos] 24);have ca:=aJ (M.below D M.lt);have h:=hid (O.out _ _ n D (J.below N) hd);have y:=M.lt;have q:=hw.size;show Calls _ _ _ w fun e w'=>e=.returned (.bool (!P n))∧_;clear O J hv hC M;(go_enter Tryz.func153,Tryz.ntmps153);(go_wp2_with fail);refine h.out.mono ?_;rintro e w1 ⟨rfl,I⟩;have U:=N.trans (I.mono N.size);clear I N D ca h;(go_wp2_with fail);go_ret;exact ⟨rfl,U⟩
theorem GY (P:Nd→Bool) (l:List Nd):(!(l.any fun n => !P n))=l.all P:=by
 induction l with
 | nil=>rfl
 | cons n l ih=>rw [List.any_cons,List.all_cons,←ih];cases P n <;> simp
theorem fR (d:Nat) (P:Nd→Bool) (f:Fv) (A:Option Addr) (c:Nat) (l:List Nd) (w:World) (M:lF w (.slice A l.length c) l) (hd:∀ n∈l,et d n) (U:l.length≤1000000000) (N:mV d P f w) :
  Calls Tryz.prog 119 #[.slice A l.length c,.func (.func f.k) #[] f.cap] w fun e w'=>e=.returned (.bool (l.all P))∧Below w.heap.size w w':=by have I:=(Below.refl w.heap.size w).alloc (Nat.le_refl _) (.cells #[.func (.func f.k) #[] f.cap] 37);have O:=aj.new w 37 #[.func (.func f.k) #[] f.cap];have h:=hid (ry d (fun n => !P n) ⟨153,#[.pointer (some ⟨w.heap.size,0,none⟩)]⟩ A c l _ (M.below I) hd U (EO d P f _ (N.below I) _ O));(have q:∀ a w,(callFunc 153 a).run Tryz.prog w=.ok (.enter 153 a) w:=fun a w=>by kernel_rfl);rw [←GY P l];clear M hd N O;(go_enter Tryz.func119,Tryz.ntmps119);(go_wp2_with fail);refine h.out.mono ?_;rintro e w1 ⟨rfl,D⟩;have J:=I.trans (D.mono I.size);clear D I;(go_wp2_with fail);go_ret;exact ⟨rfl,J⟩
theorem yW (d:Nat) (P:Nd→Bool) (f:Fv) (v:Value) (n:Nd) (w:World) (M:eG w v n) (hd:et (d+1) n) (N:mV d P f w) :
  Calls Tryz.prog 204 #[v,.func (.func f.k) #[] f.cap] w fun e w'=>e=.returned (.bool (lY P n))∧Below w.heap.size w w':=by
 have I:=M;obtain ⟨A,cp,rfl,O⟩:=M.toC;have J:=(Below.refl w.heap.size w).alloc (Nat.le_refl _) (.cells #[.int .i64 n.kind,.string n.text,.slice A n.kids.length cp,.int .i64 n.pos] 24);have h:=hid (fR d P f A cp n.kids _ (I.below J).kidsV hd.2 hd.1.1 (N.below J));(have hE:lY P n=(n.kind==6&&(n.text.toList.isEmpty&&n.kids.all P)):=by unfold lY;rw [aM,fQ]);rw [hE];clear hE I M O hd N;generalize n.kids.all P=q at *;generalize n.kind=k at *;generalize n.text=t at *;cases z:(k==6) <;> cases y:t.toList.isEmpty;all_goals
  (go_enter Tryz.func204,Tryz.ntmps204);(go_wp2_with fail);try
   refine h.out.mono ?_
   rintro e w1 ⟨rfl,D⟩
   have U:=J.trans (D.mono J.size)
   clear D
   go_wp2_with fail
  go_ret;exact ⟨rfl,by assumption⟩
end
end Go.Proofs.YtiebcdeafofgdaaGreatDoor
