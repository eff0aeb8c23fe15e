/-
  Parts of the proof: Tstr Tname Tof Tall Tofk Task Tplain Tsig. By an AI agent.
-/
import Derived.Test.YtmmjgmcfdnkomaaGreatDoorL01
import Derived.Test.YtmmjgmcfdnkomaaGreatDoorL00
import Derived.Laws.RangeAny
import Derived.Lib.RuneCount
import Derived.Laws.Entries
import Derived.Laws.EntriesVeiled
set_option maxRecDepth 100000
set_option maxHeartbeats 8000000
namespace Go.Proofs.YtmmjgmcfdnkomaaGreatDoor
section
open Go.RowKit Go.Lib Go.Proofs
attribute [local go_sem ↓] Go.wp_at_zero Go.wp_at_succ
def am (c:Int):Bool:=c==95||((decide (97≤c)&&decide (c≤122))||(decide (65≤c)&&decide (c≤90)))
def aj (c:Int):Bool:=decide (48≤c)&&decide (c≤57)
theorem bL (c:Int) (w:World):Calls Tryz.prog 174 #[.int .i32 c] w fun e w'=>e=.returned (.bool (am c))∧w=w':=by unfold am;cases M:(c==95) <;> cases K:decide (97≤c) <;> cases J:decide (c≤122) <;> cases I:decide (65≤c) <;> cases D:decide (c≤90);all_goals (go_enter Tryz.func174,Tryz.ntmps174);(go_wp2_with fail);go_ret;exact ⟨rfl,rfl⟩
theorem cZ (c:Int) (w:World):Calls Tryz.prog 177 #[.int .i32 c] w fun e w'=>e=.returned (.bool (aj c))∧w=w':=by unfold aj;cases I:decide (48≤c) <;> cases D:decide (c≤57);all_goals (go_enter Tryz.func177,Tryz.ntmps177);(go_wp2_with fail);go_ret;exact ⟨rfl,rfl⟩
theorem az {s x:ByteArray} (h:¬ s=x):(s.toList==x.data.toList)=false:=by rw [←ByteArray.toList_eq,dM];simpa using h
theorem mF (s:ByteArray) (w:World):Calls Tryz.prog 179 #[.string s] w fun e w'=>e=.returned (.int .i64 (aF s))∧w=w':=by
 by_cases N:s=(⟨#[98,114,101,97,107]⟩:BA)
 ·subst N;rw [show aF (⟨#[98,114,101,97,107]⟩:BA)=1 by decide +kernel];(go_enter Tryz.func179,Tryz.ntmps179);(go_wp2_with fail);go_ret;exact ⟨rfl,rfl⟩
 by_cases Q:s=(⟨#[99,111,110,116,105,110,117,101]⟩:BA)
 ·subst Q;rw [show aF (⟨#[99,111,110,116,105,110,117,101]⟩:BA)=1 by decide +kernel];clear N;(go_enter Tryz.func179,Tryz.ntmps179);(go_wp2_with fail);go_ret;exact ⟨rfl,rfl⟩
 by_cases S:s=(⟨#[101,108,115,101]⟩:BA)
 ·subst S;rw [show aF (⟨#[101,108,115,101]⟩:BA)=1 by decide +kernel];clear N Q;(go_enter Tryz.func179,Tryz.ntmps179);(go_wp2_with fail);go_ret;exact ⟨rfl,rfl⟩
 by_cases U:s=(⟨#[102,111,114]⟩:BA)
 ·subst U;rw [show aF (⟨#[102,111,114]⟩:BA)=1 by decide +kernel];clear N Q S;(go_enter Tryz.func179,Tryz.ntmps179);(go_wp2_with fail);go_ret;exact ⟨rfl,rfl⟩
 by_cases j:s=(⟨#[102,117,110,99]⟩:BA)
 ·subst j;rw [show aF (⟨#[102,117,110,99]⟩:BA)=1 by decide +kernel];clear N Q S U;(go_enter Tryz.func179,Tryz.ntmps179);(go_wp2_with fail);go_ret;exact ⟨rfl,rfl⟩
 by_cases k:s=(⟨#[105,102]⟩:BA)
 ·subst k;rw [show aF (⟨#[105,102]⟩:BA)=1 by decide +kernel];clear N Q S U j;(go_enter Tryz.func179,Tryz.ntmps179);(go_wp2_with fail);go_ret;exact ⟨rfl,rfl⟩
 by_cases q:s=(⟨#[105,109,112,111,114,116]⟩:BA)
 ·subst q;rw [show aF (⟨#[105,109,112,111,114,116]⟩:BA)=1 by decide +kernel];clear N Q S U j k;(go_enter Tryz.func179,Tryz.ntmps179);(go_wp2_with fail);go_ret;exact ⟨rfl,rfl⟩
 by_cases r:s=(⟨#[105,110,116,101,114,102,97,99,101]⟩:BA)
 ·subst r;rw [show aF (⟨#[105,110,116,101,114,102,97,99,101]⟩:BA)=1 by decide +kernel];clear N Q S U j k q;(go_enter Tryz.func179,Tryz.ntmps179);(go_wp2_with fail);go_ret;exact ⟨rfl,rfl⟩
 by_cases x:s=(⟨#[112,97,99,107,97,103,101]⟩:BA)
 ·subst x;rw [show aF (⟨#[112,97,99,107,97,103,101]⟩:BA)=1 by decide +kernel];clear N Q S U j k q r;(go_enter Tryz.func179,Tryz.ntmps179);(go_wp2_with fail);go_ret;exact ⟨rfl,rfl⟩
 by_cases y:s=(⟨#[114,97,110,103,101]⟩:BA)
 ·subst y;rw [show aF (⟨#[114,97,110,103,101]⟩:BA)=1 by decide +kernel];clear N Q S U j k q r x;(go_enter Tryz.func179,Tryz.ntmps179);(go_wp2_with fail);go_ret;exact ⟨rfl,rfl⟩
 by_cases D:s=(⟨#[114,101,116,117,114,110]⟩:BA)
 ·subst D;rw [show aF (⟨#[114,101,116,117,114,110]⟩:BA)=1 by decide +kernel];clear N Q S U j k q r x y;(go_enter Tryz.func179,Tryz.ntmps179);(go_wp2_with fail);go_ret;exact ⟨rfl,rfl⟩
 by_cases I:s=(⟨#[115,116,114,117,99,116]⟩:BA)
 ·subst I;rw [show aF (⟨#[115,116,114,117,99,116]⟩:BA)=1 by decide +kernel];clear N Q S U j k q r x y D;(go_enter Tryz.func179,Tryz.ntmps179);(go_wp2_with fail);go_ret;exact ⟨rfl,rfl⟩
 by_cases J:s=(⟨#[116,121,112,101]⟩:BA)
 ·subst J;rw [show aF (⟨#[116,121,112,101]⟩:BA)=1 by decide +kernel];clear N Q S U j k q r x y D I;(go_enter Tryz.func179,Tryz.ntmps179);(go_wp2_with fail);go_ret;exact ⟨rfl,rfl⟩
 by_cases K:s=(⟨#[118,97,114]⟩:BA)
 ·subst K;rw [show aF (⟨#[118,97,114]⟩:BA)=1 by decide +kernel];clear N Q S U j k q r x y D I J;(go_enter Tryz.func179,Tryz.ntmps179);(go_wp2_with fail);go_ret;exact ⟨rfl,rfl⟩
 by_cases M:s=(⟨#[99,97,115,101]⟩:BA)
 ·subst M;rw [show aF (⟨#[99,97,115,101]⟩:BA)=2 by decide +kernel];clear N Q S U j k q r x y D I J K;(go_enter Tryz.func179,Tryz.ntmps179);(go_wp2_with fail);go_ret;exact ⟨rfl,rfl⟩
 by_cases O:s=(⟨#[99,104,97,110]⟩:BA)
 ·subst O;rw [show aF (⟨#[99,104,97,110]⟩:BA)=2 by decide +kernel];clear N Q S U j k q r x y D I J K M;(go_enter Tryz.func179,Tryz.ntmps179);(go_wp2_with fail);go_ret;exact ⟨rfl,rfl⟩
 by_cases h:s=(⟨#[99,111,110,115,116]⟩:BA)
 ·subst h;rw [show aF (⟨#[99,111,110,115,116]⟩:BA)=2 by decide +kernel];clear N Q S U j k q r x y D I J K M O;(go_enter Tryz.func179,Tryz.ntmps179);(go_wp2_with fail);go_ret;exact ⟨rfl,rfl⟩
 by_cases o:s=(⟨#[100,101,102,97,117,108,116]⟩:BA)
 ·subst o;rw [show aF (⟨#[100,101,102,97,117,108,116]⟩:BA)=2 by decide +kernel];clear N Q S U j k q r x y D I J K M O h;(go_enter Tryz.func179,Tryz.ntmps179);(go_wp2_with fail);go_ret;exact ⟨rfl,rfl⟩
 by_cases u:s=(⟨#[100,101,102,101,114]⟩:BA)
 ·subst u;rw [show aF (⟨#[100,101,102,101,114]⟩:BA)=2 by decide +kernel];clear N Q S U j k q r x y D I J K M O h o;(go_enter Tryz.func179,Tryz.ntmps179);(go_wp2_with fail);go_ret;exact ⟨rfl,rfl⟩
 by_cases z:s=(⟨#[102,97,108,108,116,104,114,111,117,103,104]⟩:BA)
 ·subst z;rw [show aF (⟨#[102,97,108,108,116,104,114,111,117,103,104]⟩:BA)=2 by decide +kernel];clear N Q S U j k q r x y D I J K M O h o u;(go_enter Tryz.func179,Tryz.ntmps179);(go_wp2_with fail);go_ret;exact ⟨rfl,rfl⟩
 by_cases ga:s=(⟨#[103,111]⟩:BA)
 ·subst ga;rw [show aF (⟨#[103,111]⟩:BA)=2 by decide +kernel];clear N Q S U j k q r x y D I J K M O h o u z;(go_enter Tryz.func179,Tryz.ntmps179);(go_wp2_with fail);go_ret;exact ⟨rfl,rfl⟩
 by_cases gb:s=(⟨#[103,111,116,111]⟩:BA)
 ·subst gb;rw [show aF (⟨#[103,111,116,111]⟩:BA)=2 by decide +kernel];clear N Q S U j k q r x y D I J K M O h o u z ga;(go_enter Tryz.func179,Tryz.ntmps179);(go_wp2_with fail);go_ret;exact ⟨rfl,rfl⟩
 by_cases gd:s=(⟨#[109,97,112]⟩:BA)
 ·subst gd;rw [show aF (⟨#[109,97,112]⟩:BA)=2 by decide +kernel];clear N Q S U j k q r x y D I J K M O h o u z ga gb;(go_enter Tryz.func179,Tryz.ntmps179);(go_wp2_with fail);go_ret;exact ⟨rfl,rfl⟩
 by_cases ge:s=(⟨#[115,101,108,101,99,116]⟩:BA)
 ·subst ge;rw [show aF (⟨#[115,101,108,101,99,116]⟩:BA)=2 by decide +kernel];clear N Q S U j k q r x y D I J K M O h o u z ga gb gd;(go_enter Tryz.func179,Tryz.ntmps179);(go_wp2_with fail);go_ret;exact ⟨rfl,rfl⟩
 by_cases gg:s=(⟨#[115,119,105,116,99,104]⟩:BA)
 ·subst gg;rw [show aF (⟨#[115,119,105,116,99,104]⟩:BA)=2 by decide +kernel];clear N Q S U j k q r x y D I J K M O h o u z ga gb gd ge;(go_enter Tryz.func179,Tryz.ntmps179);(go_wp2_with fail);go_ret;exact ⟨rfl,rfl⟩
 (have hz:aF s=0:=by simp only [aF,rB,rC,List.any_cons,List.any_nil,N,Q,S,U,j,k,q,r,x,y,D,I,J,K,M,O,h,o,u,z,ga,gb,gd,ge,gg,decide_false,Bool.or_false,Bool.false_eq_true,if_false]);have q0:(s.toList==[98,114,101,97,107])=false:=az N;have q1:(s.toList==[99,111,110,116,105,110,117,101])=false:=az Q;have q2:(s.toList==[101,108,115,101])=false:=az S;have q3:(s.toList==[102,111,114])=false:=az U;have q4:(s.toList==[102,117,110,99])=false:=az j;have q5:(s.toList==[105,102])=false:=az k;have q6:(s.toList==[105,109,112,111,114,116])=false:=az q;have q7:(s.toList==[105,110,116,101,114,102,97,99,101])=false:=az r;have q8:(s.toList==[112,97,99,107,97,103,101])=false:=az x;have q9:(s.toList==[114,97,110,103,101])=false:=az y;have gw:(s.toList==[114,101,116,117,114,110])=false:=az D;have gv:(s.toList==[115,116,114,117,99,116])=false:=az I;have gu:(s.toList==[116,121,112,101])=false:=az J;have gt:(s.toList==[118,97,114])=false:=az K;have gs:(s.toList==[99,97,115,101])=false:=az M;have gr:(s.toList==[99,104,97,110])=false:=az O;have gq:(s.toList==[99,111,110,115,116])=false:=az h;have gp:(s.toList==[100,101,102,97,117,108,116])=false:=az o;have gn:(s.toList==[100,101,102,101,114])=false:=az u;have gm:(s.toList==[102,97,108,108,116,104,114,111,117,103,104])=false:=az z;have gl:(s.toList==[103,111])=false:=az ga;have gk:(s.toList==[103,111,116,111])=false:=az gb;have gj:(s.toList==[109,97,112])=false:=az gd;have gi:(s.toList==[115,101,108,101,99,116])=false:=az ge;have gh:(s.toList==[115,119,105,116,99,104])=false:=az gg;rw [hz];clear hz N Q S U j k q r x y D I J K M O h o u z ga gb gd ge gg;(go_enter Tryz.func179,Tryz.ntmps179);(go_wp2_with fail);go_ret;exact ⟨rfl,rfl⟩
theorem ao {w wr:World} {b:Nat} {s:ByteArray} {k:Nat} {B:Nat} (h:Below B w wr) (hb:B≤b):Below B w (wr.iterAt b s k):=
 ⟨h.os,h.tape,h.output,by rw [iterAt_size];exact h.size,fun j hj=>(iterAt_other wr _ _ s _ (by omega)).trans (h.block j hj)⟩
theorem fj (s:ByteArray) (i:Nat) (h:i<s.size):1≤(Utf8.decode s i).2∧i+(Utf8.decode s i).2≤s.size:=by simp only [Utf8.decode];(repeat' split);(all_goals simp_all);all_goals omega
def tj (s:ByteArray) (j:Nat):Bool:=am ((s.data.toList.getD j 0).toNat:Int)||(decide (0<j)&&aj ((s.data.toList.getD j 0).toNat:Int))
theorem cK (c:UInt8):iC c=am (c.toNat:Int):=by unfold iC am;rw [Bool.eq_iff_iff];simp [UInt8.le_iff_toNat_le,←UInt8.toNat_inj];omega
theorem cL (c:UInt8):bx c=aj (c.toNat:Int):=by unfold bx aj;rw [Bool.eq_iff_iff];simp [UInt8.le_iff_toNat_le];omega
theorem ld (l:List UInt8):cP l=true↔∀ j,j<l.length→(am ((l.getD j 0).toNat:Int)||(decide (0<j)&&aj ((l.getD j 0).toNat:Int)))=true:=by
 cases l with
 | nil=>simp [cP]
 | cons c r=>
  unfold cP;rw [Bool.and_eq_true,List.all_eq_true];constructor
  ·rintro ⟨K,J⟩ j D;cases j with
   | zero=>simp [←cK,K]
   | succ j=>(have I:j<r.length:=by simpa using D);have:=J r[j] (List.getElem_mem _);rw [cK,cL] at this;simpa [I] using this
  ·intro h;refine ⟨by have:=h 0 (by simp);simpa [←cK] using this,fun x hx=>?_⟩;obtain ⟨j,D,rfl⟩:=List.mem_iff_getElem.1 hx;have:=h (j+1) (by simpa using D);rw [cK,cL];simpa [D] using this
theorem cH {c:Int} (h:128≤c):am c=false:=by unfold am;(have J:(c==95)=false:=by simp;omega);(have I:decide (c≤122)=false:=by simp;omega);(have D:decide (c≤90)=false:=by simp;omega);rw [J,I,D];simp
theorem bi {c:Int} (h:128≤c):aj c=false:=by unfold aj;(have D:decide (c≤57)=false:=by simp;omega);rw [D];simp
theorem dU (s:ByteArray) (i:Nat) (h:i<s.size):(Utf8.decode s i=((s.data.toList.getD i 0).toNat,1)∧(s.data.toList.getD i 0).toNat<128)∨(128≤(Utf8.decode s i).1∧128≤(s.data.toList.getD i 0).toNat):=by
 (have e:s.data.toList.getD i 0=s[i]:=by rw [List.getD_eq_getElem?_getD,List.getElem?_eq_getElem (by simpa using h)];rfl);rw [e];rcases Nat.lt_or_ge s[i].toNat 128 with D | D
 ·exact .inl ⟨decode_ascii s i h D,D⟩
 ·exact .inr ⟨(Go.decode_high s i h D).1,D⟩
def er (i:Nat) (c:Int):Bool:=am c||(decide (0<i)&&aj c)
theorem mG (s:ByteArray) (w:World):Calls Tryz.prog 244 #[.string s] w fun e w'=>e=.returned (.bool (eL s))∧Below w.heap.size w w':=by
 (have hT:eL s=(cP s.data.toList&&(!s.toList.isEmpty&&(aF s==0))):=by unfold eL;rw [ai,b7];congr 2;rw [Bool.eq_iff_iff];simp);have hN:=ld s.data.toList;rw [hT];generalize cP s.data.toList=nc at *;have HN:=hid hN;clear hT hN;have i1:=World.iter_heap w s 0;have i2:Below w.heap.size w (w.iter s 0):=(Below.refl _ w).alloc (Nat.le_refl _) _;(go_enter Tryz.func244,Tryz.ntmps244);(go_wp2_with fail);go_loopg [3,4,7,8] s.size (fun g _ _ _ _ wr=>∃ i:Nat,i≤s.size∧s.size-i≤g∧wr.heap[w.heap.size]? = some (.stringIter s i)∧Below w.heap.size w wr∧(∀ j,j<i→tj s j=true))
 case atStart=>exact ⟨0,Nat.zero_le _,by omega,i1,i2,fun j hj=>by omega⟩
 case round=>
  clear i1 i2;obtain ⟨i,hi,hg,hit,hB,S⟩:=hrel;have x:=hid hit;have HA:=hid S;clear hit S;by_cases K:i<s.size
  ·have hw:=fj s i K;have o:=dU s i K;have I:=fun ty=>run_next_any_at (P:=Tryz.prog) wr w.heap.size s i ty x.out K;have ga:tj s i=er i ((s.data.toList.getD i 0).toNat:Int):=rfl;generalize hb:(s.data.toList.getD i 0).toNat=b at *;generalize hd:Utf8.decode s i=q at *;obtain ⟨r,k⟩:=q;simp only at hw I o;have Q:er i (r:Int)=er i (b:Int)∧(er i (r:Int)=true→k=1):=by
    rcases o with ⟨e,_⟩ | ⟨h1,h2⟩
    ·injection e with e1 e2;subst e1 e2;exact ⟨rfl,fun _=>rfl⟩
    ·unfold er;rw [cH (by omega),cH (by omega),bi (by omega),bi (by omega)];exact ⟨rfl,by simp⟩
   have u:=hid ga;have J:=hid Q;have j1:=iterAt_heap wr w.heap.size s i (i+k) x.out;have j2:Below w.heap.size w (wr.iterAt w.heap.size s (i+k)):=ao hB (Nat.le_refl _);generalize wr.iterAt w.heap.size s (i+k)=W1 at I j1 j2;have J1:=hid j1;clear ga Q o j1 hd hb;have O:er i (r:Int)=false→nc=false:=by
    intro hf;cases hn:nc with
    | false=>rfl
    | true=>have:=(HN.out.1 hn) i (by simpa using K);rw [show (am ((s.data.toList.getD i 0).toNat:Int)||(decide (0<i)&&aj ((s.data.toList.getD i 0).toNat:Int)))=tj s i from rfl,u.out,←J.out.1,hf] at this;cases this
   have N:=hid O;have gb:er i (r:Int)=true→k=1∧∀ j,j<i+k→tj s j=true:=by
    intro hf;have hk:=J.out.2 hf;refine ⟨hk,fun j hj=>?_⟩;by_cases e:j=i
    ·subst e;rw [u.out,←J.out.1,hf]
    ·exact HA.out j (by omega)
   have y:=hid gb;clear O gb J u HA;unfold er at N y;cases U:am (r:Int) with
   | true=>
    obtain ⟨_,D⟩:=y.out (by rw [U];rfl);have M:=hid D;clear D;(go_wp2_with fail);refine (bL _ _).mono ?_;rw [U];rintro e w1 ⟨rfl,rfl⟩;(go_wp2_with fail);go_roundg (s.size-(i+k))
    case measure=>omega
    case rel=>exact ⟨i+k,hw.2,Nat.le_refl _,J1.out,j2,M.out⟩
   | false=>
    by_cases hz:i=0
    ·have z:=hid (N.out (by rw [U,hz];rfl));(have ge:((i:Int)==0)=true:=by simp [hz]);clear hz;(go_wp2_with fail);refine (bL _ _).mono ?_;rw [U];rintro e w1 ⟨rfl,rfl⟩;(go_wp2_with fail);go_ret;exact ⟨by rw [z.out];rfl,j2⟩
    ·(have ge:((i:Int)==0)=false:=by simp;omega);(have h:decide (0<i)=true:=by simp;omega);cases hF:aj (r:Int) with
     | true=>
      obtain ⟨_,D⟩:=y.out (by rw [U,hF,h];rfl);have M:=hid D;clear D h hz;(go_wp2_with fail);refine (bL _ _).mono ?_;rw [U];rintro e w1 ⟨rfl,rfl⟩;(go_wp2_with fail);refine (cZ _ _).mono ?_;rw [hF];rintro e w1 ⟨rfl,rfl⟩;(go_wp2_with fail);go_roundg (s.size-(i+k))
      case measure=>omega
      case rel=>exact ⟨i+k,hw.2,Nat.le_refl _,J1.out,j2,M.out⟩
     | false=>have z:=hid (N.out (by rw [U,hF];simp));clear h hz;(go_wp2_with fail);refine (bL _ _).mono ?_;rw [U];rintro e w1 ⟨rfl,rfl⟩;(go_wp2_with fail);refine (cZ _ _).mono ?_;rw [hF];rintro e w1 ⟨rfl,rfl⟩;(go_wp2_with fail);go_ret;exact ⟨by rw [z.out];rfl,j2⟩
  ·(have gd:i=s.size:=by omega);have I:=fun ty=>run_next_end_at (P:=Tryz.prog) wr w.heap.size s i ty x.out K;have z:=hid (show nc=true from HN.out.2 fun j hj=>HA.out j (by simp at hj;omega));clear gd;cases hE:s.toList.isEmpty with
   | true=>(go_wp2_with fail);go_ret;exact ⟨by rw [z.out,hE];rfl,hB⟩
   | false=>(go_wp2_with fail);refine (mF _ _).mono ?_;rintro e w1 ⟨rfl,rfl⟩;(go_wp2_with fail);go_ret;exact ⟨by rw [z.out,hE];rfl,hB⟩
theorem ia (w:World) (v:Value) (n:Nd) (D:bo w v n):Calls Tryz.prog 267 #[v] w fun e w'=>e=.returned (.bool (al n))∧Below w.heap.size w w':=by obtain ⟨A,cp,rfl,J⟩:=D.toC;(have I:al n=(n.kind==0&&(n.text.toList.isEmpty&&((n.kids.length:Int)==0))):=by unfold al;rw [ai,b7,b7];congr 2;rw [decide_eq_decide];omega);rw [I];generalize hl:(n.kids.length:Int)=m at *;generalize n.kind=k at *;generalize n.text=t at *;clear I D J;cases N:(k==0) <;> cases M:t.toList.isEmpty <;> cases K:(m==0);all_goals (go_enter Tryz.func267,Tryz.ntmps267);(go_wp2_with fail);go_ret;refine ⟨rfl,?_⟩;exact bel
theorem av.retext {X:Nat→Prop} {w:World} {k:Value} {t p:Value} {A:Option Addr} {c:Nat} {n:Nd} (h:av X w (.agg #[k,t,.slice A n.kids.length c,p]) n) (x:ByteArray) :
  av X w (.agg #[.int .i64 n.kind,.string x,.slice A n.kids.length c,.int .i64 n.pos]) (.mk n.kind x n.kids n.pos):=by obtain ⟨K,c1,xs,e,J,I,D⟩:=h;injection e with e;injection e with e;simp only [List.cons.injEq,and_true] at e;obtain ⟨_,_,e,_⟩:=e;injection e with e1 _ e3;subst e1 e3;exact ⟨A,c,xs,rfl,J,I,D⟩
def uP (w:World) (n:Nd) (e:Ending) (w':World):Prop:=∃ v,e=.returned v∧bo w' v n∧Below w.heap.size w w'
theorem aB (w:World) (v:Value) (n:Nd) (K:bo w v n) (f:Fv) (P:ByteArray→Bool) (M:mE P f w) (o:n.text.size≤1000000000) :
  Calls Tryz.prog 248 #[v,.func (.func f.k) #[] f.cap] w (uP w (ag P n)):=by
 have I:=K;obtain ⟨A,cp,rfl,u⟩:=K.toC;have r:=M.enter;have j:=hid M;have N:=((Below.refl w.heap.size w).alloc (Nat.le_refl _) (.cells #[.int .i64 n.kind,.string n.text,.slice A n.kids.length cp,.int .i64 n.pos] 41)).alloc (by simp) (.cells l6 41);have h:ac ((w.alloc (.cells #[.int .i64 n.kind,.string n.text,.slice A n.kids.length cp,.int .i64 n.pos] 41)).alloc (.cells l6 41)) w.heap.size 41 #[.int .i64 n.kind,.string n.text,.slice A n.kids.length cp,.int .i64 n.pos]:=(ac.new w _ _).alloc _;have U:ac ((w.alloc (.cells #[.int .i64 n.kind,.string n.text,.slice A n.kids.length cp,.int .i64 n.pos] 41)).alloc (.cells l6 41)) (w.heap.size+1) 41 l6:=ac.new_at (by simp) _ _;have O:=hid I;clear I K u M;(go_enter Tryz.func248,Tryz.ntmps248);(go_wp2_with fail);refine (j.out.out _ _ N o).mono ?_;rintro e S ⟨rfl,D⟩;have c1:=h.below D (by simp;omega);have c2:=U.below D (by simp);have x:=ah N D;clear h U N D r j;obtain ⟨x0,x1,x2,x3,y0,y1,y2,y3⟩:=aJ c1;obtain ⟨z0,z1,z,y,u0,u1,u2,u3⟩:=aJ c2;(have q:w.heap.size+1≠w.heap.size:=by omega);cases J:P n.text with
 | true=>have Q:=hid (show ag P n=.mk n.kind (⟨#[]⟩:BA) n.kids n.pos by unfold ag;rw [J];rfl);clear J;(go_wp2_with fail);have hb:ac (fe (S.setCell ⟨w.heap.size,1,none⟩ (.string (⟨#[]⟩:BA))) (w.heap.size+1) (.int .i64 n.kind) (.string (⟨#[]⟩:BA)) (.slice A n.kids.length cp) (.int .i64 n.pos)) (w.heap.size+1) 41 #[.int .i64 n.kind,.string (⟨#[]⟩:BA),.slice A n.kids.length cp,.int .i64 n.pos]:=eo (c2.far (p:=⟨w.heap.size,1,none⟩) (by show w.heap.size+1≠w.heap.size;omega) _) _ _ _ _;refine bodyPost_ret (dN rfl _ (by rfl) hb) rfl ?_;rw [Q.out];exact ⟨_,rfl,(av.retext O.out (⟨#[]⟩:BA)).below fd,fd⟩
 | false=>have Q:=hid (show ag P n=.mk 37 (⟨#[]⟩:BA) [] 0 by unfold ag;rw [J];rfl);clear J;(go_wp2_with fail);have hb:ac (fe S (w.heap.size+1) (.int .i64 37) (.string (⟨#[]⟩:BA)) (.slice none 0 0) (.int .i64 0)) (w.heap.size+1) 41 #[.int .i64 37,.string (⟨#[]⟩:BA),.slice none 0 0,.int .i64 0]:=eo c2 _ _ _ _;refine bodyPost_ret (dN rfl _ (by rfl) hb) rfl ?_;rw [Q.out];exact ⟨_,rfl,av.leaf _ _ _,fd⟩
theorem aA {w:World} {g:Nat} {t:TypeId} {a:Value} (h:ac w g t #[a]):w.cell? ⟨g,0,none⟩=some a:=by have c0:=h.cell 0;simp at c0;exact c0
theorem tl (d:Nat) (P Q:Nd→Bool) (f g:Fv) (w0:World) (j:dT d P f w0) (h:dT d Q g w0) (a b:Nat)
  (r:ac w0 a 206 #[.func (.func f.k) #[] f.cap]) (hb:ac w0 b 206 #[.func (.func g.k) #[] g.cap]) :
  dT d (cn P Q) ⟨294,#[.pointer (some ⟨a,0,none⟩),.pointer (some ⟨b,0,none⟩)]⟩ w0:=by
 refine ⟨fun a w=>by kernel_rfl,fun w v n hw hv hd=>?_⟩;have gb:=j.enter;have ga:=h.enter;have J:=hv;obtain ⟨A,cp,rfl,hC⟩:=hv.toC;have S:=(aq w #[.int .i64 n.kind,.string n.text,.slice A n.kids.length cp,.int .i64 n.pos]).1;have I:=hw.alloc hw.size (.cells #[.int .i64 n.kind,.string n.text,.slice A n.kids.length cp,.int .i64 n.pos] 41);have x:=(aq w #[.int .i64 n.kind,.string n.text,.slice A n.kids.length cp,.int .i64 n.pos]).2;have ca:=aA (r.bl I);have y:=hid (j.out _ _ n I (J.below S) hd);have U:=hb.lt;have HV:=hid (J.below S);have HG:=hid h;have q:=hid hb;have z:=hw.size;show Calls _ _ _ w fun e w'=>e=.returned (.bool (P n||Q n))∧_;clear j h J hv hC r hb;(go_enter Tryz.func294,Tryz.ntmps294);(go_wp2_with fail);refine y.out.mono ?_;rintro e w1 ⟨rfl,D⟩;have M:=ah I D;have cb:=aA (q.out.below M U);obtain ⟨x0,x1,x2,x3,_,_,_,_⟩:=aJ (x.below D (by simp));have O:=hid (HG.out.out _ _ n M (HV.out.below D) hd);have K:=ah S D;clear D S x I ca y;cases u:P n with
 | true=>(go_wp2_with fail);go_ret;exact ⟨by rw [u];rfl,K⟩
 | false=>(go_wp2_with fail);refine O.out.mono ?_;rintro e w2 ⟨rfl,N⟩;have o:=ah K N;clear N O K;(go_wp2_with fail);go_ret;exact ⟨by rw [u];rfl,o⟩
theorem bD (d:Nat) (P Q:Nd→Bool) (f g:Fv) (w:World) (J:dT d P f w) (I:dT d Q g w) :
  Calls Tryz.prog 251 #[.func (.func f.k) #[] f.cap,.func (.func g.k) #[] g.cap] w fun e w'=>∃ h:Fv,e=.returned (.func (.func h.k) #[] h.cap)∧dT d (cn P Q) h w'∧Below w.heap.size w w':=by have O:=hid J;have N:=hid I;have D:=((Below.refl w.heap.size w).alloc (Nat.le_refl _) (.cells #[.func (.func f.k) #[] f.cap] 206)).alloc (by simp) (.cells #[.func (.func g.k) #[] g.cap] 206);have M:ac ((w.alloc (.cells #[.func (.func f.k) #[] f.cap] 206)).alloc (.cells #[.func (.func g.k) #[] g.cap] 206)) w.heap.size 206 #[.func (.func f.k) #[] f.cap]:=(ac.new w _ _).alloc _;have K:ac ((w.alloc (.cells #[.func (.func f.k) #[] f.cap] 206)).alloc (.cells #[.func (.func g.k) #[] g.cap] 206)) (w.heap.size+1) 206 #[.func (.func g.k) #[] g.cap]:=ac.new_at (by simp) _ _;clear J I;(go_enter Tryz.func251,Tryz.ntmps251);(go_wp2_with fail);go_ret;exact ⟨⟨294,#[.pointer (some ⟨w.heap.size,0,none⟩),.pointer (some ⟨w.heap.size+1,0,none⟩)]⟩,rfl,tl d P Q f g _ (O.out.below D) (N.out.below D) _ _ M K,D⟩
theorem cY.at_ {w:World} {A:Option Addr} {n c:Nat} {l:List Nd} (h:cY w (.slice A n c) l) (i:Nat) (J:i<l.length) :
  n = l.length∧∃ b off D cp,A=some ⟨b,off,none⟩∧b<w.heap.size∧w.cell? ⟨b,off+i * 4,none⟩=some (.int .i64 l[i].kind)∧w.cell? ⟨b,off+i * 4+1,none⟩=some (.string l[i].text) ∧
    w.cell? ⟨b,off+i * 4+2,none⟩=some (.slice D l[i].kids.length cp)∧w.cell? ⟨b,off+i * 4+3,none⟩=some (.int .i64 l[i].pos) ∧
    bo w (.agg #[.int .i64 l[i].kind,.string l[i].text,.slice D l[i].kids.length cp,.int .i64 l[i].pos]) l[i]:=by (have I:n=l.length:=by obtain ⟨_,_,_,e,_⟩:=h;injection e);obtain ⟨b,off,D,cp,e,_,S,Q,O,N,M,K⟩:=h.kid i J;exact ⟨I,b,off,D,cp,e,S,Q,O,N,M,K⟩
def lf (P:Nd→Bool):List Nd→Nat→Int
 | [],_ => -1
 | n::l,i=>if P n then (i:Int) else lf P l (i+1)
theorem mH (P:Nd→Bool):∀ (l:List Nd) (i:Nat),decide (0≤lf P l i)=l.any P
 | [],i=>rfl
 | n::l,i=>by
  rw [lf,List.any_cons];cases D:P n with
  | true=>simp
  | false=>simpa using mH P l (i+1)
theorem pj (P:Nd→Bool) (l:List Nd) (i:Nat) (D:i<l.length):lf P (l.drop i) i=if P l[i] then (i:Int) else lf P (l.drop (i+1)) (i+1):=by rw [List.drop_eq_getElem_cons D,lf]
theorem lg (d:Nat) (P:Nd→Bool) (f:Fv) (A:Option Addr) (c:Nat) (l:List Nd) (w:World) (q:cY w (.slice A l.length c) l) (hd:∀ n∈l,cQ d n) (hl:l.length≤1000000000) (o:dT d P f w) :
  Calls Tryz.prog 290 #[.slice A l.length c,.func (.func f.k) #[] f.cap] w fun e w'=>e=.returned (.int .i64 (lf P l 0))∧Below w.heap.size w w':=by
 have he:=o.enter;have z:=hid o;have y:=hid q;have HD:=hid hd;generalize O:lf P l 0=I;have U:=hid O;clear o q hd O;(go_enter Tryz.func290,Tryz.ntmps290);(go_wp2_with fail);go_loopg [5,8] l.length (fun g _ u8 wr=>∃ i:Nat,i≤l.length∧l.length-i≤g∧u8=.int .i64 (i:Int)∧lf P (l.drop i) i=I∧Below w.heap.size w wr)
 case atStart=>exact ⟨0,Nat.zero_le _,by omega,rfl,by simpa using U.out,Below.refl _ _⟩
 case round=>
  obtain ⟨i,hi,hg,rfl,O,Q⟩:=hrel;have U:=hid O;clear O;by_cases K:i<l.length
  ·(have N:(i:Int)<(l.length:Int):=by omega);(have h0:(0:Int)≤(i:Int):=by omega);obtain ⟨_,b,off,A1,cp,rfl,hb,k0,k1,k2,k3,r⟩:=cY.at_ (y.out.below Q) i K;have j:=hid (z.out.out _ _ l[i] Q r (HD.out _ (List.getElem_mem K)));have u:=hid (pj P l i K);generalize l[i]=x at *;clear r;cases h:P x with
   | true=>have S:=hid (show I=(i:Int) by rw [←U.out,u.out,h];rfl);(go_wp2_with fail);refine j.out.mono ?_;rw [h];rintro e w1 ⟨rfl,D⟩;have M:=ah Q D;clear D j;(go_wp2_with fail);go_ret;exact ⟨by rw [S.out];rfl,M⟩
   | false=>
    have S:=hid (show lf P (l.drop (i+1)) (i+1)=I by rw [←U.out,u.out,h];rfl);(go_wp2_with fail);refine j.out.mono ?_;rw [h];rintro e w1 ⟨rfl,D⟩;have M:=ah Q D;clear D j;(go_wp2_with fail);go_roundg (l.length-(i+1))
    case measure=>omega
    case rel=>exact ⟨i+1,by omega,Nat.le_refl _,by go_num,S.out,M⟩
  ·(have N:¬ (i:Int)<(l.length:Int):=by omega);have J:l.drop i=[]:=List.drop_of_length_le (by omega);have S:=hid (show I = -1 by rw [←U.out,J];rfl);clear J;(go_wp2_with fail);go_ret;exact ⟨by rw [S.out];rfl,Q⟩
theorem ib (d:Nat) (P:Nd→Bool) (f:Fv) (A:Option Addr) (c:Nat) (l:List Nd) (w:World) (I:cY w (.slice A l.length c) l) (hd:∀ n∈l,cQ d n) (K:l.length≤1000000000) (J:dT d P f w) :
  Calls Tryz.prog 245 #[.slice A l.length c,.func (.func f.k) #[] f.cap] w fun e w'=>e=.returned (.bool (l.any P))∧Below w.heap.size w w':=by have M:=hid (lg d P f A c l w I hd K J);rw [←mH P l 0];clear I hd J;(go_enter Tryz.func245,Tryz.ntmps245);(go_wp2_with fail);refine M.out.mono ?_;rintro e w1 ⟨rfl,D⟩;(go_wp2_with fail);go_ret;exact ⟨rfl,D⟩
theorem rE (d:Nat) (P:Nd→Bool) (f:Fv) (w0:World) (K:dT d P f w0) (a:Nat) (M:ac w0 a 206 #[.func (.func f.k) #[] f.cap]) :
  dT d (fun n => !P n) ⟨246,#[.pointer (some ⟨a,0,none⟩)]⟩ w0:=by refine ⟨fun a w=>by kernel_rfl,fun w v n hw hv hd=>?_⟩;have h:=K.enter;have J:=hv;obtain ⟨A,cp,rfl,j⟩:=hv.toC;have O:=(aq w #[.int .i64 n.kind,.string n.text,.slice A n.kids.length cp,.int .i64 n.pos]).1;have D:=hw.alloc hw.size (.cells #[.int .i64 n.kind,.string n.text,.slice A n.kids.length cp,.int .i64 n.pos] 41);have ca:=aA (M.bl D);have Q:=hid (K.out _ _ n D (J.below O) hd);have U:=M.lt;have S:=hw.size;show Calls _ _ _ w fun e w'=>e=.returned (.bool (!P n))∧_;clear K J hv j M;(go_enter Tryz.func246,Tryz.ntmps246);(go_wp2_with fail);refine Q.out.mono ?_;rintro e w1 ⟨rfl,I⟩;have N:=ah O I;clear I O D ca Q;(go_wp2_with fail);go_ret;exact ⟨rfl,N⟩
theorem tm (P:Nd→Bool) (l:List Nd):(!(l.any fun n => !P n))=l.all P:=by
 induction l with
 | nil=>rfl
 | cons n l ih=>rw [List.any_cons,List.all_cons,←ih];cases P n <;> simp
theorem b8 (d:Nat) (P:Nd→Bool) (f:Fv) (A:Option Addr) (c:Nat) (l:List Nd) (w:World) (K:cY w (.slice A l.length c) l) (hd:∀ n∈l,cQ d n) (O:l.length≤1000000000) (M:dT d P f w) :
  Calls Tryz.prog 197 #[.slice A l.length c,.func (.func f.k) #[] f.cap] w fun e w'=>e=.returned (.bool (l.all P))∧Below w.heap.size w w':=by have I:=(Below.refl w.heap.size w).alloc (Nat.le_refl _) (.cells #[.func (.func f.k) #[] f.cap] 206);have N:=ac.new w 206 #[.func (.func f.k) #[] f.cap];have Q:=hid (ib d (fun n => !P n) ⟨246,#[.pointer (some ⟨w.heap.size,0,none⟩)]⟩ A c l _ (K.below I) hd O (rE d P f _ (M.below I) _ N));(have S:∀ a w,(callFunc 246 a).run Tryz.prog w=.ok (.enter 246 a) w:=fun a w=>by kernel_rfl);rw [←tm P l];clear K hd M N;(go_enter Tryz.func197,Tryz.ntmps197);(go_wp2_with fail);refine Q.out.mono ?_;rintro e w1 ⟨rfl,D⟩;have J:=ah I D;clear D I;(go_wp2_with fail);go_ret;exact ⟨rfl,J⟩
theorem mI (d:Nat) (P:Nd→Bool) (f:Fv) (v:Value) (n:Nd) (w:World) (J:bo w v n) (hd:cQ (d+1) n) (M:dT d P f w) :
  Calls Tryz.prog 292 #[v,.func (.func f.k) #[] f.cap] w fun e w'=>e=.returned (.bool (fJ P n))∧Below w.heap.size w w':=by
 have I:=J;obtain ⟨A,cp,rfl,O⟩:=J.toC;have K:=(aq w #[.int .i64 n.kind,.string n.text,.slice A n.kids.length cp,.int .i64 n.pos]).1;have S:=hid (b8 d P f A cp n.kids _ (I.below K).kidsV hd.2 hd.1.1 (M.below K));(have N:fJ P n=(n.kind==6&&(n.text.toList.isEmpty&&n.kids.all P)):=by unfold fJ;rw [ai,b7]);rw [N];clear N I J O hd M;generalize n.kids.all P=q at *;generalize n.kind=k at *;generalize n.text=t at *;cases h:(k==6) <;> cases U:t.toList.isEmpty;all_goals
  (go_enter Tryz.func292,Tryz.ntmps292);(go_wp2_with fail);try
   refine S.out.mono ?_
   rintro e w1 ⟨rfl,D⟩
   have Q:=ah K D
   clear D
   go_wp2_with fail
  go_ret;exact ⟨rfl,by assumption⟩
theorem fk:∀ (l:List (Nd→Bool)) (ns:List Nd),l.length≠ns.length→cU l ns=false
 | [],[],h=>absurd rfl h
 | [],_::_,_=>rfl
 | _::_,[],_=>rfl
 | p::l,n::ns,h=>by rw [cU,fk l ns (by simpa using h)];simp
theorem mJ (l:List (Nd→Bool)) (ns:List Nd) (i:Nat) (I:i<l.length) (D:i<ns.length):cU (l.drop i) (ns.drop i)=(l[i] ns[i]&&cU (l.drop (i+1)) (ns.drop (i+1))):=by rw [List.drop_eq_getElem_cons I,List.drop_eq_getElem_cons D,cU]
def aQ (w:World) (B:Option Addr) (fs:List (Fv × (Nd→Bool))):Prop:=
 (fs=[]∧B=none)∨∃ b,B=some ⟨b,0,none⟩∧ac w b 206 (fs.map fun x=>Value.func (.func x.1.k) #[] x.1.cap).toArray
theorem aQ.below {w w':World} {B:Option Addr} {fs:List (Fv × (Nd→Bool))} (h:aQ w B fs) (hb:Below w.heap.size w w'):aQ w' B fs:=by
 rcases h with h | ⟨b,e,h⟩
 ·exact .inl h
 ·exact .inr ⟨b,e,h.bl hb⟩
theorem aQ.get {w:World} {B:Option Addr} {fs:List (Fv × (Nd→Bool))} (h:aQ w B fs) (i:Nat) (D:i<fs.length):∃ b,B=some ⟨b,0,none⟩∧b<w.heap.size∧w.cell? ⟨b,i,none⟩=some (.func (.func fs[i].1.k) #[] fs[i].1.cap):=by
 rcases h with ⟨rfl,_⟩ | ⟨b,e,h⟩
 ·simp at D
 ·refine ⟨b,e,h.lt,?_⟩;rw [h.cell i];simp [D]
theorem au (d:Nat) (fs:List (Fv × (Nd→Bool))) (k:Int) (v:Value) (n:Nd) (B:Option Addr) (w:World) (m:Nat) (hm:fs.length=m) (ge:m≤9)
  (hv:bo w v n) (hd:cQ (d+1) n) (O:aQ w B fs) (hs:∀ x∈fs,dT d x.2 x.1 w) :
  Calls Tryz.prog 247 #[v,.int .i64 k,.slice B m m] w fun e w'=>e=.returned (.bool (bY k (fs.map (·.2)) n))∧Below w.heap.size w w':=by
 have h:=hv;obtain ⟨A,cp,rfl,hC⟩:=hv.toC;have J:=(aq w #[.int .i64 n.kind,.string n.text,.slice A n.kids.length cp,.int .i64 n.pos]).1;have b1:=(aq w #[.int .i64 n.kind,.string n.text,.slice A n.kids.length cp,.int .i64 n.pos]).2;have HK:=hid (av.kidsV (h.below J));have HF:=hid (O.below J);have HS:=hid (fun x hx=>(hs x hx).below J);have r:=hid hm;have HD:=hid hd.2;have gb:=hd.1.1;have hE:bY k (fs.map (·.2)) n=(!(n.kind != k)&&(!(!n.text.toList.isEmpty)&&(!((n.kids.length:Int) != (m:Int))&&cU (fs.map (·.2)) n.kids))):=by
  unfold bY;rw [ai];by_cases h3:n.kids.length=m
  ·(have:((n.kids.length:Int) != (m:Int))=false:=by simp [h3]);rw [this];simp [bne,b7]
  ·(have z:((n.kids.length:Int) != (m:Int))=true:=by simp;omega);rw [z,fk (fs.map (·.2)) n.kids (by rw [List.length_map];omega)];simp
 rw [hE];clear hE h hv hC hd O hs hm;generalize j:cU (fs.map (·.2)) n.kids=I;have u:=hid j;clear j;generalize n.kind=nk at *;generalize n.text=nt at *;generalize n.kids=ks at *;cases h1:(nk != k) with
 | true=>(go_enter Tryz.func247,Tryz.ntmps247);(go_wp2_with fail);go_ret;exact ⟨rfl,J⟩
 | false=>
  cases h2:nt.toList.isEmpty with
  | false=>(go_enter Tryz.func247,Tryz.ntmps247);(go_wp2_with fail);go_ret;exact ⟨rfl,J⟩
  | true=>
   cases h3:((ks.length:Int) != (m:Int)) with
   | true=>(go_enter Tryz.func247,Tryz.ntmps247);(go_wp2_with fail);go_ret;exact ⟨rfl,J⟩
   | false=>
    have M:=hid (show ks.length=m by simp at h3;omega);(go_enter Tryz.func247,Tryz.ntmps247);(go_wp2_with fail);clear h3;go_loopg [7,8,28] m (fun g _ _ u28 wr=>∃ i:Nat,i≤m∧m-i≤g∧u28=.int .i64 (i:Int)∧cU ((fs.map (·.2)).drop i) (ks.drop i)=I∧Below (w.heap.size+1) (w.alloc (.cells #[.int .i64 nk,.string nt,.slice A ks.length cp,.int .i64 n.pos] 41)) wr)
    case atStart=>exact ⟨0,Nat.zero_le _,by omega,rfl,by simpa using u.out,Below.refl _ _⟩
    case round=>
     obtain ⟨i,hi,hg,rfl,j,O⟩:=hrel;have u:=hid j;have o:=J.trans (O.mono (by omega));have N:=hid (show Below (w.alloc (.cells #[.int .i64 nk,.string nt,.slice A ks.length cp,.int .i64 n.pos] 41)).heap.size (w.alloc (.cells #[.int .i64 nk,.string nt,.slice A ks.length cp,.int .i64 n.pos] 41)) wr by simpa using O);obtain ⟨x0,x1,x2,x3,_,_,_,_⟩:=aJ (b1.below O (by omega));(have gd:w.heap.size+1≤wr.heap.size:=by have:=O.size;simpa using this);clear j O;by_cases D:i<m
     ·(have U:(i:Int)<(m:Int):=by omega);(have h0:(0:Int)≤(i:Int):=by omega);(have ga:(i:Int)<(ks.length:Int):=by rw [M.out];omega);obtain ⟨_,b,off,A1,gh,rfl,hb,k0,k1,k2,k3,hn⟩:=cY.at_ (HK.out.below N.out) i (by rw [M.out];exact D);obtain ⟨bf,rfl,gg,f0⟩:=(HF.out.below N.out).get i (by rw [r.out];exact D);have S:=HS.out (fs[i]'(by rw [r.out];exact D)) (List.getElem_mem _);have he:=S.enter;have HC:=hid (S.out _ _ _ N.out hn (HD.out _ (List.getElem_mem _)));have HE:=hid (mJ (fs.map (·.2)) ks i (by rw [List.length_map,r.out];exact D) (by rw [M.out];exact D));simp only [List.getElem_map] at HE;generalize fs[i]'(by rw [r.out];exact D)=ff at *;generalize ks[i]'(by rw [M.out];exact D)=x at *;clear hn S;cases y:ff.2 x with
      | true=>
       have q:=hid (show cU ((fs.map (·.2)).drop (i+1)) (ks.drop (i+1))=I by rw [←u.out,HE.out,y];rfl);(go_wp2_with fail);refine HC.out.mono ?_;rw [y];rintro e w1 ⟨rfl,K⟩;have Q:=ah N.out K;clear K HC;(go_wp2_with fail);go_roundg (m-(i+1))
       case measure=>omega
       case rel=>exact ⟨i+1,by omega,Nat.le_refl _,by go_num,q.out,by simpa using Q⟩
      | false=>have q:=hid (show I=false by rw [←u.out,HE.out,y];rfl);(go_wp2_with fail);refine HC.out.mono ?_;rw [y];rintro e w1 ⟨rfl,K⟩;have Q:=ah o K;clear K HC;(go_wp2_with fail);go_ret;exact ⟨by rw [q.out];rfl,Q⟩
     ·(have U:¬ (i:Int)<(m:Int):=by omega);have z:ks.drop i=[]:=List.drop_of_length_le (by rw [M.out];omega);have h5:(fs.map (·.2)).drop i=[]:=List.drop_of_length_le (by rw [List.length_map,r.out];omega);have q:=hid (show I=true by rw [←u.out,z,h5];rfl);clear z h5;(go_wp2_with fail);go_ret;exact ⟨by rw [q.out];rfl,o⟩
theorem bK (s:ByteArray) (l:List UInt8):decide (s=⟨l.toArray⟩)=(s.toList==l):=by rw [←dM,ByteArray.toList_eq ⟨l.toArray⟩]
theorem ba (s sub:ByteArray) (w:World) (I:ay w) (J:s.size≤2000000000) :
  Calls Tryz.prog 142 #[.string s,.string sub] w fun e w'=>e=.returned (.bool (Lib.contains s.data.toList sub.data.toList))∧w=w':=by obtain ⟨m,D⟩:=I;exact (Any.strings_Contains Tryz.laysContains s sub m w (by omega) D).mono fun _ _ h=>⟨h.1,h.2.symm⟩
theorem tn (s sep:ByteArray) (w:World) (I:ay w) (J:s.size≤2000000000) :
  Calls Tryz.prog 44 #[.string s,.string sep] w fun e w'=>e=.returned (.tuple #[.string ⟨(Lib.cut s.data.toList sep.data.toList).1.toArray⟩,.string ⟨(Lib.cut s.data.toList sep.data.toList).2.1.toArray⟩,.bool (Lib.cut s.data.toList sep.data.toList).2.2])∧Below w.heap.size w w':=by obtain ⟨m,D⟩:=I;exact (Any.strings_Cut Tryz.laysCut s sep m w (by omega) D).mono fun _ _ h=>⟨h.1,by obtain ⟨n,e⟩:=h.2;subst e;exact ab (Below.refl _ _) n⟩
theorem ic (s:ByteArray) (w:World):Calls Tryz.prog 196 #[.string s] w fun e w'=>e=.returned (.bool (ap s))∧Below w.heap.size w w':=by
 (have D:ap s=(decide ((s.size:Int)≤100)&&eL s):=by unfold ap;congr 1;rw [decide_eq_decide];omega);rw [D];have J:=hid (mG s w);generalize eL s=q at *;clear D;cases K:decide ((s.size:Int)≤100);all_goals
  (go_enter Tryz.func196,Tryz.ntmps196);(go_wp2_with fail);try
   refine J.out.mono ?_
   rintro e w1 ⟨rfl,I⟩
   go_wp2_with fail
  go_ret;exact ⟨rfl,by first | assumption | exact Below.refl _ _⟩
theorem l9 (s:ByteArray) (w:World):Calls Tryz.prog 300 #[.string s] w fun e w'=>e=.returned (.bool (bX s))∧Below w.heap.size w w':=by (have I:bX s=(ap s && !(s.toList==[95])):=by unfold bX;rw [←bK s [95],←decide_not]);rw [I];have J:=hid (ic s w);generalize ap s=q at *;clear I;cases q <;> cases K:(s.toList==[95]);all_goals (go_enter Tryz.func300,Tryz.ntmps300);(go_wp2_with fail);refine J.out.mono ?_;rintro e w1 ⟨rfl,D⟩;(go_wp2_with fail);go_ret;exact ⟨rfl,D⟩
theorem dq {P:ByteArray→Bool} {f:FuncId} (D:∀ a w,(callFunc f a).run Tryz.prog w=.ok (.enter f a) w) (w0:World)
  (h:∀ (s:ByteArray) (w:World),Below w0.heap.size w0 w→s.size≤1000000000→Calls Tryz.prog f #[.string s] w fun e w'=>e=.returned (.bool (P s))∧Below w.heap.size w w'):mE P ⟨f,#[]⟩ w0:=
 ⟨D,fun w s hb hs=>h s w hb hs⟩
theorem cM (w0:World):mE ap ⟨196,#[]⟩ w0:=dq (fun a w=>by kernel_rfl) w0 fun s w _ _=>ic s w
theorem rF (w0:World):mE bX ⟨300,#[]⟩ w0:=dq (fun a w=>by kernel_rfl) w0 fun s w _ _=>l9 s w
theorem pk (w0:World):mE f7 ⟨256,#[]⟩ w0:=dq (fun a w=>by kernel_rfl) w0 fun s w _ _=>by (have D:f7 s=s.toList.isEmpty:=by unfold f7;rw [ai]);rw [D];cases I:s.toList.isEmpty;all_goals (go_enter Tryz.func256,Tryz.ntmps256);(go_wp2_with fail);go_ret;exact ⟨rfl,Below.refl _ _⟩
theorem rG (w0:World):mE fh ⟨297,#[]⟩ w0:=dq (fun a w=>by kernel_rfl) w0 fun s w _ _=>by (have D:fh s=(s.toList.isEmpty||s.toList==[126]):=by unfold fh;rw [ai,bK s [126]]);rw [D];cases J:s.toList.isEmpty <;> cases I:(s.toList==[126]);all_goals (go_enter Tryz.func297,Tryz.ntmps297);(go_wp2_with fail);go_ret;exact ⟨rfl,Below.refl _ _⟩
theorem rH (w0:World):mE cW ⟨258,#[]⟩ w0:=dq (fun a w=>by kernel_rfl) w0 fun s w _ _=>by (have D:cW s=decide ((s.size:Int)≤1000):=by unfold cW;rw [decide_eq_decide];omega);rw [D];(go_enter Tryz.func258,Tryz.ntmps258);(go_wp2_with fail);go_ret;exact ⟨rfl,Below.refl _ _⟩
theorem rI (w0:World):mE fi ⟨259,#[]⟩ w0:=dq (fun a w=>by kernel_rfl) w0 fun s w _ _=>by (have D:fi s=(s.toList==[45]||s.toList==[33]):=by unfold fi;rw [bK s [45],bK s [33]]);rw [D];cases J:(s.toList==[45]) <;> cases I:(s.toList==[33]);all_goals (go_enter Tryz.func259,Tryz.ntmps259);(go_wp2_with fail);go_ret;exact ⟨rfl,Below.refl _ _⟩
theorem tq (w0:World):mE iM ⟨301,#[]⟩ w0:=dq (fun a w=>by kernel_rfl) w0 fun s w _ _=>by (have D:iM s=(s.toList==[43,43]||s.toList==[45,45]):=by unfold iM;rw [bK s [43,43],bK s [45,45]]);rw [D];cases J:(s.toList==[43,43]) <;> cases I:(s.toList==[45,45]);all_goals (go_enter Tryz.func301,Tryz.ntmps301);(go_wp2_with fail);go_ret;exact ⟨rfl,Below.refl _ _⟩
theorem pm (x:ByteArray) (w:World) (D:ay w) :
  Calls Tryz.prog 142 #[.string (⟨#[32,43,32,45,32,42,32,47,32,37,32,61,61,32,33,61,32,60,32,60,61,32,62,32,62,61,32,38,38,32,124,124,32]⟩:BA),.string x] w fun e w'=>e=.returned (.bool (Lib.contains (32::fK) x.data.toList))∧w=w':=
 ba _ x w D (Nat.le_trans (show _≤100 by decide +kernel) (by omega))
theorem pn (w0:World) (O:ay w0):mE dP ⟨260,#[]⟩ w0:=dq (fun a w=>by kernel_rfl) w0 fun s w hb hs=>by
 have M:=hid (O.below hb);(have D:dP s=(!s.toList.isEmpty&&(!(Lib.contains s.data.toList [32])&&Lib.contains (32::fK) (32::(s.data.toList++[32])))):=by unfold dP;rw [ai,←decide_not]);rw [D];clear D;have J:=hid (ba s ⟨#[32]⟩ w M.out (by omega));(have K:((⟨#[32]⟩++s++⟨#[32]⟩:ByteArray)).data.toList=32::(s.data.toList++[32]):=by simp [ByteArray.data_append]);have I:=pm (⟨#[32]⟩++s++⟨#[32]⟩) w M.out;rw [K] at I;generalize Lib.contains (32::fK) (32::(s.data.toList++[32]))=q2 at *;have Q:=hid I;rw [show (⟨#[32]⟩:BA).data.toList=[32] from rfl] at J;clear I K;cases N:Lib.contains s.data.toList [32] <;> cases D:s.toList.isEmpty;all_goals
  (go_enter Tryz.func260,Tryz.ntmps260);(go_wp2_with fail);try
   refine J.out.mono ?_
   rw [N]
   rintro e w1 ⟨rfl,rfl⟩
   go_wp2_with fail
  try
   refine Q.out.mono ?_
   rintro e w1 ⟨rfl,rfl⟩
   go_wp2_with fail
  go_ret;exact ⟨rfl,Below.refl _ _⟩
theorem po (w0:World) (h:ay w0):mE dQ ⟨268,#[]⟩ w0:=dq (fun a w=>by kernel_rfl) w0 fun s w hb hs=>by
 have k:=hid (h.below hb);have Q:=hid (tn s ⟨#[44]⟩ w k.out (by omega));(have O:dQ s=(s.toList.isEmpty||(((iz s).2.2&&(ap ⟨(iz s).1.toArray⟩&&bX ⟨(iz s).2.1.toArray⟩))||(!(iz s).2.2&&bX ⟨(iz s).1.toArray⟩))):=by unfold dQ;rw [ai]);rw [O];clear O;rw [show Lib.cut s.data.toList (⟨#[44]⟩:BA).data.toList=iz s from rfl] at Q;generalize iz s=q at *;obtain ⟨J,N,S⟩:=q;simp only at *;have U:=hid (fun w=>ic ⟨J.toArray⟩ w);have M:=hid (fun w=>l9 ⟨J.toArray⟩ w);have K:=hid (fun w=>l9 ⟨N.toArray⟩ w);generalize ap ⟨J.toArray⟩=n1 at *;generalize bX ⟨J.toArray⟩=b1 at *;generalize bX ⟨N.toArray⟩=b2 at *;cases j:s.toList.isEmpty <;> cases S <;> cases n1 <;> cases b1 <;> cases b2;all_goals
  (go_enter Tryz.func268,Tryz.ntmps268);(go_wp2_with fail);refine Q.out.mono ?_;rintro e w1 ⟨rfl,I⟩;go_wp2_with (first
   | (go_at_call 196;with_reducible refine (U.out _).mono ?_;rintro e w2 ⟨rfl,D⟩;replace I:=ah I D;clear D)
   | (go_at_call 300;with_reducible refine (K.out _).mono ?_;rintro e w2 ⟨rfl,D⟩;replace I:=ah I D;clear D)
   | (go_at_call 300;with_reducible refine (M.out _).mono ?_;rintro e w2 ⟨rfl,D⟩;replace I:=ah I D;clear D))
  go_ret;exact ⟨rfl,I⟩
theorem mK (l:List UInt8):l.all bx=true↔∀ j,j<l.length→aj ((l.getD j 0).toNat:Int)=true:=by
 rw [List.all_eq_true];constructor
 ·intro h j D;have:=h l[j] (List.getElem_mem _);rw [cL] at this;simpa [D] using this
 ·intro h x hx;obtain ⟨j,D,rfl⟩:=List.mem_iff_getElem.1 hx;have:=h j D;rw [cL];simpa [D] using this
theorem tr {s:ByteArray} (h:0<s.size):decide (s.data.toList.head? ≠ some 48)=((s[0].toNat:Int) != 48):=by (have e:s.data.toList.head? = some s[0]:=by rw [List.head?_eq_getElem?,List.getElem?_eq_getElem (by simpa using h)];rfl);rw [e,Bool.eq_iff_iff];simp only [ne_eq,Option.some.injEq,decide_not,Bool.not_eq_true',decide_eq_false_iff_not,bne_iff_ne];rw [←UInt8.toNat_inj];simp only [UInt8.reduceToNat];omega
theorem pp (s:ByteArray) (w:World):Calls Tryz.prog 257 #[.string s] w fun e w'=>e=.returned (.bool (cG s))∧Below w.heap.size w w':=by
 have hT:cG s=(s.data.toList.all bx&&(s.toList==[48]||(!s.toList.isEmpty&&(decide ((s.size:Int)≤200)&&decide (s.data.toList.head? ≠ some 48))))):=by
  unfold cG;rw [ai,bK s [48]];congr 3
  ·simp
  ·congr 1;rw [decide_eq_decide];omega
 have hN:=mK s.data.toList;rw [hT];generalize s.data.toList.all bx=nc at *;have HN:=hid hN;clear hT hN;have i1:=World.iter_heap w s 0;have i2:Below w.heap.size w (w.iter s 0):=(Below.refl _ w).alloc (Nat.le_refl _) _;(go_enter Tryz.func257,Tryz.ntmps257);(go_wp2_with fail);go_loopg [4,7,8] s.size (fun g _ _ _ wr=>∃ i:Nat,i≤s.size∧s.size-i≤g∧wr.heap[w.heap.size]? = some (.stringIter s i)∧Below w.heap.size w wr∧(∀ j,j<i→aj ((s.data.toList.getD j 0).toNat:Int)=true))
 case atStart=>exact ⟨0,Nat.zero_le _,by omega,i1,i2,fun j hj=>by omega⟩
 case round=>
  clear i1 i2;obtain ⟨i,hi,hg,hit,hB,Q⟩:=hrel;have o:=hid hit;have HA:=hid Q;clear hit Q;by_cases J:i<s.size
  ·have hw:=fj s i J;have U:=dU s i J;have D:=fun ty=>run_next_any_at (P:=Tryz.prog) wr w.heap.size s i ty o.out J;generalize hb:(s.data.toList.getD i 0).toNat=b at *;generalize hd:Utf8.decode s i=q at *;obtain ⟨r,k⟩:=q;simp only at hw D U;have O:aj (r:Int)=aj (b:Int)∧(aj (r:Int)=true→k=1):=by
    rcases U with ⟨e,_⟩ | ⟨h1,h2⟩
    ·injection e with e1 e2;subst e1 e2;exact ⟨rfl,fun _=>rfl⟩
    ·rw [bi (by omega),bi (by omega)];exact ⟨rfl,by simp⟩
   have I:=hid O;have u:=hid hb;have j1:=iterAt_heap wr w.heap.size s i (i+k) o.out;have j2:Below w.heap.size w (wr.iterAt w.heap.size s (i+k)):=ao hB (Nat.le_refl _);generalize wr.iterAt w.heap.size s (i+k)=W1 at D j1 j2;have J1:=hid j1;clear O U j1 hd hb;have N:aj (r:Int)=false→nc=false:=by
    intro hf;cases hn:nc with
    | false=>rfl
    | true=>have:=(HN.out.1 hn) i (by simpa using J);rw [u.out,←I.out.1,hf] at this;cases this
   have K:=hid N;have x:aj (r:Int)=true→∀ j,j<i+k→aj ((s.data.toList.getD j 0).toNat:Int)=true:=by
    intro hf j hj;have hk:=I.out.2 hf;by_cases e:j=i
    ·subst e;rw [u.out,←I.out.1,hf]
    ·exact HA.out j (by omega)
   have gb:=hid x;clear N x I u HA;unfold aj at K gb;cases h1:decide ((r:Int)<48) with
   | true=>have S:=hid (K.out (by (have:decide (48≤(r:Int))=false:=by simp at h1 ⊢;omega);rw [this];rfl));(go_wp2_with fail);go_ret;exact ⟨by rw [S.out];rfl,j2⟩
   | false=>
    (have h:decide (48≤(r:Int))=true:=by simp at h1 ⊢;omega);cases h2:decide (57<(r:Int)) with
    | true=>have S:=hid (K.out (by (have:decide ((r:Int)≤57)=false:=by simp at h2 ⊢;omega);rw [this];simp));clear h;(go_wp2_with fail);go_ret;exact ⟨by rw [S.out];rfl,j2⟩
    | false=>
     have ga:=hid (gb.out (by (have:decide ((r:Int)≤57)=true:=by simp at h2 ⊢;omega);rw [h,this];rfl));clear h;(go_wp2_with fail);go_roundg (s.size-(i+k))
     case measure=>omega
     case rel=>exact ⟨i+k,hw.2,Nat.le_refl _,J1.out,j2,ga.out⟩
  ·(have y:i=s.size:=by omega);have D:=fun ty=>run_next_end_at (P:=Tryz.prog) wr w.heap.size s i ty o.out J;have S:=hid (show nc=true from HN.out.2 fun j hj=>HA.out j (by simp at hj;omega));clear y;cases M:(s.toList==[48]) with
   | true=>(go_wp2_with fail);go_ret;exact ⟨by rw [S.out,M];rfl,hB⟩
   | false=>
    cases z:s.toList.isEmpty with
    | true=>(go_wp2_with fail);go_ret;exact ⟨by rw [S.out,M,z];rfl,hB⟩
    | false=>
     cases hL:decide ((s.size:Int)≤200) with
     | false=>(go_wp2_with fail);go_ret;exact ⟨by rw [S.out,M,z,hL];rfl,hB⟩
     | true=>
      have hp:0<s.size:=by
       rcases Nat.eq_zero_or_pos s.size with h0 | h0
       ·(have:s.toList=[]:=by rw [ByteArray.toList_eq];exact List.eq_nil_of_length_eq_zero h0);rw [this] at z;cases z
       ·exact h0
      (have gd:(0:Int)<(s.size:Int):=by omega);(go_wp2_with fail);go_ret;refine ⟨?_,hB⟩;rw [S.out,M,z,hL,tr hp];rfl
theorem rJ (w0:World):mE cG ⟨257,#[]⟩ w0:=dq (fun a w=>by kernel_rfl) w0 fun s w _ _=>pp s w
structure fY (g:Nat) (F:bZ):Prop where
 typ:bF g F.typ 199
 expr:bF g F.expr 200
 block:bF g F.block 250
 stmt:bF g F.stmt 201
 ifS:bF g F.ifS 266
theorem fY.pred {d:Nat} {F:bZ} (h:fY (d+1) F):fY d F:=
 ⟨h.typ.le fun _=>cQ.succ,h.expr.le fun _=>cQ.succ,h.block.le fun _=>cQ.succ,h.stmt.le fun _=>cQ.succ,h.ifS.le fun _=>cQ.succ⟩
theorem ck (a:Array Value) (w:World):(callFunc 199 a).run Tryz.prog w=.ok (.enter 199 a) w:=by kernel_rfl
theorem aP (a:Array Value) (w:World):(callFunc 200 a).run Tryz.prog w=.ok (.enter 200 a) w:=by kernel_rfl
theorem cS (a:Array Value) (w:World):(callFunc 250 a).run Tryz.prog w=.ok (.enter 250 a) w:=by kernel_rfl
theorem su (a:Array Value) (w:World):(callFunc 201 a).run Tryz.prog w=.ok (.enter 201 a) w:=by kernel_rfl
theorem ux (a:Array Value) (w:World):(callFunc 266 a).run Tryz.prog w=.ok (.enter 266 a) w:=by kernel_rfl
theorem pS (a:Array Value) (w:World):(callFunc 267 a).run Tryz.prog w=.ok (.enter 267 a) w:=by kernel_rfl
theorem cE (d:Nat) (w0:World):dT d al ⟨267,#[]⟩ w0:=⟨pS,fun w v n _ hv _=>ia w v n hv⟩
theorem aQ.new {w:World} {b:Nat} (fs:List (Fv × (Nd→Bool))) {cs:Array Value} (D:cs=(fs.map fun x=>Value.func (.func x.1.k) #[] x.1.cap).toArray) (h:ac w b 206 cs):aQ w (some ⟨b,0,none⟩) fs:=
 .inr ⟨b,rfl,by rw [←D];exact h⟩
theorem sv (g:Nat) (F:bZ) (q:fY g F) (so:ByteArray→Bool) (f:Fv) (b:Nat) (w0:World) (o:ay w0) (j:mE so f w0) (hb:ac w0 b 69 #[.func (.func f.k) #[] f.cap]) :
  dT g (iL F so) ⟨298,#[.pointer (some ⟨b,0,none⟩)]⟩ w0:=by
 refine ⟨fun a w=>by kernel_rfl,fun w v n hw hv hd=>?_⟩;cases g with
 | zero=>exact hd.elim
 | succ d=>have M:=hv;obtain ⟨A,cp,rfl,hC⟩:=hv.toC;have U:=(aq w (nv n A cp)).1;have D:=hw.alloc hw.size (.cells (nv n A cp) 41);have ca:=aA (hb.bl D);have u:=hid (aB _ _ n (M.below U) f so (j.below D) hd.txt);have r:=hid (o.below D);have HF:=hid q;have HD:=hid hd;have z:=hb.lt;have y:=hw.size;show Calls _ _ _ w fun e w'=>e=.returned (.bool (bY 8 [F.typ] (ag so n)))∧_;clear M hv hC hb j o q hd;(go_enter Tryz.func298,Tryz.ntmps298);(go_wp2_with fail);refine u.out.mono ?_;rintro e w1 ⟨v1,rfl,O,J⟩;have h:=hid (r.out.below J);have S:=ah U J;clear J u U D ca r;(go_wp2_with fail);have I:=(Below.refl w1.heap.size w1).alloc (Nat.le_refl _) (.cells #[.func (.func 199) #[] #[]] 206);have N:=ah S I;refine (au d [(⟨199,#[]⟩,F.typ)] 8 v1 (ag so n) _ _ 1 rfl (by omega) (O.below I) HD.out.named (aQ.new _ rfl (ac.new w1 _ _)) (by intro x hx;obtain rfl:=List.mem_singleton.1 hx;exact HF.out.pred.typ.so ck _ (h.out.below I))).mono ?_;rintro e w2 ⟨rfl,K⟩;have Q:=ah N K;clear I K N;(go_wp2_with fail);go_ret;exact ⟨rfl,Q⟩
theorem sw (g:Nat) (P:Nd→Bool) (f:Fv) (b:Nat) (w0:World) (K:dT g P f w0) (hb:ac w0 b 206 #[.func (.func f.k) #[] f.cap]) :
  dT g (fJ P) ⟨299,#[.pointer (some ⟨b,0,none⟩)]⟩ w0:=by
 refine ⟨fun a w=>by kernel_rfl,fun w v n hw hv hd=>?_⟩;cases g with
 | zero=>exact hd.elim
 | succ d=>have J:=hv;obtain ⟨A,cp,rfl,U⟩:=hv.toC;have N:=(aq w (nv n A cp)).1;have D:=hw.alloc hw.size (.cells (nv n A cp) 41);have ca:=aA (hb.bl D);have O:=hid (mI d P f _ n _ (J.below N) hd ⟨K.enter,fun w' v' n' h1 h2 h3=>K.out w' v' n' (ah D h1) h2 h3.succ⟩);have S:=hb.lt;have Q:=hw.size;clear J hv U hb K hd;(go_enter Tryz.func299,Tryz.ntmps299);(go_wp2_with fail);refine O.out.mono ?_;rintro e w1 ⟨rfl,I⟩;have M:=ah N I;clear I O N;(go_wp2_with fail);go_ret;exact ⟨rfl,M⟩
theorem cO {w:World} {g:Nat} {t:TypeId} {a b c d:Value} (h:ac w g t #[a,b,c,d]):w.cell? ⟨g,0,none⟩=some a∧w.cell? ⟨g,1,none⟩=some b∧w.cell? ⟨g,2,none⟩=some c∧w.cell? ⟨g,3,none⟩=some d:=by obtain ⟨K,J,I,D,_⟩:=aJ h;exact ⟨K,J,I,D⟩
theorem nd {d:Nat} {w:World} {f g:Fv} {P Q:Nd→Bool} (I:dT d P f w) (D:dT d Q g w):∀ x∈[(f,P),(g,Q)],dT d x.2 x.1 w:=by
 intro x hx;rcases List.mem_cons.1 hx with rfl | hx
 ·exact I
 ·obtain rfl:=List.mem_singleton.1 hx;exact D
theorem o6 (g:Nat) (F:bZ) (x:fY g F) (so:ByteArray→Bool) (f:Fv) (v:Value) (n:Nd) (w:World) (u:ay w) (U:bo w v n) (hd:cQ (g+1) n) (r:mE so f w) :
  Calls Tryz.prog 255 #[v,.func (.func f.k) #[] f.cap] w fun e w'=>e=.returned (.bool (rD F so n))∧Below w.heap.size w w':=by
 have M:=U;obtain ⟨A,cp,rfl,hC⟩:=U.toC;have y:=hid M;have z:=hid u;have HS:=hid r;have HD:=hid hd;have HF:=hid x;clear M U hC u r hd x;show Calls _ _ _ w fun e w'=>e=.returned (.bool (bY 12 [fJ (iL F so),cn al F.typ] n))∧_;(go_enter Tryz.func255,Tryz.ntmps255);(go_wp2_with fail);have c0:ac (((w.alloc (.cells (nv n A cp) 41)).alloc (.cells #[.func (.func f.k) #[] f.cap] 69)).alloc (.cells #[.func (.func 298) #[] #[.pointer (some ⟨w.heap.size+1,0,none⟩)]] 206)) w.heap.size 41 (nv n A cp):=((ac.new w _ _).alloc _).alloc _;have c1:ac (((w.alloc (.cells (nv n A cp) 41)).alloc (.cells #[.func (.func f.k) #[] f.cap] 69)).alloc (.cells #[.func (.func 298) #[] #[.pointer (some ⟨w.heap.size+1,0,none⟩)]] 206)) (w.heap.size+1) 69 #[.func (.func f.k) #[] f.cap]:=(ac.new_at (by simp) _ _).alloc _;have c2:ac (((w.alloc (.cells (nv n A cp) 41)).alloc (.cells #[.func (.func f.k) #[] f.cap] 69)).alloc (.cells #[.func (.func 298) #[] #[.pointer (some ⟨w.heap.size+1,0,none⟩)]] 206)) (w.heap.size+1+1) 206 #[.func (.func 298) #[] #[.pointer (some ⟨w.heap.size+1,0,none⟩)]]:=ac.new_at (by simp) _ _;have O:Below w.heap.size w (((w.alloc (.cells (nv n A cp) 41)).alloc (.cells #[.func (.func f.k) #[] f.cap] 69)).alloc (.cells #[.func (.func 298) #[] #[.pointer (some ⟨w.heap.size+1,0,none⟩)]] 206)):=fd;generalize (((w.alloc (.cells (nv n A cp) 41)).alloc (.cells #[.func (.func f.k) #[] f.cap] 69)).alloc (.cells #[.func (.func 298) #[] #[.pointer (some ⟨w.heap.size+1,0,none⟩)]] 206))=W at *;have o:=hid (y.out.below O);have Q:=hid (z.out.below O);have HL:=hid (sw g (iL F so) ⟨298,#[.pointer (some ⟨w.heap.size+1,0,none⟩)]⟩ (w.heap.size+1+1) W (sv g F HF.out so f _ W Q.out (HS.out.below O) c1) c2);have J:=c0.lt;have ga:=c2.lt;have I:Below W.heap.size W W.drew:=(Below.refl _ _).drew;have q:=hid (Q.out.below I);have N:=ah O I;have C0:=hid c0.drew;clear c1 c2 c0 O z y HS;go_region_held3 (fun w'=>w'.cell? ⟨w.heap.size,0,none⟩=some (.int .i64 n.kind)∧w'.cell? ⟨w.heap.size,1,none⟩=some (.string n.text)∧w'.cell? ⟨w.heap.size,2,none⟩=some (.slice A n.kids.length cp)∧w'.cell? ⟨w.heap.size,3,none⟩=some (.int .i64 n.pos))
  (first | with_reducible exact cO q3 | with_reducible exact cO (S.alloc _) | with_reducible exact cO S | with_reducible exact cO C0.out)
  (first
   | (go_at_call 251;refine (bD g al F.typ ⟨267,#[]⟩ ⟨199,#[]⟩ _ (cE g _) (HF.out.typ.so ck _ q.out)).mono ?_;rintro e w2 ⟨h,rfl,j,D⟩;have S:=C0.out.below D J)
   | (go_at_call 247;refine (au g [(⟨299,#[.pointer (some ⟨w.heap.size+1+1,0,none⟩)]⟩,fJ (iL F so)),(h,cn al F.typ)] 12 _ n _ _ 2 rfl (by omega) ((o.out.below I).below (D.alloc D.size _)) HD.out (aQ.new _ rfl (ac.new w2 _ _)) (nd ((HL.out.below I).below (D.alloc D.size _)) (j.below ((Below.refl _ w2).alloc (Nat.le_refl _) _)))).mono ?_;rintro e w3 ⟨rfl,K⟩;have q3:=(S.alloc _).below K (Nat.lt_of_lt_of_le J (Nat.le_trans D.size (by simp)))))
 (all_goals go_wp2_with fail);(all_goals go_ret);all_goals exact ⟨rfl,(ah N D).trans ((((Below.refl _ w2).alloc (Nat.le_refl _) _).trans (K.mono (by simp))).mono (Nat.le_trans N.size D.size))⟩
end
end Go.Proofs.YtmmjgmcfdnkomaaGreatDoor
