/-
  Parts of the proof: Squot Snext Shelf5 Sstep Pwrong Bytes Sscan Scan2 Ldig. By an AI agent.
-/
import Derived.Test.YtmmjgmcfdnkomaaGreatDoorL04
import Derived.Test.YtmmjgmcfdnkomaaGreatDoorL00
import Derived.Test.YtmmjgmcfdnkomaaGreatDoorL01
import Derived.Lib.SlBytesRow
import Derived.Shelf.Unicode.DecodeSlow
import Derived.Lib.BufferRead
import Derived.BigQuiet
import Derived.Defers
import Derived.Recover
import Derived.Deep.RegionLaw
set_option maxRecDepth 100000
set_option maxHeartbeats 8000000
namespace Go.Proofs.YtmmjgmcfdnkomaaGreatDoor
section
open Go.RowKit Go.Lib Go.Proofs
attribute [local go_sem ↓] Go.wp_at_zero Go.wp_at_succ
def oZ (s:ByteArray) (i:Nat) (l:List aV):we:=
 match br (s.data.toList.drop (i+1)) false 0 with
 | some k=>.go (i+k+2) (l++[⟨5,s.extract i (i+k+2),i⟩])
 | none=>.out
theorem d6 (t:ByteArray) (j:Nat) (h:j<t.size):∃ c r,t.data.toList.drop j=c::r∧c.toNat=af t j∧r=t.data.toList.drop (j+1):=by have h':j<t.data.toList.length:=h;refine ⟨t.data.toList[j],t.data.toList.drop (j+1),List.drop_eq_getElem_cons h',?_,rfl⟩;unfold af;rw [List.getD_eq_getElem?_getD,List.getElem?_eq_getElem h'];rfl
theorem fS:∀ (l:List UInt8) (b:Bool) (k m:Nat),br l b k=some m→m<k+l.length
 | [],b,k,m,h=>by cases b <;> simp [br] at h
 | c::r,true,k,m,h=>by
  rw [br] at h;split at h
  ·cases h
  ·have:=fS r false (k+1) m h;simp only [List.length_cons];omega
 | c::r,false,k,m,h=>by
  rw [br] at h;simp only [List.length_cons];split at h
  ·have:=fS r true (k+1) m h;omega
  ·split at h
   ·injection h with h;omega
   ·split at h
    ·cases h
    ·have:=fS r false (k+1) m h;omega
theorem og [NsC] (X:Nat) (s:ByteArray) (i:Nat) (l:List aV) (w:World) (h:bP w X s i l) (hl:l.length+1≤65537) (u:af s i=34) (hp:∀ j,j<s.size→af s j<128) (m:Nat) (N:br (s.data.toList.drop (i+1)) false 0=some m) :
  Calls Tryz.prog 181 #[.pointer (some ⟨X,0,none⟩)] w (lB X s w (i+m+2) (l++[⟨5,s.extract i (i+m+2),i⟩]) (.tuple #[])):=by
 obtain ⟨lv,nv,gb⟩:=h.out;have gs:=h.le;have gr:=h.most;have gi:=h.lt;have HH:=hid h;obtain ⟨x0,x1,x2,x3,-,-,-,-⟩:=aJ gb.blk;have k:=fS _ _ _ _ N;have ga:=cd s (i+1);have gl:=ce s (i+1);rw [List.length_drop] at k;(have k:i+m+2≤s.size:=by have:s.data.toList.length=s.size:=rfl;omega);(have p0:(0:Int)≤(i:Int):=by omega);(have p2:(i:Int)<(s.size:Int):=by omega);(have p3:(i:Int)+1≤(s.size:Int):=by omega);have q1:IntKind.i64.wrap ((i:Int)+1)=(i:Int)+1:=IntWalk.i64_in _ (by omega);have M:=fun W=>cc s i (by omega) W;rw [u] at M;rw [←ga] at N;have gn:=hid N;have gg:=hid (show ∀ j,j<(s.extract (i+1) s.size).size→af (s.extract (i+1) s.size) j<128 from fun j hj=>by rw [aY];exact hp _ (by omega));clear gl ga N gb h u hp;(go_enter Tryz.func181,Tryz.ntmps181);(go_wp2_with fail);have O:=World.iter_heap w (s.extract (i+1) s.size) 0;have gd:Below w.heap.size w (w.iter (s.extract (i+1) s.size) 0):=(Below.refl _ w).alloc (Nat.le_refl _) _;generalize s.extract (i+1) s.size=t at *;clear x0 x1 x2 x3 M;go_loopg [4,5,6,25,26] t.size (fun g u4 _ _ _ _ wr=>∃ (j:Nat) (sl:Bool),j≤t.size∧t.size-j≤g∧u4=.bool sl∧wr.heap[w.heap.size]? = some (.stringIter t j)∧Below w.heap.size w wr∧br (t.data.toList.drop j) sl j=some m)
 case atStart=>exact ⟨0,false,Nat.zero_le _,by omega,rfl,O,gd,by rw [List.drop_zero];exact gn.out⟩
 case round=>
  clear O gd;obtain ⟨j,sl,hj,hg,rfl,hit,hB,N⟩:=hrel;have K:j<t.size:=by
   rcases Nat.lt_or_ge j t.size with h | h
   ·exact h
   ·rw [List.drop_of_length_le (by have:t.data.toList.length=t.size:=rfl;omega)] at N;cases sl <;> cases N
  have J:=fun ty=>run_next_any_at (P:=Tryz.prog) wr w.heap.size t j ty hit K;obtain ⟨c,rr,x,y,r⟩:=d6 t j K;have hd:=dL t j (gg.out j K);rw [hd] at J;rw [x] at N;have HQ:=hid N;have o:=hid r;have D:=hid y;have j1:=iterAt_heap wr w.heap.size t j (j+1) hit;have q:Below w.heap.size w (wr.iterAt w.heap.size t (j+1)):=ao hB (Nat.le_refl _);generalize wr.iterAt w.heap.size t (j+1)=W1 at J j1 q;have J1:=hid j1;clear hd x y r j1 N hit;generalize af t j=bb at *;cases sl with
  | true=>
   have hN:¬ c.toNat=10∧br rr false (j+1)=some m:=by
    have:=HQ.out;rw [br] at this;split at this
    ·cases this
    ·exact ⟨‹_›,this⟩
   have HN:=hid hN.2;(have gm:((bb:Int) != 10)=true:=by rw [bne_iff_ne];have:=D.out;omega);clear hN;(go_wp2_with fail);refine (nV X _ _).mono ?_;rintro e w2 ⟨rfl,rfl⟩;(go_wp2_with fail);go_roundg (t.size-(j+1))
   case measure=>omega
   case rel=>exact ⟨j+1,false,by omega,Nat.le_refl _,rfl,J1.out,q,by rw [←o.out];exact HN.out⟩
  | false=>
   by_cases Q:bb=92
   ·subst Q;have HN:=hid (show br rr true (j+1)=some m by rw [←HQ.out,br,if_pos D.out]);(go_wp2_with fail);go_roundg (t.size-(j+1))
    case measure=>omega
    case rel=>exact ⟨j+1,true,by omega,Nat.le_refl _,rfl,J1.out,q,by rw [←o.out];exact HN.out⟩
   by_cases z:bb=34
   ·subst z;(have gj:j=m:=by have:=HQ.out;rw [br,if_neg (by rw [D.out];omega),if_pos D.out] at this;exact Option.some.inj this);subst gj;have U:=HH.out.below q;obtain ⟨gq,gp,S⟩:=U.out;obtain ⟨x0,x1,x2,x3,f0,f1,f2,f3⟩:=aJ S.blk;have q2:IntKind.i64.wrap ((i:Int)+(j:Int))=(i:Int)+(j:Int):=IntWalk.i64_in _ (by omega);have q3:IntKind.i64.wrap ((i:Int)+(j:Int)+2)=(i:Int)+(j:Int)+2:=IntWalk.i64_in _ (by omega);have I:=U.set (i+j+2) k;rw [show ((i+j+2:Nat):Int)=(i:Int)+(j:Int)+2 by omega] at I;have ge:=hid I;clear I S U;(go_wp2_with fail);refine (iE X s (i+j+2) l 5 i (by omega) hl _ ge.out).mono ?_;rintro e w4 ⟨rfl,gh,yk⟩;(go_wp2_with fail);refine bodyPost_ret (results_none rfl _ _ _) rfl ?_;exact ⟨rfl,gh,((q.mono (Nat.le_of_lt gi)).setCell (Nat.le_refl _) _).trans yk⟩
   have hN:¬ c.toNat=10∧br rr false (j+1)=some m:=by
    have:=HQ.out;rw [br,if_neg (by rw [D.out];omega),if_neg (by rw [D.out];omega)] at this;split at this
    ·cases this
    ·exact ⟨‹_›,this⟩
   have HN:=hid hN.2;(have gt:((bb:Int)==92)=false:=by rw [beq_eq_false_iff_ne];omega);(have gu:((bb:Int)==34)=false:=by rw [beq_eq_false_iff_ne];omega);(have gm:((bb:Int)==10)=false:=by rw [beq_eq_false_iff_ne];have:=D.out;omega);clear z Q hN;(go_wp2_with fail);go_roundg (t.size-(j+1))
   case measure=>omega
   case rel=>exact ⟨j+1,false,by omega,Nat.le_refl _,rfl,J1.out,q,by rw [←o.out];exact HN.out⟩
theorem sd (k:Int) (D:k=0∨k=1∨k=2) (w:World):(Instr.index 231 (.agg #[.int .i64 1,.int .i64 2,.int .i64 3]) (.int .i64 k)).run Tryz.prog w=.ok (.int .i64 (k+1)) w:=by rcases D with rfl | rfl | rfl;all_goals simp [Instr.index,run_underlying Tryz.underlying231,asIntOf,go_sem]
theorem mX (s:ByteArray):aF s=0∨aF s=1∨aF s=2:=by
 unfold aF;split
 ·exact .inr (.inl rfl)
 ·split
  ·exact .inr (.inr rfl)
  ·exact .inl rfl
theorem oh (l:List UInt8):be l≤l.length:=by unfold be;exact (List.takeWhile_sublist _).length_le
theorem se (s:ByteArray) (h:dp s.data.toList=true) (w:World):Calls Tryz.prog 172 #[.string s,.string ⟨#[239,187,191]⟩] w fun e w'=>e=.returned (.bool false)∧w=w':=by
 have J:Lib.hasPrefix s.data.toList [239,187,191]=false:=by
  cases I:s.data.toList with
  | nil=>rfl
  | cons a r=>have D:=List.all_eq_true.1 h a (by rw [I];simp);rw [Bool.and_eq_true,decide_eq_true_eq,decide_eq_true_eq] at D;unfold Lib.hasPrefix;rw [List.isPrefixOf,show ((239:UInt8)==a)=false from beq_eq_false_iff_ne.2 fun e=>by subst e;exact absurd D.2 (by decide)];rfl
 have:=cy s ⟨#[239,187,191]⟩ w;rw [show (⟨#[239,187,191]⟩:BA).data.toList=[239,187,191] from rfl,J] at this;exact this
def o4 (s:ByteArray) (i:Nat):Bool:=Lib.hasPrefix (s.data.toList.drop i) [47,47]||Lib.hasPrefix (s.data.toList.drop i) [47,42]
def cD (s:ByteArray) (i:Nat):we:=
 if af s i=47∧Lib.hasPrefix (s.data.toList.drop i) [47,47]=true∧0≤Lib.indexByte (s.data.toList.drop i) 10 then .note (i+(Lib.indexByte (s.data.toList.drop i) 10).toNat) else .out
theorem mY (s:ByteArray) (i j:Nat) (l:List aV):cD s i≠.go j l:=by unfold cD;split <;> nofun
def ey (s:ByteArray) (i:Nat) (l:List aV):we:=
 if af s i=10 then .go (i+1) (et l i)
 else if af s i=32∨af s i=9 then .go (i+1) l
 else if af s i=13∨af s i=96∨o4 s i=true then cD s i
 else if am (af s i:Int)=true then .go (i+be (s.data.toList.drop i)) (l++[⟨aF (s.extract i (i+be (s.data.toList.drop i)))+1,s.extract i (i+be (s.data.toList.drop i)),i⟩])
 else if aj (af s i:Int)=true then .go (i+be (s.data.toList.drop i)) (l++[⟨4,s.extract i (i+be (s.data.toList.drop i)),i⟩])
 else if af s i=34 then oZ s i l
 else oU s i l
def dC (i:Nat) (l:List aV):Prop:=l.length≤i∧∀ t∈l,t.text.size≤65536
theorem dC.push {i j:Nat} {l:List aV} {t:aV} (h:dC i l) (J:i+1≤j) (I:t.text.size≤65536):dC j (l++[t]):=by
 refine ⟨by rw [List.length_append];have:=h.1;simp;omega,fun u D=>?_⟩;rcases List.mem_append.1 D with D | D
 ·exact h.2 u D
 ·(obtain rfl:u=t:=by simpa using D);exact I
theorem dC.le {i j:Nat} {l:List aV} (h:dC i l) (D:i≤j):dC j l:=⟨Nat.le_trans h.1 D,h.2⟩
theorem dC.line {i j:Nat} {l:List aV} (h:dC i l) (D:i+1≤j) (p:Int):dC j (et l p):=by
 unfold et;split
 ·exact h.push D (by show (1:Nat)≤65536;omega)
 ·exact h.le (by omega)
theorem oi [NsC] (X:Nat) (s:ByteArray) (i:Nat) (l:List aV) (w:World) (h:bP w X s i l) (hT:ay w) (hi:i<s.size) (hp:dp s.data.toList=true) (hv:dC i l) (j:Nat) (l':List aV) (D:ey s i l=.go j l') :
  Calls Tryz.prog 126 #[.pointer (some ⟨X,0,none⟩)] w (lB X s w j l' (.tuple #[])):=by
 have g6:=h.most;have o:=h.lt;(have hl:l.length+1≤65537:=by have:=hv.1;omega);obtain ⟨lv,nv,gm⟩:=h.out;obtain ⟨x0,x1,y,x,f0,f1,f2,f3⟩:=aJ gm.blk;have ga:=fun W=>cc s i hi W;have HM:=hid (fun w=>se s hp w);have HL:=hid (mM X s i l (i:Int) hl w h hT hv.2);have HN:=hid (r9 X s i l w h);have gp:=hid (fun w' (hb:Below w.heap.size w w')=>lH 176 uk um X s i l w' (h.below hb));have gn:=hid (fun w' (hb:Below w.heap.size w w')=>lH 180 ul un X s i l w' (h.below hb));have gr:=hid (fun w' (hb:Below w.heap.size w w') he m hq=>og X s i l w' (h.below hb) hl he (fun j hj=>(mz hp j hj).2) m hq);have gq:=hid (fun w' (hb:Below w.heap.size w w') n hn hn0=>rM X s i l w' (h.below hb) (hT.below hb) hl n hn hn0);have S:=hid (fun w=>bL (af s i:Int) w);have gg:=hid (fun w=>cZ (af s i:Int) w);have K:=hid (h.set (i+1) (by omega));have g8:=eJ s i;have q1:IntKind.i64.wrap ((i:Int)+1)=(i:Int)+1:=IntWalk.i64_in _ (by omega);have g0:=hid (show (match cD s i with | .go _ _=>False | _=>True) by cases hq:cD s i <;> first | trivial | exact absurd hq (mY s i _ _));unfold ey at D;generalize hnst:cD s i=NS at *;generalize af s i=c at *;clear hp h hT gm hv;by_cases r:c=10
 ·subst r;rw [if_pos rfl] at D;injection D with e1 J;subst e1;subst J;clear S;cases hz:((i:Int)==0);all_goals
   (go_enter Tryz.func126,Tryz.ntmps126);(go_wp2_with fail);try
    refine (HM.out _).mono ?_
    rintro e w2 ⟨rfl,rfl⟩
    go_wp2_with fail
   refine HL.out.mono ?_;rintro e w2 ⟨rfl,gi,I⟩;have N:=gi.set (i+1) (by omega);rw [show ((i+1:Nat):Int)=(i:Int)+1 by omega] at N;have K:=hid N;obtain ⟨g5,g3,gl⟩:=gi.out;clear x0 x1 y x f0 f1 f2 f3 N HL;obtain ⟨x0,x1,y,x,f0,f1,f2,f3⟩:=aJ gl.blk;(go_wp2_with fail);go_end0;exact ⟨rfl,K.out,I.setCell (by exact Nat.le_refl X) _⟩
 rw [if_neg r] at D;by_cases q:c=32∨c=9
 ·rw [if_pos q] at D;injection D with e1 J;subst e1;subst J;rw [show ((i+1:Nat):Int)=(i:Int)+1 by omega] at K;clear S r;rcases q with rfl | rfl;all_goals
   cases hz:((i:Int)==0);all_goals
    (go_enter Tryz.func126,Tryz.ntmps126);(go_wp2_with fail);try
     refine (HM.out _).mono ?_
     rintro e w2 ⟨rfl,rfl⟩
     go_wp2_with fail
    go_end0;exact ⟨rfl,K.out,(Below.refl X w).setCell (by exact Nat.le_refl X) _⟩
 rw [if_neg q] at D;by_cases k:c=13∨c=96∨o4 s i=true
 ·rw [if_pos k] at D;have:=g0.out;rw [D] at this;exact False.elim this
 rw [if_neg k] at D;have O:o4 s i=false:=Bool.eq_false_iff.2 fun h=>k (.inr (.inr h));unfold o4 at O;rw [Bool.or_eq_false_iff] at O;have HN:=hid (HN.out O.1 O.2);(have gy:((c:Int)==10)=false:=by rw [beq_eq_false_iff_ne];omega);(have gw:((c:Int)==32)=false:=by rw [beq_eq_false_iff_ne];omega);(have e9:((c:Int)==9)=false:=by rw [beq_eq_false_iff_ne];omega);(have gx:((c:Int)==13)=false:=by rw [beq_eq_false_iff_ne];omega);(have gv:((c:Int)==96)=false:=by rw [beq_eq_false_iff_ne];omega);have qc:IntKind.i32.wrap (c:Int)=(c:Int):=IntWalk.i32_in _ (by omega);have u:=hid D;clear D O k q r HL K;(have hk:am (c:Int)=true∨(am (c:Int)=false∧aj (c:Int)=true)∨(am (c:Int)=false∧aj (c:Int)=false∧c=34)∨(am (c:Int)=false∧aj (c:Int)=false∧¬ c=34):=by cases am (c:Int) <;> cases aj (c:Int) <;> by_cases h:c=34 <;> simp [h]);rcases hk with hL | ⟨hL,hF⟩ | ⟨hL,hF,rfl⟩ | ⟨hL,hF,n34⟩ <;> cases hz:((i:Int)==0);all_goals
  (try have g9:((c:Int)==34)=false:=by rw [beq_eq_false_iff_ne];omega);(try have g1:=hid n34);(try clear n34);rw [hL] at S u;(try rw [hF] at gg u);(try clear hF);clear hL;(go_enter Tryz.func126,Tryz.ntmps126);(go_wp2_with fail);try
   refine (HM.out _).mono ?_
   rintro e w2 ⟨rfl,rfl⟩
   go_wp2_with fail
  refine HN.out.mono ?_;rintro J w2 ⟨rfl,I⟩;(go_wp2_with fail);refine (S.out _).mono ?_;rintro J w3 ⟨rfl,rfl⟩;(go_wp2_with fail);try
   refine (gg.out _).mono ?_
   rintro J w3 ⟨rfl,rfl⟩
   go_wp2_with fail
  have D:=u.out;clear u
 rotate_left 4
 iterate 2
  simp only [Bool.false_eq_true,if_false,if_true] at D
  unfold oZ at D
  split at D
  ·rename_i m hm;injection D with e1 J;subst e1;subst J;refine (gr.out _ I (by first | rfl | trivial) m hm).mono ?_;rintro J w3 ⟨rfl,z,ge⟩;(go_wp2_with fail);go_end0;exact ⟨rfl,z,(I.mono (Nat.le_of_lt o)).trans ge⟩
  ·cases D
 iterate 2
  simp only [Bool.false_eq_true,if_false] at D
  rw [if_neg g1.out] at D
  unfold oU at D
  split at D
  ·cases D
  ·rename_i hm;injection D with e1 J;subst e1;subst J;refine (gq.out _ I _ rfl hm).mono ?_;rintro J w3 ⟨rfl,z,ge⟩;(go_wp2_with fail);go_end0;exact ⟨rfl,z,(I.mono (Nat.le_of_lt o)).trans ge⟩
 rotate_left 2
 iterate 2
  simp only [Bool.false_eq_true,if_false,if_true] at D
  injection D with e1 J
  subst e1
  subst J
  refine (gn.out _ I).mono ?_
  rintro J w4 ⟨rfl,M,gd⟩
  generalize hwl:i+be (s.data.toList.drop i)=e at *
  have gu:i≤e:=by omega
  obtain ⟨gt,gs,Q⟩:=M.out
  have gj:=M.le
  clear x0 x1 y x f0 f1 f2 f3 hwl
  obtain ⟨x0,x1,y,x,f0,f1,f2,f3⟩:=aJ Q.blk
  have gh:=hid (iE X s e l 4 i (by omega) hl w4 M)
  go_wp2_with fail
  refine gh.out.mono ?_
  rintro e3 w6 ⟨rfl,U,gb⟩
  go_wp2_with fail
  go_end0
  exact ⟨rfl,U,((I.mono (Nat.le_of_lt o)).trans gd).trans gb⟩
 all_goals
  simp only [if_true] at D;injection D with e1 J;subst e1;subst J;refine (gp.out _ I).mono ?_;rintro J w4 ⟨rfl,M,gd⟩;generalize hwl:i+be (s.data.toList.drop i)=e at *;(have gu:i≤e:=by omega);obtain ⟨gt,gs,Q⟩:=M.out;have gj:=M.le;clear x0 x1 y x f0 f1 f2 f3 hwl;obtain ⟨x0,x1,y,x,f0,f1,f2,f3⟩:=aJ Q.blk;(have p0:(0:Int)≤(i:Int):=by omega);(have p1:(i:Int)≤(e:Int):=by omega);(have p2:(e:Int)≤(s.size:Int):=by omega);have hk:=mX (s.extract i e);have gz:=hid (fun w=>mF (s.extract i e) w);have gh:=hid (fun (w':World) (hb:Below w4.heap.size w4 w')=>iE X s e l (aF (s.extract i e)+1) i (by omega) hl w' (M.below hb));have g7:=fun W=>sd (aF (s.extract i e)) hk W;generalize aF (s.extract i e)=kw at *;clear ga HM S gg HN gp gn gr gq gy gw e9 gx gv qc y x f0 f1 f2 f3;(go_upto_region 13 with fail);go_region_held3 (fun w'=>w'.cell? ⟨X,0,none⟩=some (.string s)∧w'.cell? ⟨X,1,none⟩=some (.int .i64 (e:Int)))
   (first | exact ⟨z0,z1⟩ | go_keep)
   (first
    | (go_at_call 179;refine (gz.out _).mono ?_;rintro e3 w5 ⟨rfl,rfl⟩)
    | (go_at_call 178;refine (gh.out _ (Below.refl _ _).drew).mono ?_;rintro e3 w6 ⟨rfl,U,gb⟩;obtain ⟨g4,g2,gk⟩:=U.out;obtain ⟨z0,z1,-,-,-,-,-,-⟩:=aJ gk.blk))
  all_goals (go_wp2_with fail);go_end0;exact ⟨rfl,U,((I.mono (Nat.le_of_lt o)).trans gd).drew.trans gb⟩
theorem oj [C:NsC] (X:Nat) (s:ByteArray) (i:Nat) (l:List aV) (w:World) (h:bP w X s i l) (q:i<s.size) (z:dp s.data.toList=true) (u:C.ns.length+1≤65536) (j:Nat) (D:ey s i l=.note j) :
  i<j∧j≤s.size∧Calls Tryz.prog 126 #[.pointer (some ⟨X,0,none⟩)] w fun e w'=>e=.returned (.tuple #[]) ∧ @bP (C.push ⟨0,(s.extract i s.size).extract 0 (j-i),i⟩ u) w' X s j l∧Below X w w':=by
 have U:af s i=47∧Lib.hasPrefix (s.data.toList.drop i) [47,47]=true∧∃ N:Nat,Lib.indexByte (s.data.toList.drop i) 10=(N:Int)∧j=i+N:=by
  unfold ey at D;split at D
  ·cases D
  split at D
  ·cases D
  split at D
  ·unfold cD at D;split at D
   ·rename_i h;injection D with D;exact ⟨h.1,h.2.1,_,(Int.toNat_of_nonneg h.2.2).symm,D.symm⟩
   ·cases D
  split at D
  ·cases D
  split at D
  ·cases D
  split at D
  ·unfold oZ at D;split at D <;> cases D
  ·unfold oU at D;split at D <;> cases D
 obtain ⟨J,x,N,Q,rfl⟩:=U;have gb:1≤N:=by
  obtain ⟨c,r,K,M,_⟩:=d6 s i q;rcases iU c r 10 (fun e=>by subst e;rw [J] at M;exact absurd M (by decide)) with h | h
  ·rw [←K,Q] at h;omega
  ·rw [←K,Q] at h;omega
 have k:=dZ (s.data.toList.drop i) 10;rw [Q,List.length_drop] at k;have y:s.data.toList.length=s.size:=rfl;refine ⟨by omega,by omega,?_⟩;rw [show i+N-i=N by omega];have HN:=hid (tK X s i l w h N x Q u);have HM:=hid (fun w=>se s z w);have ga:=h.most;obtain ⟨lv,nv,O⟩:=h.out;obtain ⟨x0,x1,x2,x3,f0,f1,f2,f3⟩:=aJ O.blk;have I:=fun W=>cc s i q W;rw [J] at I;clear x Q J O h D;cases y:((i:Int)==0);all_goals
  (go_enter Tryz.func126,Tryz.ntmps126);(go_wp2_with fail);try
   refine (HM.out _).mono ?_
   rintro e w2 ⟨rfl,rfl⟩
   go_wp2_with fail
  refine HN.out.mono ?_;rintro e w2 ⟨rfl,S,o⟩;(go_wp2_with fail);go_end0;exact ⟨rfl,S,o⟩
end
section
open Go.RowKit Go.Lib Go.Proofs
structure cI (w:World):Prop where
 tab:ay w
 u8:Lib.Utf8Tabs 3 4 w
theorem cI.below {w w':World} (h:cI w) (hb:Below w.heap.size w w'):cI w':=⟨h.tab.below hb,Go.Proofs.Utf8Tabs_below h.u8 hb⟩
theorem lh (g o c j:Nat) (s:ByteArray) (w:World) (I:cI w) (hb:Lib.Bytes w g o s) (J:j<s.size) :
  Calls Tryz.prog 171 #[.slice (some ⟨g,o+j,none⟩) (s.size-j) (c-j)] w fun e w'=>e=.returned (.tuple #[.int .i32 (Utf8.decode s j).1,.int .i64 (Utf8.decode s j).2])∧Below w.heap.size w w':=by (have D:(s.extract j s.size).size=s.size-j:=by rw [ByteArray.size_extract];omega);have h:=Any7.utf8_DecodeRune Tryz.laysDecode (s.extract j s.size) g (o+j) (c-j) w I.u8 (fun m hm=>by rw [D] at hm;rw [iH,aY,show o+j+m=o+(j+m) by omega,hb (j+m) (by omega)];(have:(s[j+m]'(by omega)).toNat=af s (j+m):=by unfold af;rw [List.getD_eq_getElem?_getD,List.getElem?_eq_getElem (by show j+m<s.data.toList.length;have:s.data.toList.length=s.size:=rfl;omega)];rfl);rw [this]);rw [D] at h;(have hd:Lib.decodeGo (s.extract j s.size)=Utf8.decode s j:=by unfold Lib.decodeGo;rw [if_neg (by rw [D];omega),my,Nat.add_zero]);rw [hd] at h;exact h
theorem cx (r:Int) (w:World):Calls Tryz.prog 238 #[.int .i32 r] w fun e w'=>e=.returned (.bool (Lib.validRune r))∧w'=w:=by exact (Any.utf8_ValidRune Tryz.laysValid r w)
def tu (B b:Nat) (bs:List Value) (w:World):Prop:=Lib.IsBuilder 274 5 B b bs w
theorem iA (B b:Nat) (bs:List Value) (s:ByteArray) (w:World) (h:tu B b bs w) (D:bs.length+s.size≤140737488355328) (I:B≤w.heap.size) :
  Calls Tryz.prog 240 #[.pointer (some ⟨b,0,none⟩),.string s] w fun e w'=>(∃ v,e=.returned v)∧tu B b (bs++Lib.strCells s) w'∧Below B w w':=
 (Any.Builder_WriteString (P:=Tryz.prog) (ρ:=Tryz.laysReplace_ren) { Tryz.laysReplace with } Tryz.xReplace B b bs s w h D I).mono fun _ _ h=>⟨⟨_,h.1⟩,.inr h.2.1,h.2.2⟩
def ua:Go.Shelf.Ren := { Tryz.laysReplace_ren with f:=fun | 167=>241 | n=>Tryz.laysReplace_ren.f n }
theorem uj:Go.Proofs.Lays.n167 Tryz.prog ua:=
 {Tryz.laysReplace with
  f167:=Tryz.func241.trans (congrArg some (by kernel_rfl))
  f240:=Tryz.func287.trans (congrArg some (by kernel_rfl))
  f276:=Tryz.laysReplace.f276.trans (congrArg some (by kernel_rfl)) }
theorem wq:Go.Proofs.Builder.Extra Tryz.prog ua := {
 sizeBuilder:=by kernel_rfl
 liesBuilder:=by kernel_rfl
 t5:=Tryz.underlying5
 a5:=Tryz.isAgg5
 z5:=Tryz.sizeOf5
 v5:=Tryz.zeroValue5
 infoByte:=by kernel_rfl
 cellsByte:=by kernel_rfl
 sizeByte:=by kernel_rfl
 neB5:=by decide }
theorem li (B b:Nat) (bs:List Value) (c:Int) (w:World) (h:tu B b bs w) (D:bs.length+1≤140737488355328) (I:B≤w.heap.size) :
  Calls Tryz.prog 241 #[.pointer (some ⟨b,0,none⟩),.int .u8 c] w fun e w'=>e=.returned .nilIface∧tu B b (bs++[.int .u8 c]) w'∧Below B w w':=
 (Any.Builder_WriteByte uj wq B b bs c w h D I).mono fun _ _ h=>⟨h.1,.inr h.2.1,h.2.2⟩
theorem mN (B b:Nat) (l:List UInt8) (w:World) (h:tu B b (Lib.byteCells l) w) (D:B≤w.heap.size) :
  Calls Tryz.prog 242 #[.pointer (some ⟨b,0,none⟩)] w fun e w'=>e=.returned (.string ⟨l.toArray⟩)∧Below B w w':=
 Any.Builder_String_any Tryz.laysBString Tryz.xBString B b l w h D
theorem d7 (s:ByteArray) (i j:Nat) (h:s.size≤65536):(s.extract i j).size≤65536:=by rw [ByteArray.size_extract];omega
theorem sg (s:ByteArray) (i:Nat):(s.data.toList.drop i).length=s.size-i:=by rw [List.length_drop];rfl
theorem it (l:List UInt8) (c:UInt8) (r:List UInt8) (h:l=c::r) (D:aK (c.toNat:Int)=true):1≤be l:=by subst h;unfold be;rw [List.takeWhile_cons,if_pos (by simpa using D)];simp
theorem mZ (s:ByteArray) (i:Nat) (D:i<s.size):∃ c r,s.data.toList.drop i=c::r∧c.toNat=af s i:=by obtain ⟨c,r,J,I,_⟩:=d6 s i D;exact ⟨c,r,J,I⟩
def ez (s:ByteArray):Nat→Nat→List aV→List aV→Option (List aV × List aV)
 | 0,_,_,_=>none
 | g+1,i,l,ns=>
  if i<s.size then
   match ey s i l with
   | .go j l'=>ez s g j l' ns
   | .note j=>ez s g j l (ns++[⟨0,(s.extract i s.size).extract 0 (j-i),i⟩])
   | .out=>none
  else some (et l (s.size:Int),ns)
def fT (s:ByteArray):Option (List aV × List aV):=if s.size≤65536∧dp s.data.toList=true then ez s (s.size+1) 0 [] [] else none
theorem sh {s:ByteArray} {L:List aV × List aV} (h:fT s=some L):s.size≤65536∧dp s.data.toList=true∧ez s (s.size+1) 0 [] []=some L:=by
 unfold fT at h;split at h
 ·exact ⟨‹_∧_›.1,‹_∧_›.2,h⟩
 ·cases h
theorem si (s:ByteArray) (i:Nat) (l:List aV) (K:s.size≤65536) (Q:i<s.size) (h:dC i l) (j:Nat) (l':List aV) (D:ey s i l=.go j l'):i<j∧j≤s.size∧dC j l':=by
 have hd:=sg s i;obtain ⟨c,r,I,J⟩:=mZ s i Q;have U:=oh (s.data.toList.drop i);unfold ey at D;split at D
 ·injection D with e1 e2;subst e1 e2;exact ⟨by omega,by omega,h.line (Nat.le_refl _) _⟩
 split at D
 ·injection D with e1 e2;subst e1 e2;exact ⟨by omega,by omega,h.le (by omega)⟩
 split at D
 ·unfold cD at D;split at D <;> cases D
 split at D
 ·rename_i M;have N:=it _ c r I (by rw [J];unfold aK;rw [M];rfl);injection D with e1 e2;subst e1 e2;exact ⟨by omega,by omega,h.push (by omega) (d7 _ _ _ K)⟩
 split at D
 ·rename_i M;have N:=it _ c r I (by rw [J];unfold aK;rw [M];simp);injection D with e1 e2;subst e1 e2;exact ⟨by omega,by omega,h.push (by omega) (d7 _ _ _ K)⟩
 split at D
 ·unfold oZ at D;split at D
  ·rename_i k hk;have hb:=fS _ _ _ _ hk;rw [List.length_drop] at hb;have S:s.data.toList.length=s.size:=rfl;injection D with e1 e2;subst e1 e2;exact ⟨by omega,by omega,h.push (by omega) (d7 _ _ _ K)⟩
  ·cases D
 ·unfold oU at D;split at D
  ·cases D
  ·rename_i O;have hb:eN s i≤s.size-i:=by
    unfold eN;split
    ·rename_i h;exact h.1
    ·split
     ·rename_i h;exact h.1
     ·split
      ·rename_i h;exact h.1
      ·omega
   injection D with e1 e2;subst e1 e2;exact ⟨by omega,by omega,h.push (by omega) (d7 _ _ _ K)⟩
end
section
open Go.RowKit Go.Lib Go.Proofs
attribute [local go_sem ↓] Go.wp_at_zero Go.wp_at_succ
theorem uR:Tryz.prog.underlying 22=some (.slice (Tryz.prog.elem 22)):=by kernel_rfl
theorem uo:Tryz.prog.elem 22=5:=by kernel_rfl
theorem uS (w:World):(sizeOf (Tryz.prog.elem 22)).run Tryz.prog w=.ok 1 w:=by rw [uo];exact Tryz.sizeOf5 w
theorem lj (g o n c k:Nat) (I:k<n) (D:n≤c) (W:World):(Instr.slice 22 (.slice (some ⟨g,o,none⟩) n c) (some (.int .i64 (k:Int))) none none).run Tryz.prog W=.ok (.slice (some ⟨g,o+k,none⟩) (n-k) (c-k)) W:=by rw [run_slice_l (P:=Tryz.prog) W 22 _ n c uR .i64 (k:Int) (by omega) (by omega),uS];simp only [Result.andThen,sliced,Int.toNat_natCast];rw [if_neg (by omega)];simp [fb]
theorem pq (g o c:Nat) (s:ByteArray) (w:World) (hT:cI w) (hb:Lib.Bytes w g o s) (hg:g<w.heap.size) (hc:s.size≤c) (gb:s.size≤1000000000) (y:dp s.data.toList=true) :
  Calls Tryz.prog 124 #[.slice (some ⟨g,o,none⟩) s.size c] w fun e w'=>e=.returned (.int .i64 (-1))∧Below w.heap.size w w':=by
 have K:=hid (fun w' (Q:Below w.heap.size w w') j (z:j<s.size)=>lh g o c j s w' (hT.below Q) (fun i hi=>(World.cell?_of_block (a:=⟨g,o+i,none⟩) (Q.block g hg)).trans (hb i hi)) z);have u:=run_convert_whole (P:=Tryz.prog) w 22 5 9 Tryz.underlying22 Tryz.underlying5 Tryz.underlying9 g o s hb c;have O:=hid (fun k hk W=>lj g o s.size c k hk hc W);have HP:=hid (mz y);clear hb hT y;(go_enter Tryz.func124,Tryz.ntmps124);(go_wp2_with fail);clear u;go_loopg [3,4,5,6,10,11] s.size (fun gg _ _ _ _ _ _ wr=>∃ j:Nat,j≤s.size∧s.size-j≤gg∧wr.heap[w.heap.size]? = some (.stringIter s j)∧Below w.heap.size w wr)
 case atStart=>exact ⟨0,Nat.zero_le _,by omega,World.iter_heap w _ 0,(Below.refl w.heap.size w).alloc (Nat.le_refl _) _⟩
 case round=>
  obtain ⟨j,z,gd,hit,J⟩:=hrel;by_cases D:j<s.size
  ·have I:=fun ty=>run_next_any_at (P:=Tryz.prog) wr w.heap.size s j ty hit D;obtain ⟨h0,h1⟩:=HP.out j D;have K:=hid (fun w' (Q:Below w.heap.size w w')=>K.out w' Q j D);rw [dL s j h1] at I K;have M:=iterAt_heap wr w.heap.size s j (j+1) hit;have q:Below w.heap.size w (wr.iterAt w.heap.size s (j+1)):=ao J (Nat.le_refl _);have x:w.heap.size<(wr.iterAt w.heap.size s (j+1)).heap.size:=by
    rcases Nat.lt_or_ge w.heap.size (wr.iterAt w.heap.size s (j+1)).heap.size with h | h
    ·exact h
    ·rw [Array.getElem?_eq_none h] at M;cases M
   generalize wr.iterAt w.heap.size s (j+1)=W1 at I M q x;have ge:=O.out j D;have J1:=hid M;generalize af s j=r at *;(have e0:((r:Int)==0)=false:=by rw [beq_eq_false_iff_ne];omega);(have S:((r:Int)==65533)=false:=by rw [beq_eq_false_iff_ne];omega);(have U:((r:Int)==65279)=false:=by rw [beq_eq_false_iff_ne];omega);clear M J hit h0 h1;(go_wp2_with fail);refine (K.out _ q).mono ?_;rintro e w3 ⟨rfl,N⟩;have J3:=hid ((N.block w.heap.size x).trans J1.out);(go_wp2_with fail);go_roundg (s.size-(j+1))
   case measure=>omega
   case rel=>exact ⟨j+1,by omega,Nat.le_refl _,J3.out,ah q N⟩
  ·have ga:=fun ty=>run_next_end_at (P:=Tryz.prog) wr w.heap.size s j ty hit D;(go_wp2_with fail);go_ret;exact ⟨rfl,J⟩
theorem pr (w:World) :
  Calls Tryz.prog 124 #[.slice none 0 0] w fun e w'=>e=.returned (.int .i64 (-1))∧Below w.heap.size w w':=by have I:=run_convert_nil_bytes (P:=Tryz.prog) w 22 9 5 0 Tryz.underlying22 Tryz.underlying5 Tryz.underlying9;have hit:=World.iter_heap w ⟨#[]⟩ 0;have D:=fun ty=>run_next_end_at (P:=Tryz.prog) (w.iter ⟨#[]⟩ 0) w.heap.size ⟨#[]⟩ 0 ty hit (by decide);have J:=hid (show Below w.heap.size w (w.iter ⟨#[]⟩ 0) from (Below.refl w.heap.size w).alloc (Nat.le_refl _) _);clear hit;(go_enter Tryz.func124,Tryz.ntmps124);(go_wp2_with fail);refine wp_loop_rounds 1 ?_;rw [rounds_succ];(go_wp2_with fail);go_ret;exact ⟨rfl,J.out⟩
theorem mO {w w':World} {g o:Nat} {s:ByteArray} (h:Lib.Bytes w g o s) (D:g<w.heap.size) (hb:Below w.heap.size w w'):Lib.Bytes w' g o s:=
 fun i hi=>(World.cell?_of_block (a:=⟨g,o+i,none⟩) (hb.block g D)).trans (h i hi)
def aL (w:World) (A:Option Addr) (c:Nat) (s:ByteArray):Prop:=
 (A=none∧c=0∧s=⟨#[]⟩)∨∃ g o,A=some ⟨g,o,none⟩∧s.size≤c∧g<w.heap.size∧Lib.Bytes w g o s
theorem aL.below {w w':World} {A:Option Addr} {c:Nat} {s:ByteArray} (h:aL w A c s) (hb:Below w.heap.size w w'):aL w' A c s:=by
 rcases h with h | ⟨g,o,K,J,D,I⟩
 ·exact .inl h
 ·exact .inr ⟨g,o,K,J,Nat.lt_of_lt_of_le D hb.size,mO I D hb⟩
theorem aL.wrong {w:World} {A:Option Addr} {c:Nat} {s:ByteArray} (h:aL w A c s) (J:cI w) (D:s.size≤1000000000) (I:dp s.data.toList=true) :
  Calls Tryz.prog 124 #[.slice A s.size c] w fun e w'=>e=.returned (.int .i64 (-1))∧Below w.heap.size w w':=by
 rcases h with ⟨rfl,rfl,rfl⟩ | ⟨g,o,rfl,N,M,K⟩
 ·exact pr w
 ·exact pq g o c s w J K M N D I
theorem aL.conv {w:World} {A:Option Addr} {c:Nat} {s:ByteArray} (h:aL w A c s) :
  (convert 22 9 (.slice A s.size c)).run Tryz.prog w=.ok (.string s) w:=by
 rcases h with ⟨rfl,rfl,rfl⟩ | ⟨g,o,rfl,J,I,D⟩
 ·exact run_convert_nil_bytes (P:=Tryz.prog) w 22 9 5 0 Tryz.underlying22 Tryz.underlying5 Tryz.underlying9
 ·exact run_convert_whole (P:=Tryz.prog) w 22 5 9 Tryz.underlying22 Tryz.underlying5 Tryz.underlying9 g o s D c
theorem pL (p q r:Addr) (w:World) :
  CallsD Tryz.prog 125 #[.pointer (some p),.pointer (some q),.pointer (some r)] .returning w fun e u' w'=>e=.returned (.tuple #[])∧u'=.returning∧w'=w:=by
 refine callsD_of_wpS Tryz.func125 rfl fun c₀ cs D=>?_;apply wpS_seq;apply wpS_region;simp [wpOpsS,go_sem,recoverD,D,Tryz.ntmps125,Exit.thenS];apply wpS_seq;apply wpS_region;simp [wpOpsS,go_sem,Exit.thenS];refine wpS_cond (t:=false) (by simp [Act.eval,Array.replicate]) ?_;simp only [Bool.false_eq_true,if_false];refine wpS_of_wp (wp_skip ?_);cases c₀
 simp_all [bodyPostS,results,Tryz.results125]
def ud (Q:Exit→Act→World→Prop):Exit→Act→World→Prop:=fun x a w=>match x with
 | .normal=>Q .normal a w
 | _=>False
theorem sj {P:Program} {c:Code} {Q:Exit→Act→World→Prop} {a:Act} {w:World} (h:c.wp P (ud Q) a w):c.wp P Q a w:=
 Code.wp_mono (fun e a w h=>by
  cases e with
  | normal=>exact h
  | _=>exact h.elim) h
def m3 (s0:ByteArray) (w:World) (L:List aV × List aV) (e:Ending) (w':World):Prop:=
 ∃ (C:NsC) (X i:Nat),C.ns=L.2∧e=.returned (.tuple #[.pointer (some ⟨X,0,none⟩),.int .i64 0,.int .i64 0]) ∧ @bP C w' X s0 i L.1∧w.heap.size≤X∧Below w.heap.size w w'
theorem m4 (A:Option Addr) (c:Nat) (s:ByteArray) (w:World) (hv:aL w A c s) (hT:cI w) (L:List aV × List aV) (hO:fT s=some L) :
  Calls Tryz.prog 75 #[.slice A s.size c] w (m3 s w L):=by
 obtain ⟨gw,hp,hO⟩:=sh hO;have h0:∀ (fn:Fn) (first cap:Array Value) (w:World),(Instr.makeFunc fn first cap).run Tryz.prog w=.ok (.func fn first cap) w:=fun _ _ _ _=>rfl;have gs:Below w.heap.size w (((w.alloc (.cells #[.pointer none] 138)).alloc (.cells #[.int .i64 0] 3)).alloc (.cells #[.int .i64 0] 57)):=bel;have g2:ac (((w.alloc (.cells #[.pointer none] 138)).alloc (.cells #[.int .i64 0] 3)).alloc (.cells #[.int .i64 0] 57)) w.heap.size 138 #[.pointer none]:=((ac.new w _ _).alloc _).alloc _;have g1:ac (((w.alloc (.cells #[.pointer none] 138)).alloc (.cells #[.int .i64 0] 3)).alloc (.cells #[.int .i64 0] 57)) (w.heap.size+1) 3 #[.int .i64 0]:=(ac.new_at (by simp) _ _).alloc _;have gz:ac (((w.alloc (.cells #[.pointer none] 138)).alloc (.cells #[.int .i64 0] 3)).alloc (.cells #[.int .i64 0] 57)) (w.heap.size+2) 57 #[.int .i64 0]:=ac.new_at (by simp) _ _;have HW:=hid (fun w' (J:Below w.heap.size w w')=>(hv.below J).wrong (hT.below J) (by omega) hp);have g3:=hid (fun w' (J:Below w.heap.size w w')=>(hv.below J).conv);have HT:=hid hT;have HS:=hid hO;have HP:=hid hp;(have hw:decide ((65536:Int)<(s.size:Int))=false:=by rw [decide_eq_false_iff_not];omega);clear hT hv hO hp;(go_enter_defers Tryz.func75,Tryz.ntmps75);(go_wp2_with fail);refine (HW.out _ gs).mono ?_;rintro e S ⟨rfl,r⟩;(have ge:(((w.alloc (.cells #[.pointer none] 138)).alloc (.cells #[.int .i64 0] 3)).alloc (.cells #[.int .i64 0] 57)).heap.size=w.heap.size+3:=by simp);have gj:=g2.below r (by rw [ge];omega);have g0:=g1.below r (by rw [ge];omega);have gy:=gz.below r (by rw [ge];omega);have g4:=r.size;rw [ge] at g4;have gr:=ah gs r;clear g2 g1 gz r gs ge;have g7:=g3.out _ gr;have x0:=aA (gj.alloc (.cells #[.string s,.int .i64 0,.slice none 0 0,.slice none 0 0] 142));have xf:=(gj.alloc (.cells #[.string s,.int .i64 0,.slice none 0 0,.slice none 0 0] 142)).frozen 0;(go_wp2_with fail);(have M:ac ((S.alloc (.cells #[.string s,.int .i64 0,.slice none 0 0,.slice none 0 0] 142)).setCell ⟨w.heap.size,0,none⟩ (.pointer (some ⟨S.heap.size,0,none⟩))) w.heap.size 138 #[.pointer (some ⟨S.heap.size,0,none⟩)]:=by simpa using (gj.alloc _).set_ 0 _);have O:ac ((S.alloc (.cells #[.string s,.int .i64 0,.slice none 0 0,.slice none 0 0] 142)).setCell ⟨w.heap.size,0,none⟩ (.pointer (some ⟨S.heap.size,0,none⟩))) (w.heap.size+1) 3 #[.int .i64 0]:=(g0.alloc _).far (p:=⟨w.heap.size,0,none⟩) (by show w.heap.size+1≠w.heap.size;omega) _;have N:ac ((S.alloc (.cells #[.string s,.int .i64 0,.slice none 0 0,.slice none 0 0] 142)).setCell ⟨w.heap.size,0,none⟩ (.pointer (some ⟨S.heap.size,0,none⟩))) (w.heap.size+2) 57 #[.int .i64 0]:=(gy.alloc _).far (p:=⟨w.heap.size,0,none⟩) (by show w.heap.size+2≠w.heap.size;omega) _;have Q:Below w.heap.size w ((S.alloc (.cells #[.string s,.int .i64 0,.slice none 0 0,.slice none 0 0] 142)).setCell ⟨w.heap.size,0,none⟩ (.pointer (some ⟨S.heap.size,0,none⟩))):=(gr.alloc (by omega) _).setCell (Nat.le_refl _) _;have gd : @bP ⟨[],Nat.zero_le _⟩ ((S.alloc (.cells #[.string s,.int .i64 0,.slice none 0 0,.slice none 0 0] 142)).setCell ⟨w.heap.size,0,none⟩ (.pointer (some ⟨S.heap.size,0,none⟩))) S.heap.size s 0 []:=
  @bP.mk ⟨[],Nat.zero_le _⟩ _ _ _ _ _ ⟨.slice none 0 0,.slice none 0 0,(ac.new S _ _).far (p:=⟨w.heap.size,0,none⟩) (by show S.heap.size≠w.heap.size;omega) _,cq.nil _ _,cq.nil _ _,fun g h=>by cases h⟩ (Nat.zero_le _) gw (by simp)
 generalize (S.alloc (.cells #[.string s,.int .i64 0,.slice none 0 0,.slice none 0 0] 142)).setCell ⟨w.heap.size,0,none⟩ (.pointer (some ⟨S.heap.size,0,none⟩))=w2 at *;generalize S.heap.size=X at *;clear gj g0 gy gr x0 xf g7 g3 HW;go_loopg [28] s.size (fun gg _ wr=>∃ (C:NsC) (i f:Nat) (l:List aV),@bP C wr X s i l∧ac wr w.heap.size 138 #[.pointer (some ⟨X,0,none⟩)]∧ac wr (w.heap.size+1) 3 #[.int .i64 0]∧ac wr (w.heap.size+2) 57 #[.int .i64 0]∧Below w.heap.size w wr ∧
  ez s f i l C.ns=some L∧dC i l∧C.ns.length≤i∧s.size-i+1≤f∧s.size-i≤gg)
 case atStart=>exact ⟨⟨[],Nat.zero_le _⟩,0,s.size+1,[],gd,M,O,N,Q,HS.out,⟨Nat.le_refl _,fun t h=>by cases h⟩,Nat.le_refl _,by omega,by omega⟩
 case round=>
  clear gd M O N Q;obtain ⟨C,i,f,l,u,M,O,N,Q,o,I,hz,hf,h2⟩:=hrel;have h1:=u.le;obtain ⟨lv,nv,gp⟩:=u.out;obtain ⟨x0,x1,x2,x3,-,-,-,-⟩:=aJ gp.blk;have y0:=aA M;obtain ⟨f1,rfl⟩:∃ f1,f=f1+1:=⟨f-1,by omega⟩;unfold ez at o;by_cases hi:i<s.size
  ·rw [if_pos hi] at o;(have g6:(i:Int)<(s.size:Int):=by omega);have gi:=hid o;have gh:=hid (si s i l gw hi I);clear o gp;cases U:ey s i l with
   | out=>exact absurd gi.out (by rw [U];exact fun h=>by cases h)
   | go j l'=>
    obtain ⟨gx,g5,K⟩:=gh.out j l' U;have HF:=hid (show ez s f1 j l' C.ns=some L by rw [←gi.out,U]);have gt:=hid (fun w' (J:Below wr.heap.size wr w') (yk:Below w.heap.size w w')=>oi X s i l w' (u.below J) (HT.out.below yk).tab hi HP.out I j l' U);have gu:=hid K;clear U gi gh K I;(go_wp2_with fail);go_quiet (fail);have z:=ab (Below.refl wr.heap.size wr) nq;have q:=ab Q nq;have k:=M.drewN nq;have gb:=O.drewN nq;have ga:=N.drewN nq;have y3:=aA k;generalize wr.drewN nq=w3 at *;clear x0 x1 x2 x3 y0 M O N Q;(go_wp2_with fail);refine (gt.out _ z q).mono ?_;rintro e w4 ⟨rfl,x,D⟩;(go_wp2_with fail);go_roundg (s.size-j)
    case measure=>omega
    case rel=>exact ⟨C,j,f1,l',x,k.below D (by omega),gb.below D (by omega),ga.below D (by omega),q.trans (D.mono (by omega)),HF.out,gu.out,by omega,by omega,Nat.le_refl _⟩
   | note j=>
    (have y:C.ns.length+1≤65536:=by omega);have gq:=fun w' (J:Below wr.heap.size wr w')=>oj X s i l w' (u.below J) hi HP.out y j U;obtain ⟨gx,g5,-⟩:=gq wr (Below.refl _ _);have K:=I.le (Nat.le_of_lt gx);have gt:=hid (fun w' J=>(gq w' J).2.2);have HF:=hid (show ez s f1 j l (C.push ⟨0,(s.extract i s.size).extract 0 (j-i),i⟩ y).ns=some L by rw [←gi.out,U];rfl);have gu:=hid K;clear U gi gh K I gq;(go_wp2_with fail);go_quiet (fail);have z:=ab (Below.refl wr.heap.size wr) nq;have q:=ab Q nq;have k:=M.drewN nq;have gb:=O.drewN nq;have ga:=N.drewN nq;have y3:=aA k;generalize wr.drewN nq=w3 at *;clear x0 x1 x2 x3 y0 M O N Q;(go_wp2_with fail);refine (gt.out _ z).mono ?_;rintro e w4 ⟨rfl,x,D⟩;(go_wp2_with fail);go_roundg (s.size-j)
    case measure=>omega
    case rel=>exact ⟨C.push _ y,j,f1,l,x,k.below D (by omega),gb.below D (by omega),ga.below D (by omega),q.trans (D.mono (by omega)),HF.out,gu.out,by show (C.ns++_).length≤j;rw [List.length_append];show C.ns.length+1≤j;omega,by omega,Nat.le_refl _⟩
  ·rw [if_neg hi] at o;have HF:=hid (show (et l (s.size:Int),C.ns)=L from Option.some.inj o);(have hl:l.length+1≤65537:=by have:=I.1;omega);(have g6:¬ (i:Int)<(s.size:Int):=by omega);have gv:=I.2;have hu:=hid (fun w' (J:Below wr.heap.size wr w') (yk:Below w.heap.size w w')=>mM X s i l (s.size:Int) hl w' (u.below J) (HT.out.below yk).tab gv);clear o gp gv I;(go_wp2_with fail);go_quiet (fail);have z:=ab (Below.refl wr.heap.size wr) nq;have q:=ab Q nq;have k:=M.drewN nq;have gb:=O.drewN nq;have ga:=N.drewN nq;have y3:=aA k;have hy:(wr.drewN nq).cell? ⟨X,0,none⟩=some (.string s):=x0;generalize wr.drewN nq=w3 at *;clear x0 x1 x2 x3 y0 M O N Q;(go_wp2_with fail);refine sj ?_;go_region_law (first
    | (go_simp;go_at_call 127;refine (hu.out _ z.drew q.drew).mono ?_;rintro e w4 ⟨rfl,x,D⟩;have gn:=k.drew.below D (by omega);have y4:=aA gn))
   all_goals unfold ud;have gm:=gb.drew.below D (by omega);have gl:=ga.drew.below D (by omega);have ht:=q.drew.trans (D.mono (by omega));have yf:=gn.frozen 0;have u4:=aA gm;have uf:=gm.frozen 0;have v4:=aA gl;have vf:=gl.frozen 0;(go_wp2_with fail);(have hk:ac (w4.setCell ⟨w.heap.size,0,none⟩ (.pointer (some ⟨X,0,none⟩))) w.heap.size 138 #[.pointer (some ⟨X,0,none⟩)]:=by simpa using gn.set_ 0 (.pointer (some ⟨X,0,none⟩)));have hg:=gm.far (p:=⟨w.heap.size,0,none⟩) (by show w.heap.size+1≠w.heap.size;omega) (.pointer (some ⟨X,0,none⟩));have ha:=gl.far (p:=⟨w.heap.size,0,none⟩) (by show w.heap.size+2≠w.heap.size;omega) (.pointer (some ⟨X,0,none⟩));have ho:∀ b,X≤b→(w4.setCell ⟨w.heap.size,0,none⟩ (.pointer (some ⟨X,0,none⟩))).heap[b]? = w4.heap[b]? := fun b hb=>Below.heap_setCell w4 ⟨w.heap.size,0,none⟩ _ b (by show b≠w.heap.size;omega);have hs:=ht.setCell (p:=⟨w.heap.size,0,none⟩) (Nat.le_refl _) (.pointer (some ⟨X,0,none⟩));generalize w4.setCell ⟨w.heap.size,0,none⟩ (.pointer (some ⟨X,0,none⟩))=w5 at *;(have he:ac (w5.setCell ⟨w.heap.size+1,0,none⟩ (.int .i64 0)) (w.heap.size+1) 3 #[.int .i64 0]:=by simpa using hg.set_ 0 (.int .i64 0));have hj:=hk.far (p:=⟨w.heap.size+1,0,none⟩) (by show w.heap.size≠w.heap.size+1;omega) (.int .i64 0);have g9:=ha.far (p:=⟨w.heap.size+1,0,none⟩) (by show w.heap.size+2≠w.heap.size+1;omega) (.int .i64 0);have hn:∀ b,X≤b→(w5.setCell ⟨w.heap.size+1,0,none⟩ (.int .i64 0)).heap[b]? = w4.heap[b]? := fun b hb=>(Below.heap_setCell w5 ⟨w.heap.size+1,0,none⟩ _ b (by show b≠w.heap.size+1;omega)).trans (ho b hb);have hr:=hs.setCell (p:=⟨w.heap.size+1,0,none⟩) (Nat.le_succ _) (.int .i64 0);generalize w5.setCell ⟨w.heap.size+1,0,none⟩ (.int .i64 0)=w6 at *;(have g8:ac (w6.setCell ⟨w.heap.size+1+1,0,none⟩ (.int .i64 0)) (w.heap.size+2) 57 #[.int .i64 0]:=by simpa using g9.set_ 0 (.int .i64 0));have hh:=hj.far (p:=⟨w.heap.size+1+1,0,none⟩) (by show w.heap.size≠w.heap.size+1+1;omega) (.int .i64 0);have hc:=he.far (p:=⟨w.heap.size+1+1,0,none⟩) (by show w.heap.size+1≠w.heap.size+1+1;omega) (.int .i64 0);have hm:∀ b,X≤b→(w6.setCell ⟨w.heap.size+1+1,0,none⟩ (.int .i64 0)).heap[b]? = w4.heap[b]? := fun b hb=>(Below.heap_setCell w6 ⟨w.heap.size+1+1,0,none⟩ _ b (by show b≠w.heap.size+1+1;omega)).trans (hn b hb);have hq:=hr.setCell (p:=⟨w.heap.size+1+1,0,none⟩) (show w.heap.size≤w.heap.size+1+1 by omega) (.int .i64 0);generalize w6.setCell ⟨w.heap.size+1+1,0,none⟩ (.int .i64 0)=w7 at *;have gd:=x.keep fun b hb _=>hm b hb;rw [show et l (s.size:Int)=L.1 by rw [←HF.out]] at gd;refine leaves_cons (f:=125) (args:=#[.pointer (some ⟨w.heap.size,0,none⟩),.pointer (some ⟨w.heap.size+1,0,none⟩),.pointer (some ⟨w.heap.size+1+1,0,none⟩)]) (by simp) (by simp [go_sem]) ?_;refine (pL _ _ _ _).mono ?_;rintro e u' w8 ⟨rfl,rfl,rfl⟩;have z0:=aA hh;have z1:=aA hc;have z2:w8.cell? ⟨w.heap.size+1+1,0,none⟩=some (.int .i64 0):=aA g8;clear y4 u4 v4 yf uf vf;simp [Leaves,settle,results,Tryz.results75,go_sem,z0,z1,z2,m3];exact ⟨C,by rw [←HF.out],⟨i,gd⟩,by omega,hq⟩
theorem cq.reads {B:Nat} {w:World} {v:Value} {l:List aV} (h:cq B w v l):∃ A c,v=.slice A l.length c∧l.length≤c∧ae w w.heap.size 3 A l.length (l.flatMap fI):=by
 obtain ⟨A,c,I,J⟩:=h.form;refine ⟨A,c,I,J,?_⟩;by_cases O:l.length=0
 ·exact ⟨by rw [fB cT],fun M=>by omega⟩
 ·obtain ⟨g,c',D,N,K⟩:=World.ownsRow.form h (by omega);rw [I] at D;injection D with e1 e2 e3;subst e1 e3;exact ae.of_own (I▸h:w.ownsRow B _ 3 (.slice (some ⟨g,0,none⟩) l.length c) l.length (l.flatMap fI))
theorem lO {w:World} {A:Option Addr} {B n R:Nat} {xs:List Value} (h:ae w B 3 A n xs) (N:B≤R):a7 (· < R) w 3 A n xs:=by
 refine ⟨h.1,fun K=>?_⟩;obtain ⟨ad,O,hb,J⟩:=h.2 K;(have M:0<xs.length:=by rw [h.1];omega);have Q:=J 0 xs[0] (List.getElem?_eq_getElem M);have D:=dJ (show w.cell? ad=some xs[0] from Q);obtain ⟨b,o,s⟩:=ad;(have I:s=none:=by simpa using D);subst I;refine ⟨b,o,O,Nat.lt_of_lt_of_le hb N,fun j u hu=>?_⟩;have:=J j u hu
 rwa [fb] at this
def uU (w:World) (A:Option Addr) (cp:Nat) (L:List aV) (w':World):Prop:=L.length≤cp∧ae w' w'.heap.size 3 A L.length (L.flatMap fI)∧Below w.heap.size w w'
theorem eB (A:Option Addr) (c:Nat) (s:ByteArray) (w:World) (K:aL w A c s) (M:cI w) (L:List aV × List aV) (N:fT s=some L) :
  Calls Tryz.prog 50 #[.slice A s.size c] w fun e w'=>∃ A' cp,e=.returned (.tuple #[.slice A' L.1.length cp,.int .i64 0,.int .i64 0])∧uU w A' cp L.1 w':=by have O:=hid (m4 A c s w K M L N);clear K M N;(go_enter Tryz.func50,Tryz.ntmps50);(go_wp2_with fail);refine O.out.mono ?_;rintro e w1 ⟨C,X,i,q,rfl,I,o,S⟩;obtain ⟨lv,nv,D⟩:=I.out;obtain ⟨k,j,h,U,-,-,-,-⟩:=aJ D.blk;obtain ⟨A',cp,rfl,J,Q⟩:=D.toks.reads;clear I D O;(go_wp2_with fail);go_ret3;exact ⟨A',cp,rfl,J,Q,S⟩
theorem lP (A:Option Addr) (c:Nat) (s:ByteArray) (w:World) (K:aL w A c s) (N:cI w) (L:List aV × List aV) (O:fT s=some L) :
  Calls Tryz.prog 51 #[.slice A s.size c] w fun e w'=>∃ A' cp,e=.returned (.slice A' L.2.length cp)∧uU w A' cp L.2 w':=by have S:=hid (m4 A c s w K N L O);clear K N O;(go_enter Tryz.func51,Tryz.ntmps51);(go_wp2_with fail);refine S.out.mono ?_;rintro e w1 ⟨C,X,i,Q,rfl,I,q,h⟩;obtain ⟨lv,nv,D⟩:=I.out;obtain ⟨o,k,j,U,-,-,-,-⟩:=aJ D.blk;obtain ⟨A',cp,rfl,J,M⟩:=D.notes.reads;rw [Q] at J M U;clear I D S Q;(go_wp2_with fail);go_ret;exact ⟨A',cp,rfl,J,M,h⟩
def eC (c:Nat):Int:=match bC c with | some d=>(d:Int) | none => -1
theorem dD (c:Nat) (o:c<2000000) (w:World):Calls Tryz.prog 188 #[.int .i32 (c:Int)] w fun e w'=>e=.returned (.int .i64 (eC c))∧w=w':=by
 by_cases J:48≤c∧c≤57
 ·have I:=hid (show eC c=(c:Int)-48 by unfold eC bC;rw [if_pos J];simp only;omega);(have N:decide ((48:Int)≤(c:Int))=true:=by rw [decide_eq_true_iff];omega);(have M:decide ((c:Int)≤(57:Int))=true:=by rw [decide_eq_true_iff];omega);have U:IntKind.i32.wrap ((c:Int)-48)=(c:Int)-48:=IntWalk.i32_in _ (by omega);have S:IntKind.i64.wrap ((c:Int)-48)=(c:Int)-48:=IntWalk.i64_in _ (by omega);(go_enter Tryz.func188,Tryz.ntmps188);(go_wp2_with fail);go_ret;exact ⟨(by rw [I.out];first | done | rfl),rfl⟩
 (have D:(decide ((48:Int)≤(c:Int))&&decide ((c:Int)≤(57:Int)))=false:=by rw [Bool.and_eq_false_iff,decide_eq_false_iff_not,decide_eq_false_iff_not];omega);by_cases K:97≤c∧c≤102
 ·have I:=hid (show eC c=(c:Int)-97+10 by unfold eC bC;rw [if_neg J,if_pos K];simp only;omega);(have k:decide ((48:Int)≤(c:Int))=true:=by rw [decide_eq_true_iff];omega);(have Q:decide ((c:Int)≤(57:Int))=false:=by rw [decide_eq_false_iff_not];omega);(have N:decide ((97:Int)≤(c:Int))=true:=by rw [decide_eq_true_iff];omega);(have M:decide ((c:Int)≤(102:Int))=true:=by rw [decide_eq_true_iff];omega);have U:IntKind.i32.wrap ((c:Int)-97)=(c:Int)-97:=IntWalk.i32_in _ (by omega);have S:IntKind.i64.wrap ((c:Int)-97)=(c:Int)-97:=IntWalk.i64_in _ (by omega);have j:IntKind.i64.wrap ((c:Int)-97+10)=(c:Int)-97+10:=IntWalk.i64_in _ (by omega);clear D;(go_enter Tryz.func188,Tryz.ntmps188);(go_wp2_with fail);go_ret;exact ⟨(by rw [I.out];first | done | rfl),rfl⟩
 by_cases O:65≤c∧c≤70
 ·have I:=hid (show eC c=(c:Int)-65+10 by unfold eC bC;rw [if_neg J,if_neg K,if_pos O];simp only;omega);(have k:decide ((48:Int)≤(c:Int))=true:=by rw [decide_eq_true_iff];omega);(have Q:decide ((c:Int)≤(57:Int))=false:=by rw [decide_eq_false_iff_not];omega);(have N:decide ((97:Int)≤(c:Int))=false:=by rw [decide_eq_false_iff_not];omega);(have M:decide ((65:Int)≤(c:Int))=true:=by rw [decide_eq_true_iff];omega);(have h:decide ((c:Int)≤(70:Int))=true:=by rw [decide_eq_true_iff];omega);have U:IntKind.i32.wrap ((c:Int)-65)=(c:Int)-65:=IntWalk.i32_in _ (by omega);have S:IntKind.i64.wrap ((c:Int)-65)=(c:Int)-65:=IntWalk.i64_in _ (by omega);have j:IntKind.i64.wrap ((c:Int)-65+10)=(c:Int)-65+10:=IntWalk.i64_in _ (by omega);clear D;(go_enter Tryz.func188,Tryz.ntmps188);(go_wp2_with fail);go_ret;exact ⟨(by rw [I.out];first | done | rfl),rfl⟩
 ·have I:=hid (show eC c = -1 by unfold eC bC;rw [if_neg J,if_neg K,if_neg O]);clear D;cases N:decide ((48:Int)≤(c:Int)) <;> cases M:decide ((c:Int)≤(57:Int)) <;> cases h:decide ((97:Int)≤(c:Int)) <;> cases e4:decide ((c:Int)≤(102:Int)) <;> cases e5:decide ((65:Int)≤(c:Int)) <;> cases e6:decide ((c:Int)≤(70:Int));all_goals
   first
    | (exfalso;simp only [decide_eq_true_iff,decide_eq_false_iff_not] at N M h e4 e5 e6;omega)
    | (clear J K O;(go_enter Tryz.func188,Tryz.ntmps188);(go_wp2_with fail);go_ret;exact ⟨(by rw [I.out];first | done | rfl),rfl⟩)
def eR (B:Nat) (w:World) (v:Value) (l:List Nat):Prop:=w.ownsRow B 3 1 v l.length (l.map fun (d:Nat)=>Value.int .i64 (d:Int))
def ol (B:Nat) (w:World) (v:Value) (l:List UInt8):Prop:=w.ownsRow B 5 1 v l.length (l.map fun c=>Value.int .u8 (c.toNat:Int))
theorem m5 {B:Nat} {w w':World} {e:TypeId} {n:Nat} {v:Value} {xs:List Value} (h:w.ownsRow B e 1 v n xs) (K:∀ b,B≤b→b<w.heap.size→w'.heap[b]? = w.heap[b]?):w'.ownsRow B e 1 v n xs:=by
 refine ⟨h.1,?_⟩;rcases h.2 with M | ⟨g,cap,cur,e,J,I,r⟩
 ·exact .inl M
 ·refine .inr ⟨g,cap,cur,e,J,?_,r⟩;have D:g<w.heap.size:=by
   rcases Nat.lt_or_ge g w.heap.size with D | hge
   ·exact D
   ·rw [Array.getElem?_eq_none hge] at I;cases I
  exact (K g J D).trans I
theorem eP {B:Nat} {w:World} {e:TypeId} {n:Nat} {v:Value} {xs:List Value} (h:w.ownsRow B e 1 v n xs):∃ A c,v=.slice A n c∧n≤c:=by
 rcases h.2 with ⟨rfl,I⟩ | ⟨g,cap,cur,rfl,_,_,D,_⟩
 ·exact ⟨none,0,by rw [I],by omega⟩
 ·exact ⟨_,cap,rfl,D⟩
theorem tL:(Tryz.prog.info? 3).map (fun i=>(i.zero,i.size,i.bytes))=some (some (.int .i64 0),1,8):=by kernel_rfl
theorem infoByte:(Tryz.prog.info? 5).map (fun i=>(i.zero,i.size,i.bytes))=some (some (.int .u8 0),1,1):=by kernel_rfl
theorem mf {ops:Array Oper} {rest:List Oper} {o:Oper} {a:Act} {Q:Exit→Act→World→Prop} (O:o.guard=none) (s x:Operand)
  (y:o.op=.call { callee:=.builtin .append,args:=#[s,x],argTypes:=#[163,163] })
  (B:Nat) (I:World) (u:Value) (l:List Nat) (d:Nat) (D:Int) (r:a.eval s=u) (S:Nat) (q:a.eval x=.slice (some ⟨S,0,none⟩) 1 1) (hS:I.heap.size=S) (hD:D=(d:Int))
  (U:eR B I u l) (hB:B≤I.heap.size) (hl:l.length≤1000000)
  (h:∀ g c w2,eR B w2 (.slice (some ⟨g,0,none⟩) (l.length+1) c) (l++[d])→Below B I w2→wpList Tryz.prog ops Q rest (a.put o.dst (.slice (some ⟨g,0,none⟩) (l.length+1) c)) w2) :
  wpList Tryz.prog ops Q (o::rest) a (I.alloc (.cells #[.int .i64 D] 3)):=by
 subst hS hD;refine wpList_plain O fun _ hK=>?_;obtain ⟨j,z,N,M,K⟩:=info_parts tL;refine wp_append_lies _ s x 163 y B 3 j _ 1 8 Tryz.underlying163 z N M K rfl (by omega) u l.length _ r (World.ownsRow.alloc U _) ⟨I.heap.size,0,none⟩ 1 1 [.int .i64 (d:Int)] q rfl
  (World.news_of_block (cs:=#[.int .i64 (d:Int)]) (heap_alloc_new _ _)) (by simp [Value.oneCell']) (by omega) (by unfold maxLen;omega) (by omega) (by rw [World.size_alloc];omega) _ rfl ?_
 intro g c w2 hown1 J hat _;refine hK _ _ (h g c w2 ?_ ?_)
 ·unfold eR;rw [List.map_append,List.length_append];exact hown1
 ·have h1:=(Below.refl B I).alloc hB (.cells #[.int .i64 (d:Int)] 3);exact h1.trans ⟨J.os,J.tape,J.output,J.size,fun k hk=>J.block k (by rw [World.size_alloc];omega) (fun e=>by have:=(World.ownsRow.lt U k e.symm).1;omega)⟩
theorem fU {ops:Array Oper} {rest:List Oper} {o:Oper} {a:Act} {Q:Exit→Act→World→Prop} (O:o.guard=none) (s x:Operand)
  (y:o.op=.call { callee:=.builtin .append,args:=#[s,x],argTypes:=#[22,22] })
  (B:Nat) (I:World) (u:Value) (l:List UInt8) (d:UInt8) (D:Int) (r:a.eval s=u) (S:Nat) (q:a.eval x=.slice (some ⟨S,0,none⟩) 1 1) (hS:I.heap.size=S) (hD:D=(d.toNat:Int))
  (U:ol B I u l) (hB:B≤I.heap.size) (hl:l.length≤1000000)
  (h:∀ g c w2,ol B w2 (.slice (some ⟨g,0,none⟩) (l.length+1) c) (l++[d])→Below B I w2→wpList Tryz.prog ops Q rest (a.put o.dst (.slice (some ⟨g,0,none⟩) (l.length+1) c)) w2) :
  wpList Tryz.prog ops Q (o::rest) a (I.alloc (.cells #[.int .u8 D] 5)):=by
 subst hS hD;refine wpList_plain O fun _ hK=>?_;obtain ⟨j,z,N,M,K⟩:=info_parts infoByte;refine wp_append_lies _ s x 22 y B 5 j _ 1 1 Tryz.underlying22 z N M K rfl (by omega) u l.length _ r (World.ownsRow.alloc U _) ⟨I.heap.size,0,none⟩ 1 1 [.int .u8 (d.toNat:Int)] q rfl
  (World.news_of_block (cs:=#[.int .u8 (d.toNat:Int)]) (heap_alloc_new _ _)) (by simp [Value.oneCell']) (by omega) (by unfold maxLen;omega) (by omega) (by rw [World.size_alloc];omega) _ rfl ?_
 intro g c w2 hown1 J hat _;refine hK _ _ (h g c w2 ?_ ?_)
 ·unfold ol;rw [List.map_append,List.length_append];exact hown1
 ·have h1:=(Below.refl B I).alloc hB (.cells #[.int .u8 (d.toNat:Int)] 5);exact h1.trans ⟨J.os,J.tape,J.output,J.size,fun k hk=>J.block k (by rw [World.size_alloc];omega) (fun e=>by have:=(World.ownsRow.lt U k e.symm).1;omega)⟩
theorem om (c:Nat) (I:0<c) (h:c<100):bT c=c % 10::bT (c / 10):=by
 unfold bT;by_cases D:c<10
 ·rw [if_neg (by omega),if_pos D,Nat.mod_eq_of_lt D,if_pos (by omega)]
 ·rw [if_neg (by omega),if_neg D,if_neg (by omega),if_pos (by omega)]
theorem on:bT 0=[]:=rfl
theorem sk (c:Nat) (h:c<100):∀ x∈bT c,x≤9:=by
 unfold bT;intro x D;split at D
 ·cases D
 ·split at D
  ·(obtain rfl:x=c:=by simpa using D);omega
  ·rcases List.mem_cons.1 D with rfl | D
   ·omega
   ·(obtain rfl:x=c / 10:=by simpa using D);omega
theorem pM (c:Nat):(bT c).length≤2:=by
 unfold bT;split
 ·simp
 ·split <;> simp
theorem m6 (f:Nat) (I:f≤16):∀ (l:List Nat) (m:Nat),(∀ x∈l,x≤9)→m≤15→∀ x∈aT f l m,x≤9
 | [],m,_,K,x,D=>sk m (by omega) x D
 | y::r,m,hd,K,x,D=>by
  have J:=hd y (List.mem_cons_self);have hb:y * f≤9 * 16:=Nat.mul_le_mul J I;rw [aT] at D;rcases List.mem_cons.1 D with rfl | D
  ·omega
  ·exact m6 f I r _ (fun z hz=>hd z (List.mem_cons_of_mem _ hz)) (by omega) x D
theorem ig (f:Nat):∀ (l:List Nat) (m:Nat),(aT f l m).length≤l.length+2
 | [],m=>by rw [aT];have:=pM m;simp;omega
 | y::r,m=>by rw [aT,List.length_cons,List.length_cons];have:=ig f r ((y * f+m) / 10);omega
theorem pN (B:Nat) (v:Value) (l:List Nat) (f m:Nat) (w:World) (K:eR B w v l) (hB:B≤w.heap.size) (hd:∀ x∈l,x≤9) (hf:f≤16) (hm:m≤15) (hl:l.length≤1000) :
  Calls Tryz.prog 189 #[v,.int .i64 (f:Int),.int .i64 (m:Int)] w fun e w'=>∃ v',e=.returned v'∧eR B w' v' (aT f l m)∧Below B w w':=by
 obtain ⟨A,cp,rfl,gs⟩:=eP K;obtain ⟨T,hT⟩:∃ T,T=aT f l m:=⟨_,rfl⟩;rw [←hT];have HT:=hid hT;(have gu:T.length≤1002:=by rw [hT];have:=ig f l m;omega);clear hT;(go_enter Tryz.func189,Tryz.ntmps189);(go_wp2_with fail);go_loopg [2,7,8,11] l.length (fun gg u2 _ _ u11 wr=>∃ (i c:Nat) (done:List Nat),i≤l.length∧l.length-i≤gg∧u2=.int .i64 (c:Int)∧u11=.int .i64 (i:Int)∧done.length=i∧eR B wr (.slice A l.length cp) (done++l.drop i)∧Below B w wr∧done++aT f (l.drop i) c=T∧c≤15)
 case atStart=>exact ⟨0,m,[],Nat.zero_le _,by omega,rfl,rfl,rfl,K,Below.refl _ _,HT.out.symm,hm⟩
 case round=>
  clear K hm;obtain ⟨i,c,done,hi,gp,rfl,rfl,gb,K,D,r,hc⟩:=hrel;have k:=hid K;have S:=hid r;have I:=hid gb;clear K r gb;by_cases z:i<l.length
  ·(have y:(i:Int)<(l.length:Int):=by omega);(have gw:(0:Int)≤(i:Int):=by omega);have U:=List.drop_eq_getElem_cons z;have o:=hd _ (List.getElem_mem z);generalize l[i]=x at *;have yk:=hid U;have J:=k.out;rw [U] at J;clear U;obtain ⟨g,c',hv,ge,gn⟩:=World.ownsRow.form J (by rw [List.length_append,List.length_cons];omega);(have O:(done++x::l.drop (i+1)).length=l.length:=by rw [List.length_append,List.length_cons,List.length_drop,I.out];omega);injection hv with e1 e2 e3;subst e1 e3;unfold eR at J;rw [O] at J;have h:=World.ownsRow.cellAt J i (by omega);have gq:=World.ownsRow.frozenAt J i;(have Q:((done++x::l.drop (i+1)).map fun (d:Nat)=>Value.int .i64 (d:Int))[i]? = some (.int .i64 (x:Int)):=by rw [List.map_append,List.getElem?_append_right (by rw [List.length_map,I.out];exact Nat.le_refl _)];simp [I.out]);rw [Q] at h;have hp:x * f≤9 * 16:=Nat.mul_le_mul o hf;(have q1:IntKind.i64.wrap ((x:Int) * (f:Int))=((x * f:Nat):Int):=by rw [show (x:Int) * (f:Int)=((x * f:Nat):Int) by simp];exact IntWalk.i64_in _ (by omega));have HX:=hid (show aT f (l.drop i) c=(x * f+c) % 10::aT f (l.drop (i+1)) ((x * f+c) / 10) by rw [yk.out,aT]);generalize x * f=p at *;have q2:IntKind.i64.wrap ((p:Int)+(c:Int))=(p:Int)+(c:Int):=IntWalk.i64_in _ (by omega);have q:=World.ownsRow.stored J i (.int .i64 (((p:Int)+(c:Int)) % 10));(have N:eR B (wr.setCell ⟨g,i,none⟩ (.int .i64 (((p:Int)+(c:Int)) % 10))) (.slice (some ⟨g,0,none⟩) l.length cp) ((done++[(p+c) % 10])++l.drop (i+1)):=by have h1:=q.1;(have e:((done++x::l.drop (i+1)).map fun (d:Nat)=>Value.int .i64 (d:Int)).set i (.int .i64 (((p:Int)+(c:Int)) % 10))=((done++[(p+c) % 10])++l.drop (i+1)).map fun (d:Nat)=>Value.int .i64 (d:Int):=by rw [show ((p:Int)+(c:Int)) % 10=(((p+c) % 10:Nat):Int) by omega];rw [List.map_append,List.set_append_right _ _ (by rw [List.length_map,I.out];exact Nat.le_refl _)];simp [I.out]);rw [e] at h1;unfold eR;rw [show ((done++[(p+c) % 10])++l.drop (i+1)).length=l.length by rw [List.length_append,List.length_append,List.length_drop,I.out];simp;omega];exact h1);have j:Below B w (wr.setCell ⟨g,i,none⟩ (.int .i64 (((p:Int)+(c:Int)) % 10))):=D.setCell (by exact ge) _;have gj:=hid N;have HI:=hid (show (((p:Int)+(c:Int)) / 10)=(((p+c) / 10:Nat):Int) by omega);(have u:(p+c) / 10≤15:=by omega);clear q N J Q o O e2;(go_wp2_with fail);go_roundg (l.length-(i+1))
   case measure=>omega
   case rel=>exact ⟨i+1,(p+c) / 10,done++[(p+c) % 10],by omega,Nat.le_refl _,by rw [HI.out],by go_num,by rw [List.length_append,I.out];rfl,gj.out,j,by rw [←S.out,HX.out,List.append_assoc];rfl,u⟩
  ·(have y:¬ (i:Int)<(l.length:Int):=by omega);have M:=hid (show done++bT c=T by rw [←S.out,List.drop_of_length_le (by omega),aT]);have gd:=hid (show eR B wr (.slice A l.length cp) done by have:=k.out;rw [List.drop_of_length_le (by omega),List.append_nil] at this;exact this);(have ga:done.length=l.length:=by have:=I.out;omega);have gx:=hid ga;clear S k I ga;rename World=>wo;(go_wp2_with fail);go_loopg [0,2] c (fun gg u0 u2 wr=>∃ (L:List Nat) (d:Nat),eR B wr u0 L∧u2=.int .i64 (d:Int)∧L++bT d=T∧Below B w wr∧d≤15∧d≤gg)
   case atStart=>exact ⟨done,c,gd.out,rfl,M.out,D,hc,Nat.le_refl _⟩
   case round=>
    clear gd M D hc;obtain ⟨L,d,K,rfl,r,D,gl,gr⟩:=hrel;have k:=hid K;have S:=hid r;obtain ⟨A1,c1,hu,gt⟩:=eP K;clear K r;subst hu;by_cases gh:0<d
    ·(have gm:(0:Int)<(d:Int):=by omega);have M:=hid (show (L++[d % 10])++bT (d / 10)=T by rw [←S.out,om d gh (by omega),List.append_assoc];rfl);(have gv:L.length≤1002:=by have:=congrArg List.length S.out;rw [List.length_append] at this;omega);have HI:=hid (show ((d:Int) / 10)=((d / 10:Nat):Int) by omega);have HM:=hid (show ((d:Int) % 10)=((d % 10:Nat):Int) by omega);clear S;go_wp2_with (at_builtin;refine mf rfl (.tmp 31) (.tmp 34) rfl B _ _ L (d % 10) _ rfl _ rfl rfl HM.out k.out (by have:=D.size;omega) (by omega) ?_;intro g c w2 gi j);go_roundg (d / 10)
     case measure=>omega
     case rel=>exact ⟨L++[d % 10],d / 10,gi,by rw [HI.out],M.out,D.trans j,by omega,Nat.le_refl _⟩
    ·(obtain rfl:d=0:=by omega);have HL:=hid (show L=T by rw [←S.out,on,List.append_nil]);(go_wp2_with fail);go_ret;exact ⟨_,rfl,by rw [←HL.out];exact k.out,D⟩
end
end Go.Proofs.YtmmjgmcfdnkomaaGreatDoor
