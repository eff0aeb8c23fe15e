/-
  Parts of the proof: Lnum. By an AI agent.
-/
import Derived.Test.YtiebcdeafofgdaaGreatDoorJ24
import Derived.Test.YtiebcdeafofgdaaGreatDoorJ23
import Derived.Test.YtiebcdeafofgdaaGreatDoorJ21
set_option maxRecDepth 100000
set_option maxHeartbeats 8000000
namespace Go.Proofs.YtiebcdeafofgdaaGreatDoor
section
open Go.RowKit Go.Lib Go.Proofs
attribute [local go_sem ↓] Go.wp_at_zero Go.wp_at_succ
def bO (s:ByteArray):Nat × ByteArray:=
 if s.size<2∨aa s 0≠48 then (10,s)
 else if aa s 1=120∨aa s 1=88 then (16,s.extract 2 s.size)
 else if aa s 1=98∨aa s 1=66 then (2,s.extract 2 s.size)
 else if aa s 1=111∨aa s 1=79 then (8,s.extract 2 s.size)
 else (8,s.extract 1 s.size)
theorem Ah (l:List UInt8) (t:ByteArray) (h:t.data.toList=l):t=⟨l.toArray⟩:=by subst h;rfl
theorem Ib (s:ByteArray):sJ s.data.toList=((bO s).1,(bO s).2.data.toList):=by
 unfold bO aa;have D:s.size=s.data.toList.length:=rfl;cases I:s.data.toList with
 | nil => (have h0:s.size=0:=by rw [D,I];rfl);rw [if_pos (Or.inl (show s.size<2 by omega))];simp [sJ,I]
 | cons a r=>
  cases J:r with
  | nil => (have h0:s.size=1:=by rw [D,I,J];rfl);rw [if_pos (Or.inl (show s.size<2 by omega))];simp [sJ,I,J]
  | cons b q=>
   rw [I,J] at D;simp at D;simp only [sJ,List.getD_cons_zero,List.getD_cons_succ];by_cases O:a.toNat=48
   ·(have N:¬ (s.size<2∨a.toNat≠48):=by omega);(have h:(s.extract 2 s.size).data.toList=q:=by rw [d9,I,J];rfl);(have e1:(s.extract 1 s.size).data.toList=b::q:=by rw [d9,I,J];rfl);simp only [if_pos O,if_neg N];by_cases M:b.toNat=120∨b.toNat=88
    ·simp only [if_pos M,h]
    ·by_cases U:b.toNat=98∨b.toNat=66
     ·simp only [if_neg M,if_pos U,h]
     ·by_cases y:b.toNat=111∨b.toNat=79
      ·simp only [if_neg M,if_neg U,if_pos y,h]
      ·simp only [if_neg M,if_neg U,if_neg y,e1]
   ·have z:s.size<2∨a.toNat≠48:=.inr O;simp only [if_neg O,if_pos z,I,J]
theorem E2 (s:ByteArray) (w:World) (hs:s.size≤1000):Calls Tryz.prog 109 #[.string s] w fun e w'=>e=.returned (.tuple #[.int .i64 ((bO s).1:Int),.string (bO s).2])∧Below w.heap.size w w':=by
 by_cases h2:s.size<2
 ·have I:=hid (show bO s=(10,s) by unfold bO;rw [if_pos (.inl h2)]);(have e2:decide ((s.size:Int)<2)=true:=by rw [decide_eq_true_iff];omega);clear h2;(go_enter Tryz.func109,Tryz.ntmps109);(go_wp2_with fail);go_ret2;exact ⟨by rw [I.out];rfl,Below.refl _ _⟩
 (have e2:decide ((s.size:Int)<2)=false:=by rw [decide_eq_false_iff_not];omega);have ge:∀ W,(Instr.index 9 (.string s) (.int .i64 0)).run Tryz.prog W=.ok (.int .u8 (aa s 0:Int)) W:=fun W=>di s 0 (by omega) W;have gd:∀ W,(Instr.index 9 (.string s) (.int .i64 1)).run Tryz.prog W=.ok (.int .u8 (aa s 1:Int)) W:=fun W=>di s 1 (by omega) W;(have p2:(2:Int)≤(s.size:Int):=by omega);(have p1:(1:Int)≤(s.size:Int):=by omega);have hB:bO s=if aa s 0≠48 then (10,s) else if aa s 1=120∨aa s 1=88 then (16,s.extract 2 s.size)
  else if aa s 1=98∨aa s 1=66 then (2,s.extract 2 s.size) else if aa s 1=111∨aa s 1=79 then (8,s.extract 2 s.size) else (8,s.extract 1 s.size):=by
  unfold bO
  by_cases z:aa s 0≠48
  ·rw [if_pos (.inr z),if_pos z]
  ·rw [if_neg (by omega),if_neg z]
 have I:=hid hB;clear hB;generalize aa s 0=a at *;generalize aa s 1=b at *;by_cases y:a=48
 rotate_left
 ·have J:=hid (show bO s=(10,s) by rw [I.out,if_pos y]);(have ea:((a:Int) != 48)=true:=by rw [bne_iff_ne];omega);clear y I;(go_enter Tryz.func109,Tryz.ntmps109);(go_wp2_with fail);go_ret2;exact ⟨by rw [J.out];rfl,Below.refl _ _⟩
 subst y;by_cases M:b=120
 ·subst M;have J:=hid (show bO s=(16,s.extract 2 s.size) by rw [I.out,if_neg (by omega),if_pos (.inl rfl)]);clear I;(go_enter Tryz.func109,Tryz.ntmps109);(go_wp2_with fail);go_quiet (fail);have D:=al (Below.refl w.heap.size w) nq;(go_wp2_with fail);go_ret2;exact ⟨by rw [J.out];rfl,D⟩
 by_cases U:b=88
 ·subst U;have J:=hid (show bO s=(16,s.extract 2 s.size) by rw [I.out,if_neg (by omega),if_pos (.inr rfl)]);clear I;(go_enter Tryz.func109,Tryz.ntmps109);(go_wp2_with fail);go_quiet (fail);have D:=al (Below.refl w.heap.size w) nq;(go_wp2_with fail);go_ret2;exact ⟨by rw [J.out];rfl,D⟩
 by_cases O:b=98
 ·subst O;have J:=hid (show bO s=(2,s.extract 2 s.size) by rw [I.out,if_neg (by omega),if_neg (by omega),if_pos (.inl rfl)]);clear I;(go_enter Tryz.func109,Tryz.ntmps109);(go_wp2_with fail);go_quiet (fail);have D:=al (Below.refl w.heap.size w) nq;(go_wp2_with fail);go_ret2;exact ⟨by rw [J.out];rfl,D⟩
 by_cases q:b=66
 ·subst q;have J:=hid (show bO s=(2,s.extract 2 s.size) by rw [I.out,if_neg (by omega),if_neg (by omega),if_pos (.inr rfl)]);clear I;(go_enter Tryz.func109,Tryz.ntmps109);(go_wp2_with fail);go_quiet (fail);have D:=al (Below.refl w.heap.size w) nq;(go_wp2_with fail);go_ret2;exact ⟨by rw [J.out];rfl,D⟩
 by_cases N:b=111
 ·subst N;have J:=hid (show bO s=(8,s.extract 2 s.size) by rw [I.out,if_neg (by omega),if_neg (by omega),if_neg (by omega),if_pos (.inl rfl)]);clear I;(go_enter Tryz.func109,Tryz.ntmps109);(go_wp2_with fail);go_quiet (fail);have D:=al (Below.refl w.heap.size w) nq;(go_wp2_with fail);go_ret2;exact ⟨by rw [J.out];rfl,D⟩
 by_cases h:b=79
 ·subst h;have J:=hid (show bO s=(8,s.extract 2 s.size) by rw [I.out,if_neg (by omega),if_neg (by omega),if_neg (by omega),if_pos (.inr rfl)]);clear I;(go_enter Tryz.func109,Tryz.ntmps109);(go_wp2_with fail);go_quiet (fail);have D:=al (Below.refl w.heap.size w) nq;(go_wp2_with fail);go_ret2;exact ⟨by rw [J.out];rfl,D⟩
 have J:=hid (show bO s=(8,s.extract 1 s.size) by rw [I.out,if_neg (by omega),if_neg (by omega),if_neg (by omega),if_neg (by omega)]);(have ga:((b:Int)==120)=false:=by rw [beq_eq_false_iff_ne];omega);(have gh:((b:Int)==88)=false:=by rw [beq_eq_false_iff_ne];omega);(have gg:((b:Int)==98)=false:=by rw [beq_eq_false_iff_ne];omega);(have gj:((b:Int)==66)=false:=by rw [beq_eq_false_iff_ne];omega);(have gb:((b:Int)==111)=false:=by rw [beq_eq_false_iff_ne];omega);(have gi:((b:Int)==79)=false:=by rw [beq_eq_false_iff_ne];omega);clear M U O q N h;clear I;(go_enter Tryz.func109,Tryz.ntmps109);(go_wp2_with fail);go_quiet (fail);have D:=al (Below.refl w.heap.size w) nq;(go_wp2_with fail);go_ret2;exact ⟨by rw [J.out];rfl,D⟩
def m9 (radix:Nat) (r:List UInt8) (v:List Nat) (many:Nat):Option Nat→Option (List Nat × Bool × Nat)
 | none=>none
 | some d=>if d<radix then dX radix r (dJ radix v d) false (many+1) else none
theorem sX (radix:Nat) (c:UInt8) (r:List UInt8) (v:List Nat) (line:Bool) (many:Nat) :
  dX radix (c::r) v line many=if c.toNat=95∧line=false then dX radix r v true many else m9 radix r v many (da c.toNat):=by
 rw [dX];split
 ·rfl
 ·cases da c.toNat <;> rfl
theorem E3 (w7:World) (g7 c7:Nat) (h:w7.cell? ⟨g7,0,none⟩=some (.int .u8 48)):(convert 27 9 (.slice (some ⟨g7,0,none⟩) 1 c7)).run Tryz.prog w7=.ok (.string ⟨#[48]⟩) w7:=
 run_convert_bytes_back (P:=Tryz.prog) w7 27 9 5 ⟨g7,0,none⟩ c7 [48] Tryz.underlying27 Tryz.underlying5 Tryz.underlying9 (fun j hj=>by (obtain rfl:j=0:=by simpa using hj);exact h)
theorem rB {B:Nat} {w w':World} {e:TypeId} {n:Nat} {v:Value} {xs:List Value} (h:w.ownsRow B e 1 v n xs) (D:∀ g,v.ownBlock=some g→w'.heap[g]? = w.heap[g]?):w'.ownsRow B e 1 v n xs:=by
 refine ⟨h.1,?_⟩;rcases h.2 with M | ⟨g,cap,cur,e,J,I,r⟩
 ·exact .inl M
 ·exact .inr ⟨g,cap,cur,e,J,(D g (by rw [e];rfl)).trans I,r⟩
theorem Ic (s:ByteArray):(bO s).1≤16∧2≤(bO s).1∧(bO s).2.size≤s.size:=by
 unfold bO;have D:=eb s 2;have I:=eb s 1;split
 ·exact ⟨by omega,by omega,Nat.le_refl _⟩
 ·split
  ·exact ⟨by omega,by omega,by simp only;omega⟩
  ·split
   ·exact ⟨by omega,by omega,by simp only;omega⟩
   ·split
    ·exact ⟨by omega,by omega,by simp only;omega⟩
    ·exact ⟨by omega,by omega,by simp only;omega⟩
theorem l7 (c:Nat) (h:128≤c):da c=none:=by unfold da;rw [if_neg (by omega),if_neg (by omega),if_neg (by omega)]
def fV (w:World) (r:Option ByteArray) (e:Ending) (w':World):Prop:=
 Below w.heap.size w w'∧match r with
 | some t=>e=.returned (.tuple #[.string t,.int .i64 0])
 | none=>∃ n:Int,n≠0∧e=.returned (.tuple #[.string ⟨#[]⟩,.int .i64 n])
def fW (radix:Nat) (h0:Nat) (R:Option (List Nat × Bool × Nat)):Option ByteArray:=
 match R with
 | none=>none
 | some (v,line,many)=>if line=true∨many=0∨(radix=10∧1<many∧h0=48) then none else some (fI v)
theorem B0 (t:ByteArray):(t.data.toList.headD 0).toNat=aa t 0:=by unfold aa;cases t.data.toList <;> rfl
theorem DM (s:ByteArray):lW s=if 200<s.size then none else if (bO s).1=10∧((bO s).2=⟨#[]⟩∨aa (bO s).2 0=95) then none
  else fW (bO s).1 (aa (bO s).2 0) (dX (bO s).1 (bO s).2.data.toList [] false 0):=by
 unfold lW;rw [Ib];simp only [B0];have M:((bO s).2.data.toList=[])=((bO s).2=⟨#[]⟩):=by
  rw [eq_iff_iff];constructor
  ·intro h;have:=Ah [] _ h;exact this
  ·intro h;rw [h]
 (have I:((bO s).1=10∧((bO s).2.data.toList=[]∨aa (bO s).2 0=95))↔((bO s).1=10∧((bO s).2=⟨#[]⟩∨aa (bO s).2 0=95)):=by rw [M]);by_cases D:200<s.size
 ·rw [if_pos D,if_pos D]
 ·rw [if_neg D,if_neg D];by_cases J:(bO s).1=10∧((bO s).2.data.toList=[]∨aa (bO s).2 0=95)
  ·rw [if_pos J,if_pos (I.1 J)]
  ·rw [if_neg J,if_neg (fun h=>J (I.2 h))];unfold fW;cases dX (bO s).1 (bO s).2.data.toList [] false 0 <;> rfl
theorem uF (s:ByteArray) (i:Nat):(Utf8.decode s i).1<2000000:=by
 have I:=df s i;rw [eQ,un];split
 ·simp only;omega
 ·split
  ·split <;> simp only <;> omega
  ·split
   ·split <;> simp only <;> omega
   ·split
    ·split
     ·rename_i D;have:=D.2;unfold Utf8.valid at this;simp at this;simp only;omega
     ·simp only;omega
    ·simp only;omega
theorem sY (s:ByteArray) (w:World) (hs:s.size≤65536):Calls Tryz.prog 79 #[.string s] w (fV w (lW s)):=by
 rw [DM];by_cases h8:200<s.size
 ·have HR:=hid (if_pos h8:(if 200<s.size then none else if (bO s).1=10∧((bO s).2=⟨#[]⟩∨aa (bO s).2 0=95) then none
   else fW (bO s).1 (aa (bO s).2 0) (dX (bO s).1 (bO s).2.data.toList [] false 0))=none)
  rw [HR.out];(have kk:(200:Int)<(s.size:Int):=by omega);clear HR h8;(go_enter Tryz.func79,Tryz.ntmps79);(go_wp2_with fail);go_ret2;exact ⟨Below.refl _ _,12,by decide,rfl⟩
 rw [if_neg h8];(have kk:¬ (200:Int)<(s.size:Int):=by omega);have g6:=hid (fun w=>E2 s w (by omega));obtain ⟨gz,kp,ko⟩:=Ic s;(have ki:(bO s).2.size≤200:=by omega);generalize bO s=bt at *;obtain ⟨radix,t⟩:=bt;simp only at gz kp ko ki g6;simp only;obtain ⟨O,hO⟩:∃ O,O=(if radix=10∧(t=⟨#[]⟩∨aa t 0=95) then none else fW radix (aa t 0) (dX radix t.data.toList [] false 0)):=⟨_,rfl⟩
 rw [←hO];have HO:=hid hO;clear hO;have jm:∀ v line many,fW radix (aa t 0) (some (v,line,many))=if line=true∨many=0∨(radix=10∧1<many∧aa t 0=48) then none else some (fI v):=fun _ _ _=>rfl;have g8:=hid jm;clear jm;have kd:0<t.size→∀ W,(Instr.index 9 (.string t) (.int .i64 0)).run Tryz.prog W=.ok (.int .u8 (aa t 0:Int)) W:=fun h W=>di t 0 h W;have ha:=hid kd;clear kd;have jk:=hid (show t.size=0→t=⟨#[]⟩ from fun h=>Ah [] t (List.eq_nil_of_length_eq_zero h));by_cases y:radix=10∧(t=⟨#[]⟩∨aa t 0=95)
 ·have kf:=hid (show O=none by rw [HO.out,if_pos y]);obtain ⟨rfl,y⟩:=y;by_cases g9:t=⟨#[]⟩
  ·subst g9;clear y HO g8 ha jk;(go_enter Tryz.func79,Tryz.ntmps79);(go_wp2_with fail);refine (g6.out _).mono ?_;rintro e w1 ⟨rfl,gd⟩;(go_wp2_with fail);go_ret2;rw [kf.out];exact ⟨gd,4,by decide,rfl⟩
  ·have jh:=y.resolve_left g9;have gx:=ha.out (Nat.pos_of_ne_zero fun h=>g9 (jk.out h));rw [jh] at gx;(have hm:t.toList.isEmpty=false:=by rw [aM];exact decide_eq_false g9);(have hg:(t.toList==[])=false:=by rw [←eP];exact decide_eq_false g9);clear y HO g8 ha jk g9 jh;(go_enter Tryz.func79,Tryz.ntmps79);(go_wp2_with fail);refine (g6.out _).mono ?_;rintro e w1 ⟨rfl,gd⟩;(go_wp2_with fail);go_ret2;rw [kf.out];exact ⟨gd,4,by decide,rfl⟩
 have jj:=hid (show fW radix (aa t 0) (dX radix t.data.toList [] false 0)=O by rw [HO.out,if_neg y]);have hw:(radix==10)=false∨((radix==10)=true∧t≠⟨#[]⟩∧aa t 0≠95):=by
  by_cases h:radix=10
  ·exact .inr ⟨beq_iff_eq.2 h,fun h2=>y ⟨h,.inl h2⟩,fun h2=>y ⟨h,.inr h2⟩⟩
  ·exact .inl (beq_eq_false_iff_ne.2 h)
 have j9:=hid hw;clear y hw;rcases j9.out with hr | ⟨hr,hm,jh⟩
 ·(have er:((radix:Int)==10)=false:=by rw [beq_eq_false_iff_ne];have:=beq_eq_false_iff_ne.1 hr;omega);clear hr;(go_enter Tryz.func79,Tryz.ntmps79);(go_wp2_with fail);refine (g6.out _).mono ?_;rintro e w1 ⟨rfl,gd⟩;(go_wp2_with fail);have gy:=World.iter_heap w1 t 0;have h7:Below w.heap.size w (w1.iter t 0):=gd.trans (((Below.refl _ w1).alloc (Nat.le_refl _) _).mono gd.size);have h4:=gd.size;clear gd;generalize w1.heap.size=b at *;generalize w1.iter t 0=w2 at *;(try clear jl hg ji gx);go_loopg [6,7,8,10,11,35,36] t.size (fun g u6 u7 u8 _ _ _ _ wr=>∃ (j:Nat) (vl:List Nat) (line:Bool) (many:Nat),j≤t.size∧t.size-j≤g∧wr.heap[b]? = some (.stringIter t j)∧mo (b+1) wr u6 vl∧(∀ x∈vl,x≤9)∧vl.length≤2 * j∧u7=.bool line∧u8=.int .i64 (many:Int)∧many≤j∧Below w.heap.size w wr∧fW radix (aa t 0) (dX radix (t.data.toList.drop j) vl line many)=O)
  case atStart=>exact ⟨0,[],false,0,Nat.zero_le _,by omega,gy,World.ownsRow_nil _ _ _ _,(fun x hx=>by cases hx),Nat.zero_le _,rfl,rfl,Nat.le_refl _,h7,by rw [List.drop_zero];exact jj.out⟩
  case round=>
   clear gy h7 jj g6;obtain ⟨j,vl,line,many,hj,km,hit,hO,h9,kh,rfl,rfl,kj,hB,hq⟩:=hrel;have gt:=hid hit;have gs:=hid hO;have H9:=hid h9;have HQ:=hid hq;have ke:b<wr.heap.size:=by
    rcases Nat.lt_or_ge b wr.heap.size with h | h
    ·exact h
    ·rw [Array.getElem?_eq_none h] at hit;cases hit
   clear hit hO h9 hq;by_cases M:j<t.size
   ·have J:=fun ty=>run_next_any_at (P:=Tryz.prog) wr b t j ty gt.out M;by_cases gw:aa t j<128
    ·obtain ⟨c,rr,gj,gq,gp⟩:=fT t j M;have hd:=d8 t j gw;rw [hd] at J;rw [gj] at HQ;have jd:=hid gp;have jf:=hid gq;have j1:=iterAt_heap wr b t j (j+1) gt.out;have j2:Below w.heap.size w (wr.iterAt b t (j+1)):=bR hB h4;have j3:mo (b+1) (wr.iterAt b t (j+1)) u6 vl:=pF gs.out fun k hk _=>iterAt_other wr _ _ t _ (by omega);have jb:=hid (show b<(wr.iterAt b t (j+1)).heap.size by
      have h1:=iterAt_heap wr b t j (j+1) gt.out;rcases Nat.lt_or_ge b (wr.iterAt b t (j+1)).heap.size with h | h
      ·exact h
      ·rw [Array.getElem?_eq_none h] at h1;cases h1)
     generalize wr.iterAt b t (j+1)=W1 at J j1 j2 j3 jb;have J1:=hid j1;have J3:=hid j3;clear hd gj gq gp j1 j3;generalize hbb:aa t j=bb at *;clear hbb;by_cases h_:bb=95∧line=false
     ·obtain ⟨rfl,rfl⟩:=h_;have I:=hid (show fW radix (aa t 0) (dX radix rr vl true many)=O by rw [←HQ.out,dX,if_pos ⟨jf.out,rfl⟩]);(go_wp2_with fail);refine (dg 95 (by omega) _).mono ?_;rintro e w3 ⟨rfl,rfl⟩;(go_wp2_with fail);go_roundg (t.size-(j+1))
      case measure=>omega
      case rel=>exact ⟨j+1,vl,true,many,by omega,Nat.le_refl _,J1.out,J3.out,H9.out,by omega,rfl,rfl,by omega,j2,by rw [←jd.out];exact I.out⟩
     ·have ge:=hid (show fW radix (aa t 0) (m9 radix rr vl many (da bb))=O by rw [←HQ.out,sX,jf.out,if_neg h_]);have e_:(((bb:Int)==95) && !line)=false:=by
       cases hl:line with
       | true=>simp
       | false=>rw [beq_eq_false_iff_ne.2 (by intro h;exact h_ ⟨by omega,hl⟩)];rfl
      have E_:=hid e_;clear h_ e_ HQ;cases D:da bb with
      | none=>
       have I:=hid (show O=none by rw [←ge.out,D];rfl);(have gb:it bb = -1:=by unfold it;rw [D]);clear ge D;cases e1:((bb:Int)==95) <;> cases line;all_goals
        first
         | (exfalso;have:=E_.out;rw [e1] at this;cases this;done)
         | ((go_wp2_with fail);refine (dg bb (by omega) _).mono ?_;rw [gb];rintro e w3 ⟨rfl,rfl⟩;(go_wp2_with fail);go_ret2;rw [I.out];exact ⟨j2,4,by decide,rfl⟩)
      | some d=>
       (have gb:it bb=(d:Int):=by unfold it;rw [D]);have hp:d≤15:=by
        unfold da at D;split at D
        ·injection D with D;omega
        ·split at D
         ·injection D with D;omega
         ·split at D
          ·injection D with D;omega
          ·cases D
       by_cases ho:d<radix
       ·have I:=hid (show fW radix (aa t 0) (dX radix rr (dJ radix vl d) false (many+1))=O by rw [←ge.out,D,m9,if_pos ho]);(have jy:decide ((radix:Int)≤(d:Int))=false:=by rw [decide_eq_false_iff_not];omega);(have jx:decide ((d:Int)<0)=false:=by rw [decide_eq_false_iff_not];omega);have qm:IntKind.i64.wrap ((many:Int)+1)=(many:Int)+1:=IntWalk.i64_in _ (by omega);clear ge D;cases e1:((bb:Int)==95) <;> cases line;all_goals
         first
          | (exfalso;have:=E_.out;rw [e1] at this;cases this;done)
          | ((go_wp2_with fail);refine (dg bb (by omega) _).mono ?_;rw [gb];rintro e w3 ⟨rfl,rfl⟩;(go_wp2_with fail);refine (uE (b+1) _ vl radix d W1 J3.out (by have:=jb.out;omega) H9.out gz hp (by omega)).mono ?_;rintro e w4 ⟨v4,rfl,h6,g3⟩;have j5:=hid h6;have J4:=hid ((g3.block b (Nat.lt_succ_self _)).trans J1.out);have ka:=hid (j2.trans (g3.mono (by omega)));clear h6 g3;(go_wp2_with fail);go_roundg (t.size-(j+1))
             case measure=>omega
             case rel=>exact ⟨j+1,dJ radix vl d,false,many+1,by omega,Nat.le_refl _,J4.out,j5.out,sW radix gz vl d H9.out hp,(by have:=oA radix vl d;omega),rfl,by go_num,by omega,ka.out,by rw [←jd.out];exact I.out⟩)
       ·have I:=hid (show O=none by rw [←ge.out,D,m9,if_neg ho];rfl);(have jy:decide ((radix:Int)≤(d:Int))=true:=by rw [decide_eq_true_iff];omega);(have jx:decide ((d:Int)<0)=false:=by rw [decide_eq_false_iff_not];omega);clear ge D;cases e1:((bb:Int)==95) <;> cases line;all_goals
         first
          | (exfalso;have:=E_.out;rw [e1] at this;cases this;done)
          | ((go_wp2_with fail);refine (dg bb (by omega) _).mono ?_;rw [gb];rintro e w3 ⟨rfl,rfl⟩;(go_wp2_with fail);go_ret2;rw [I.out];exact ⟨j2,4,by decide,rfl⟩)
    ·obtain ⟨c,rr,gj,gq,gp⟩:=fT t j M;have hh:=d5 t j M (by omega);have he:=uF t j;have I:=hid (show O=none by rw [←HQ.out,gj,dX,if_neg (by omega),l7 _ (by omega)];rfl);have hn:=hh.1;clear hh gw gj gq gp;generalize Utf8.decode t j=q at *;obtain ⟨r,k⟩:=q;simp only at hn J he;have j2:Below w.heap.size w (wr.iterAt b t (j+k)):=bR hB h4;generalize wr.iterAt b t (j+k)=W1 at J j2;(have ji:((r:Int)==95)=false:=by rw [beq_eq_false_iff_ne];omega);(have gb:it r = -1:=by unfold it;rw [l7 r hn]);(go_wp2_with fail);refine (dg r he _).mono ?_;rw [gb];rintro e w3 ⟨rfl,rfl⟩;(go_wp2_with fail);go_ret2;rw [I.out];exact ⟨j2,4,by decide,rfl⟩
   ·have jw:=fun ty=>run_next_end_at (P:=Tryz.prog) wr b t j ty gt.out M;have N:=hid (show (if line=true∨many=0∨(radix=10∧1<many∧aa t 0=48) then none else some (fI vl))=O by rw [←HQ.out,List.drop_of_length_le (by have:t.data.toList.length=t.size:=rfl;omega),dX];exact (g8.out _ _ _).symm);clear HQ;cases line with
    | true=>have I:=hid (show O=none by rw [←N.out,if_pos (.inl rfl)]);clear N;(go_wp2_with fail);go_ret2;rw [I.out];exact ⟨hB,4,by decide,rfl⟩
    | false=>
     by_cases gh:many=0
     ·have I:=hid (show O=none by rw [←N.out,if_pos (.inr (.inl gh))]);subst gh;clear N;(go_wp2_with fail);go_ret2;rw [I.out];exact ⟨hB,4,by decide,rfl⟩
     ·(have kr:((many:Int)==0)=false:=by rw [beq_eq_false_iff_ne];omega);(have js:0<t.size:=by omega);have gx:=ha.out js;by_cases hz:radix=10∧1<many∧aa t 0=48
      ·have I:=hid (show O=none by rw [←N.out,if_pos (.inr (.inr hz))]);(have j4:((radix:Int)==10)=true:=by rw [beq_iff_eq];omega);(have kq:decide ((1:Int)<(many:Int))=true:=by rw [decide_eq_true_iff];omega);rw [hz.2.2] at gx;clear N hz gh;first
        | (exfalso;rw [j4] at er;cases er;done)
        | ((go_wp2_with fail);go_ret2;rw [I.out];exact ⟨hB,4,by decide,rfl⟩)
      ·have I:=hid (show O=some (fI vl) by rw [←N.out,if_neg (fun h=>by rcases h with h | h | h;(cases h);(exact gh h);(exact hz h))]);have HZ:=hid hz;clear N hz gh;have hu:((((radix:Int)==10)&&decide ((1:Int)<(many:Int)))&&((aa t 0:Int)==48))=false:=by
        cases h1:((radix:Int)==10) with
        | false=>rfl
        | true=>
         cases h2:decide ((1:Int)<(many:Int)) with
         | false=>rfl
         | true=>have h1:=beq_iff_eq.1 h1;have h2:=of_decide_eq_true h2;show ((aa t 0:Int)==48)=false;rw [beq_eq_false_iff_ne];intro h3;exact HZ.out ⟨by omega,by omega,by omega⟩
       have j8:=hid hu;clear hu;obtain ⟨A6,c6,jr,kn⟩:=lr gs.out;subst jr;obtain ⟨i0,hi,jp,jo,jn⟩:=info_parts infoByte;(have jt:vl.length≤400:=by omega);have q1:IntKind.i64.wrap ((vl.length:Int)+1)=(vl.length:Int)+1:=IntWalk.i64_in _ (by omega);have q2:IntKind.i64.wrap ((vl.length:Int)-1)=(vl.length:Int)-1:=IntWalk.i64_in _ (by omega);generalize hb0:aa t 0=h0 at *;cases e1:((radix:Int)==10) <;> cases e2:decide ((1:Int)<(many:Int)) <;> cases e3:((h0:Int)==48);all_goals
        first
         | (exfalso;have:=j8.out;rw [e1,e2,e3] at this;cases this;done)
         | (exfalso;rw [e1] at er;cases er;done)
         | (go_wp2_with (at_make;refine wpList_make_own _ rfl (.const (.int .i64 0)) (.tmp 81) 27 rfl wr.heap.size 5 i0 _ 1 Tryz.underlying27 hi jp jo .i64 .i64 _ (vl.length+1) rfl rfl (by rfl) (by rw [jn];omega) (by unfold maxLen;omega) (Nat.le_refl _) ?_;intro w5 hown5 z);have je:=hid (show sV wr.heap.size w5 (.slice (some ⟨wr.heap.size,0,none⟩) 0 (vl.length+1)) [] from hown5);have jc:=hid (show mo (b+1) w5 (.slice A6 vl.length c6) vl from pF gs.out fun k _ hk=>z.block k hk (by simp));have gu:Below wr.heap.size wr w5:=⟨z.os,z.tape,z.output,z.size,fun k hk=>z.block k hk (by simp)⟩;have kt:=hB.trans (gu.mono hB.size);clear hown5 z;(go_wp2_with fail);have j0:=gu.size;have kb:=H9.out;go_loopg [12,13] vl.length (fun gg u12 u13 wx=>∃ k:Nat,k≤vl.length∧k≤gg∧u13=.int .i64 ((k:Int)-1)∧sV wr.heap.size wx u12 ((vl.drop k).reverse.map fun d=>UInt8.ofNat (48+d))∧mo (b+1) wx (.slice A6 vl.length c6) vl∧Below wr.heap.size wr wx)
            case atStart=>exact ⟨vl.length,Nat.le_refl _,Nat.le_refl _,rfl,by rw [List.drop_length];exact je.out,jc.out,gu⟩
            case round=>
             rename World=>wx;clear je jc gu j0;obtain ⟨k,hk,kl,rfl,g1,h5,g2⟩:=hrel;have gl:=hid g1;have g4:=hid h5;have kg:=g2.size;obtain ⟨kc,ja,gv,hy⟩:=lr g1;rw [List.length_map,List.length_reverse,List.length_drop] at gv hy;clear g1 h5;subst gv;cases k with
             | succ U=>
              rw [show ((U+1:Nat):Int)-1=(U:Int) by omega];(have g0:U<vl.length:=by omega);obtain ⟨g,c',hv,jv,ju⟩:=World.ownsRow.form g4.out (by omega);injection hv with e1 e2 e3;subst e1 e3;clear e2;have gk:=World.ownsRow.cellAt g4.out U (by omega);rw [List.getElem?_map,List.getElem?_eq_getElem g0] at gk;have jq:=kb _ (List.getElem_mem g0);have j7:=hid (List.drop_eq_getElem_cons g0);simp only [Option.map_some] at gk;generalize vl[U]=x at *;(have p0:(0:Int)≤(U:Int):=by omega);(have p1:(U:Int)<(vl.length:Int):=by omega);have q3:IntKind.i64.wrap (48+(x:Int))=48+(x:Int):=IntWalk.i64_in _ (by omega);have q4:IntKind.u8.wrap (48+(x:Int))=48+(x:Int):=IntWalk.u8_in _ (by omega);have q5:IntKind.i64.wrap ((U:Int)-1)=(U:Int)-1:=IntWalk.i64_in _ (by omega);have HU:=hid (show (48+(x:Int))=((UInt8.ofNat (48+x)).toNat:Int) by rw [UInt8.toNat_ofNat'];omega);have gm:=hid (show ((vl.drop (U+1)).reverse.map fun d=>UInt8.ofNat (48+d)).length=vl.length-(U+1) by rw [List.length_map,List.length_reverse,List.length_drop]);have HE:=hid (show ((vl.drop (U+1)).reverse.map fun d=>UInt8.ofNat (48+d))++[UInt8.ofNat (48+x)]=(vl.drop U).reverse.map fun d=>UInt8.ofNat (48+d) by rw [j7.out,List.reverse_cons,List.map_append];rfl);clear jq;generalize hLL:((vl.drop (U+1)).reverse.map fun d=>UInt8.ofNat (48+d))=LL at *;go_wp2_with (at_builtin;refine li rfl (.tmp 90) (.tmp 97) rfl wr.heap.size _ _ LL (UInt8.ofNat (48+x)) _ (by rw [←gm.out];rfl) _ rfl rfl HU.out gl.out (by omega) (by rw [gm.out];omega) ?_;intro g7 c7 w7 hO7 gr);have jz:mo (b+1) w7 (.slice (some ⟨g,0,none⟩) vl.length c6) vl:=rB g4.out fun q hq=>gr.block q (World.ownsRow.lt gs.out q hq).2;go_roundg U
              case measure=>omega
              case rel=>exact ⟨U,by omega,Nat.le_refl _,rfl,by rw [←HE.out];exact hO7,jz,g2.trans gr⟩
             | zero=>
              rw [show ((0:Nat):Int)-1 = -1 by omega];have gm:=hid (show ((vl.drop 0).reverse.map fun d=>UInt8.ofNat (48+d)).length=vl.length by rw [List.length_map,List.length_reverse,List.length_drop];omega);have jg:=hid (hB.trans (g2.mono hB.size));by_cases gn:vl=[]
              ·subst gn;have g5:=hid (show O=some ⟨#[48]⟩ from I.out);have ga:=gl.out;clear I gm;go_wp2_with (at_builtin;refine li rfl (.tmp 102) (.tmp 103) rfl wr.heap.size _ _ [] 48 _ rfl _ rfl rfl rfl ga (by omega) (by simp) ?_;intro g7 c7 w7 hO7 gr;have ht:=E3 w7 g7 c7 (World.ownsRow.cellAt hO7 0 (by decide)));go_ret2;rw [g5.out];exact ⟨jg.out.trans (gr.mono (by have:=hB.size;omega)),rfl⟩
              ·have g5:=hid (show O=some ⟨(vl.reverse.map fun d=>UInt8.ofNat (48+d)).toArray⟩ by rw [I.out,fI,if_neg gn]);rw [Nat.sub_zero] at gl ⊢;have hf:0<vl.length:=Nat.pos_of_ne_zero fun h=>gn (List.eq_nil_of_length_eq_zero h);(have ks:((vl.length:Int)==0)=false:=by rw [beq_eq_false_iff_ne];omega);have j6:=hid (show sV wr.heap.size wx (.slice kc vl.length ja) (vl.reverse.map fun d=>UInt8.ofNat (48+d)) from gl.out);(have gi:(vl.reverse.map fun d=>UInt8.ofNat (48+d)).length=vl.length:=by rw [List.length_map,List.length_reverse]);have ga:=j6.out;unfold sV at ga;rw [gi] at ga;obtain ⟨g7,c7,hv,jv,ju⟩:=World.ownsRow.form ga hf;injection hv with e1 e2 e3;subst e1 e3;clear e2;have ht:=run_convert_bytes_back (P:=Tryz.prog) wx 27 9 5 ⟨g7,0,none⟩ ja (vl.reverse.map fun d=>UInt8.ofNat (48+d)) Tryz.underlying27 Tryz.underlying5 Tryz.underlying9 (fun j hj=>by rw [nD,Nat.zero_add,World.ownsRow.cellAt ga j (by omega),List.getElem?_map,List.getElem?_eq_getElem hj];rfl);rw [gi] at ht;generalize (⟨(vl.reverse.map fun d=>UInt8.ofNat (48+d)).toArray⟩:ByteArray)=SS at *;clear gi ga I gm gl gn;(go_wp2_with fail);go_ret2;rw [g5.out];exact ⟨jg.out,rfl⟩)
 ·(have er:((radix:Int)==10)=true:=by rw [beq_iff_eq];have:=beq_iff_eq.1 hr;omega);(have jl:t.toList.isEmpty=false:=by rw [aM];exact decide_eq_false hm);(have hg:(t.toList==[])=false:=by rw [←eP];exact decide_eq_false hm);have gx:=ha.out (Nat.pos_of_ne_zero fun h=>hm (jk.out h));(have ji:((aa t 0:Int)==95)=false:=by rw [beq_eq_false_iff_ne];omega);clear hr hm jh;(go_enter Tryz.func79,Tryz.ntmps79);(go_wp2_with fail);refine (g6.out _).mono ?_;rintro e w1 ⟨rfl,gd⟩;(go_wp2_with fail);have gy:=World.iter_heap w1 t 0;have h7:Below w.heap.size w (w1.iter t 0):=gd.trans (((Below.refl _ w1).alloc (Nat.le_refl _) _).mono gd.size);have h4:=gd.size;clear gd;generalize w1.heap.size=b at *;generalize w1.iter t 0=w2 at *;(try clear jl hg ji gx);go_loopg [6,7,8,10,11,35,36] t.size (fun g u6 u7 u8 _ _ _ _ wr=>∃ (j:Nat) (vl:List Nat) (line:Bool) (many:Nat),j≤t.size∧t.size-j≤g∧wr.heap[b]? = some (.stringIter t j)∧mo (b+1) wr u6 vl∧(∀ x∈vl,x≤9)∧vl.length≤2 * j∧u7=.bool line∧u8=.int .i64 (many:Int)∧many≤j∧Below w.heap.size w wr∧fW radix (aa t 0) (dX radix (t.data.toList.drop j) vl line many)=O)
  case atStart=>exact ⟨0,[],false,0,Nat.zero_le _,by omega,gy,World.ownsRow_nil _ _ _ _,(fun x hx=>by cases hx),Nat.zero_le _,rfl,rfl,Nat.le_refl _,h7,by rw [List.drop_zero];exact jj.out⟩
  case round=>
   clear gy h7 jj g6;obtain ⟨j,vl,line,many,hj,km,hit,hO,h9,kh,rfl,rfl,kj,hB,hq⟩:=hrel;have gt:=hid hit;have gs:=hid hO;have H9:=hid h9;have HQ:=hid hq;have ke:b<wr.heap.size:=by
    rcases Nat.lt_or_ge b wr.heap.size with h | h
    ·exact h
    ·rw [Array.getElem?_eq_none h] at hit;cases hit
   clear hit hO h9 hq;by_cases M:j<t.size
   ·have J:=fun ty=>run_next_any_at (P:=Tryz.prog) wr b t j ty gt.out M;by_cases gw:aa t j<128
    ·obtain ⟨c,rr,gj,gq,gp⟩:=fT t j M;have hd:=d8 t j gw;rw [hd] at J;rw [gj] at HQ;have jd:=hid gp;have jf:=hid gq;have j1:=iterAt_heap wr b t j (j+1) gt.out;have j2:Below w.heap.size w (wr.iterAt b t (j+1)):=bR hB h4;have j3:mo (b+1) (wr.iterAt b t (j+1)) u6 vl:=pF gs.out fun k hk _=>iterAt_other wr _ _ t _ (by omega);have jb:=hid (show b<(wr.iterAt b t (j+1)).heap.size by
      have h1:=iterAt_heap wr b t j (j+1) gt.out;rcases Nat.lt_or_ge b (wr.iterAt b t (j+1)).heap.size with h | h
      ·exact h
      ·rw [Array.getElem?_eq_none h] at h1;cases h1)
     generalize wr.iterAt b t (j+1)=W1 at J j1 j2 j3 jb;have J1:=hid j1;have J3:=hid j3;clear hd gj gq gp j1 j3;generalize hbb:aa t j=bb at *;clear hbb;by_cases h_:bb=95∧line=false
     ·obtain ⟨rfl,rfl⟩:=h_;have I:=hid (show fW radix (aa t 0) (dX radix rr vl true many)=O by rw [←HQ.out,dX,if_pos ⟨jf.out,rfl⟩]);(go_wp2_with fail);refine (dg 95 (by omega) _).mono ?_;rintro e w3 ⟨rfl,rfl⟩;(go_wp2_with fail);go_roundg (t.size-(j+1))
      case measure=>omega
      case rel=>exact ⟨j+1,vl,true,many,by omega,Nat.le_refl _,J1.out,J3.out,H9.out,by omega,rfl,rfl,by omega,j2,by rw [←jd.out];exact I.out⟩
     ·have ge:=hid (show fW radix (aa t 0) (m9 radix rr vl many (da bb))=O by rw [←HQ.out,sX,jf.out,if_neg h_]);have e_:(((bb:Int)==95) && !line)=false:=by
       cases hl:line with
       | true=>simp
       | false=>rw [beq_eq_false_iff_ne.2 (by intro h;exact h_ ⟨by omega,hl⟩)];rfl
      have E_:=hid e_;clear h_ e_ HQ;cases D:da bb with
      | none=>
       have I:=hid (show O=none by rw [←ge.out,D];rfl);(have gb:it bb = -1:=by unfold it;rw [D]);clear ge D;cases e1:((bb:Int)==95) <;> cases line;all_goals
        first
         | (exfalso;have:=E_.out;rw [e1] at this;cases this;done)
         | ((go_wp2_with fail);refine (dg bb (by omega) _).mono ?_;rw [gb];rintro e w3 ⟨rfl,rfl⟩;(go_wp2_with fail);go_ret2;rw [I.out];exact ⟨j2,4,by decide,rfl⟩)
      | some d=>
       (have gb:it bb=(d:Int):=by unfold it;rw [D]);have hp:d≤15:=by
        unfold da at D;split at D
        ·injection D with D;omega
        ·split at D
         ·injection D with D;omega
         ·split at D
          ·injection D with D;omega
          ·cases D
       by_cases ho:d<radix
       ·have I:=hid (show fW radix (aa t 0) (dX radix rr (dJ radix vl d) false (many+1))=O by rw [←ge.out,D,m9,if_pos ho]);(have jy:decide ((radix:Int)≤(d:Int))=false:=by rw [decide_eq_false_iff_not];omega);(have jx:decide ((d:Int)<0)=false:=by rw [decide_eq_false_iff_not];omega);have qm:IntKind.i64.wrap ((many:Int)+1)=(many:Int)+1:=IntWalk.i64_in _ (by omega);clear ge D;cases e1:((bb:Int)==95) <;> cases line;all_goals
         first
          | (exfalso;have:=E_.out;rw [e1] at this;cases this;done)
          | ((go_wp2_with fail);refine (dg bb (by omega) _).mono ?_;rw [gb];rintro e w3 ⟨rfl,rfl⟩;(go_wp2_with fail);refine (uE (b+1) _ vl radix d W1 J3.out (by have:=jb.out;omega) H9.out gz hp (by omega)).mono ?_;rintro e w4 ⟨v4,rfl,h6,g3⟩;have j5:=hid h6;have J4:=hid ((g3.block b (Nat.lt_succ_self _)).trans J1.out);have ka:=hid (j2.trans (g3.mono (by omega)));clear h6 g3;(go_wp2_with fail);go_roundg (t.size-(j+1))
             case measure=>omega
             case rel=>exact ⟨j+1,dJ radix vl d,false,many+1,by omega,Nat.le_refl _,J4.out,j5.out,sW radix gz vl d H9.out hp,(by have:=oA radix vl d;omega),rfl,by go_num,by omega,ka.out,by rw [←jd.out];exact I.out⟩)
       ·have I:=hid (show O=none by rw [←ge.out,D,m9,if_neg ho];rfl);(have jy:decide ((radix:Int)≤(d:Int))=true:=by rw [decide_eq_true_iff];omega);(have jx:decide ((d:Int)<0)=false:=by rw [decide_eq_false_iff_not];omega);clear ge D;cases e1:((bb:Int)==95) <;> cases line;all_goals
         first
          | (exfalso;have:=E_.out;rw [e1] at this;cases this;done)
          | ((go_wp2_with fail);refine (dg bb (by omega) _).mono ?_;rw [gb];rintro e w3 ⟨rfl,rfl⟩;(go_wp2_with fail);go_ret2;rw [I.out];exact ⟨j2,4,by decide,rfl⟩)
    ·obtain ⟨c,rr,gj,gq,gp⟩:=fT t j M;have hh:=d5 t j M (by omega);have he:=uF t j;have I:=hid (show O=none by rw [←HQ.out,gj,dX,if_neg (by omega),l7 _ (by omega)];rfl);have hn:=hh.1;clear hh gw gj gq gp;generalize Utf8.decode t j=q at *;obtain ⟨r,k⟩:=q;simp only at hn J he;have j2:Below w.heap.size w (wr.iterAt b t (j+k)):=bR hB h4;generalize wr.iterAt b t (j+k)=W1 at J j2;(have ji:((r:Int)==95)=false:=by rw [beq_eq_false_iff_ne];omega);(have gb:it r = -1:=by unfold it;rw [l7 r hn]);(go_wp2_with fail);refine (dg r he _).mono ?_;rw [gb];rintro e w3 ⟨rfl,rfl⟩;(go_wp2_with fail);go_ret2;rw [I.out];exact ⟨j2,4,by decide,rfl⟩
   ·have jw:=fun ty=>run_next_end_at (P:=Tryz.prog) wr b t j ty gt.out M;have N:=hid (show (if line=true∨many=0∨(radix=10∧1<many∧aa t 0=48) then none else some (fI vl))=O by rw [←HQ.out,List.drop_of_length_le (by have:t.data.toList.length=t.size:=rfl;omega),dX];exact (g8.out _ _ _).symm);clear HQ;cases line with
    | true=>have I:=hid (show O=none by rw [←N.out,if_pos (.inl rfl)]);clear N;(go_wp2_with fail);go_ret2;rw [I.out];exact ⟨hB,4,by decide,rfl⟩
    | false=>
     by_cases gh:many=0
     ·have I:=hid (show O=none by rw [←N.out,if_pos (.inr (.inl gh))]);subst gh;clear N;(go_wp2_with fail);go_ret2;rw [I.out];exact ⟨hB,4,by decide,rfl⟩
     ·(have kr:((many:Int)==0)=false:=by rw [beq_eq_false_iff_ne];omega);(have js:0<t.size:=by omega);have gx:=ha.out js;by_cases hz:radix=10∧1<many∧aa t 0=48
      ·have I:=hid (show O=none by rw [←N.out,if_pos (.inr (.inr hz))]);(have j4:((radix:Int)==10)=true:=by rw [beq_iff_eq];omega);(have kq:decide ((1:Int)<(many:Int))=true:=by rw [decide_eq_true_iff];omega);rw [hz.2.2] at gx;clear N hz gh;first
        | (exfalso;rw [j4] at er;cases er;done)
        | ((go_wp2_with fail);go_ret2;rw [I.out];exact ⟨hB,4,by decide,rfl⟩)
      ·have I:=hid (show O=some (fI vl) by rw [←N.out,if_neg (fun h=>by rcases h with h | h | h;(cases h);(exact gh h);(exact hz h))]);have HZ:=hid hz;clear N hz gh;have hu:((((radix:Int)==10)&&decide ((1:Int)<(many:Int)))&&((aa t 0:Int)==48))=false:=by
        cases h1:((radix:Int)==10) with
        | false=>rfl
        | true=>
         cases h2:decide ((1:Int)<(many:Int)) with
         | false=>rfl
         | true=>have h1:=beq_iff_eq.1 h1;have h2:=of_decide_eq_true h2;show ((aa t 0:Int)==48)=false;rw [beq_eq_false_iff_ne];intro h3;exact HZ.out ⟨by omega,by omega,by omega⟩
       have j8:=hid hu;clear hu;obtain ⟨A6,c6,jr,kn⟩:=lr gs.out;subst jr;obtain ⟨i0,hi,jp,jo,jn⟩:=info_parts infoByte;(have jt:vl.length≤400:=by omega);have q1:IntKind.i64.wrap ((vl.length:Int)+1)=(vl.length:Int)+1:=IntWalk.i64_in _ (by omega);have q2:IntKind.i64.wrap ((vl.length:Int)-1)=(vl.length:Int)-1:=IntWalk.i64_in _ (by omega);generalize hb0:aa t 0=h0 at *;cases e1:((radix:Int)==10) <;> cases e2:decide ((1:Int)<(many:Int)) <;> cases e3:((h0:Int)==48);all_goals
        first
         | (exfalso;have:=j8.out;rw [e1,e2,e3] at this;cases this;done)
         | (exfalso;rw [e1] at er;cases er;done)
         | (go_wp2_with (at_make;refine wpList_make_own _ rfl (.const (.int .i64 0)) (.tmp 81) 27 rfl wr.heap.size 5 i0 _ 1 Tryz.underlying27 hi jp jo .i64 .i64 _ (vl.length+1) rfl rfl (by rfl) (by rw [jn];omega) (by unfold maxLen;omega) (Nat.le_refl _) ?_;intro w5 hown5 z);have je:=hid (show sV wr.heap.size w5 (.slice (some ⟨wr.heap.size,0,none⟩) 0 (vl.length+1)) [] from hown5);have jc:=hid (show mo (b+1) w5 (.slice A6 vl.length c6) vl from pF gs.out fun k _ hk=>z.block k hk (by simp));have gu:Below wr.heap.size wr w5:=⟨z.os,z.tape,z.output,z.size,fun k hk=>z.block k hk (by simp)⟩;have kt:=hB.trans (gu.mono hB.size);clear hown5 z;(go_wp2_with fail);have j0:=gu.size;have kb:=H9.out;go_loopg [12,13] vl.length (fun gg u12 u13 wx=>∃ k:Nat,k≤vl.length∧k≤gg∧u13=.int .i64 ((k:Int)-1)∧sV wr.heap.size wx u12 ((vl.drop k).reverse.map fun d=>UInt8.ofNat (48+d))∧mo (b+1) wx (.slice A6 vl.length c6) vl∧Below wr.heap.size wr wx)
            case atStart=>exact ⟨vl.length,Nat.le_refl _,Nat.le_refl _,rfl,by rw [List.drop_length];exact je.out,jc.out,gu⟩
            case round=>
             rename World=>wx;clear je jc gu j0;obtain ⟨k,hk,kl,rfl,g1,h5,g2⟩:=hrel;have gl:=hid g1;have g4:=hid h5;have kg:=g2.size;obtain ⟨kc,ja,gv,hy⟩:=lr g1;rw [List.length_map,List.length_reverse,List.length_drop] at gv hy;clear g1 h5;subst gv;cases k with
             | succ U=>
              rw [show ((U+1:Nat):Int)-1=(U:Int) by omega];(have g0:U<vl.length:=by omega);obtain ⟨g,c',hv,jv,ju⟩:=World.ownsRow.form g4.out (by omega);injection hv with e1 e2 e3;subst e1 e3;clear e2;have gk:=World.ownsRow.cellAt g4.out U (by omega);rw [List.getElem?_map,List.getElem?_eq_getElem g0] at gk;have jq:=kb _ (List.getElem_mem g0);have j7:=hid (List.drop_eq_getElem_cons g0);simp only [Option.map_some] at gk;generalize vl[U]=x at *;(have p0:(0:Int)≤(U:Int):=by omega);(have p1:(U:Int)<(vl.length:Int):=by omega);have q3:IntKind.i64.wrap (48+(x:Int))=48+(x:Int):=IntWalk.i64_in _ (by omega);have q4:IntKind.u8.wrap (48+(x:Int))=48+(x:Int):=IntWalk.u8_in _ (by omega);have q5:IntKind.i64.wrap ((U:Int)-1)=(U:Int)-1:=IntWalk.i64_in _ (by omega);have HU:=hid (show (48+(x:Int))=((UInt8.ofNat (48+x)).toNat:Int) by rw [UInt8.toNat_ofNat'];omega);have gm:=hid (show ((vl.drop (U+1)).reverse.map fun d=>UInt8.ofNat (48+d)).length=vl.length-(U+1) by rw [List.length_map,List.length_reverse,List.length_drop]);have HE:=hid (show ((vl.drop (U+1)).reverse.map fun d=>UInt8.ofNat (48+d))++[UInt8.ofNat (48+x)]=(vl.drop U).reverse.map fun d=>UInt8.ofNat (48+d) by rw [j7.out,List.reverse_cons,List.map_append];rfl);clear jq;generalize hLL:((vl.drop (U+1)).reverse.map fun d=>UInt8.ofNat (48+d))=LL at *;go_wp2_with (at_builtin;refine li rfl (.tmp 90) (.tmp 97) rfl wr.heap.size _ _ LL (UInt8.ofNat (48+x)) _ (by rw [←gm.out];rfl) _ rfl rfl HU.out gl.out (by omega) (by rw [gm.out];omega) ?_;intro g7 c7 w7 hO7 gr);have jz:mo (b+1) w7 (.slice (some ⟨g,0,none⟩) vl.length c6) vl:=rB g4.out fun q hq=>gr.block q (World.ownsRow.lt gs.out q hq).2;go_roundg U
              case measure=>omega
              case rel=>exact ⟨U,by omega,Nat.le_refl _,rfl,by rw [←HE.out];exact hO7,jz,g2.trans gr⟩
             | zero=>
              rw [show ((0:Nat):Int)-1 = -1 by omega];have gm:=hid (show ((vl.drop 0).reverse.map fun d=>UInt8.ofNat (48+d)).length=vl.length by rw [List.length_map,List.length_reverse,List.length_drop];omega);have jg:=hid (hB.trans (g2.mono hB.size));by_cases gn:vl=[]
              ·subst gn;have g5:=hid (show O=some ⟨#[48]⟩ from I.out);have ga:=gl.out;clear I gm;go_wp2_with (at_builtin;refine li rfl (.tmp 102) (.tmp 103) rfl wr.heap.size _ _ [] 48 _ rfl _ rfl rfl rfl ga (by omega) (by simp) ?_;intro g7 c7 w7 hO7 gr;have ht:=E3 w7 g7 c7 (World.ownsRow.cellAt hO7 0 (by decide)));go_ret2;rw [g5.out];exact ⟨jg.out.trans (gr.mono (by have:=hB.size;omega)),rfl⟩
              ·have g5:=hid (show O=some ⟨(vl.reverse.map fun d=>UInt8.ofNat (48+d)).toArray⟩ by rw [I.out,fI,if_neg gn]);rw [Nat.sub_zero] at gl ⊢;have hf:0<vl.length:=Nat.pos_of_ne_zero fun h=>gn (List.eq_nil_of_length_eq_zero h);(have ks:((vl.length:Int)==0)=false:=by rw [beq_eq_false_iff_ne];omega);have j6:=hid (show sV wr.heap.size wx (.slice kc vl.length ja) (vl.reverse.map fun d=>UInt8.ofNat (48+d)) from gl.out);(have gi:(vl.reverse.map fun d=>UInt8.ofNat (48+d)).length=vl.length:=by rw [List.length_map,List.length_reverse]);have ga:=j6.out;unfold sV at ga;rw [gi] at ga;obtain ⟨g7,c7,hv,jv,ju⟩:=World.ownsRow.form ga hf;injection hv with e1 e2 e3;subst e1 e3;clear e2;have ht:=run_convert_bytes_back (P:=Tryz.prog) wx 27 9 5 ⟨g7,0,none⟩ ja (vl.reverse.map fun d=>UInt8.ofNat (48+d)) Tryz.underlying27 Tryz.underlying5 Tryz.underlying9 (fun j hj=>by rw [nD,Nat.zero_add,World.ownsRow.cellAt ga j (by omega),List.getElem?_map,List.getElem?_eq_getElem hj];rfl);rw [gi] at ht;generalize (⟨(vl.reverse.map fun d=>UInt8.ofNat (48+d)).toArray⟩:ByteArray)=SS at *;clear gi ga I gm gl gn;(go_wp2_with fail);go_ret2;rw [g5.out];exact ⟨jg.out,rfl⟩)
end
end Go.Proofs.YtiebcdeafofgdaaGreatDoor
