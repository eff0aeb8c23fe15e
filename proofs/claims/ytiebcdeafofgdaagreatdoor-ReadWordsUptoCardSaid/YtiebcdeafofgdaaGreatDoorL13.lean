/-
  Parts of the proof: Lnum Ltext Pframe Rblock Rstmt. By an AI agent.
-/
import Derived.Test.YtiebcdeafofgdaaGreatDoorL12
import Derived.Test.YtiebcdeafofgdaaGreatDoorL11
import Derived.Test.YtiebcdeafofgdaaGreatDoorL10
import Derived.Test.YtiebcdeafofgdaaGreatDoorL00
import Derived.Test.YtiebcdeafofgdaaGreatDoorCards
import Derived.Test.YtiebcdeafofgdaaGreatDoorTie
import Derived.Test.YtiebcdeafofgdaaGreatDoorL03
import Derived.Test.YtiebcdeafofgdaaGreatDoorL04
import Derived.Maps.Own
import Derived.Maps.OwnSet
import Derived.Maps.Views
import Derived.Deep.RegionLaw
import Derived.Maps.OwnOps
import Derived.BigQuiet
import Derived.Defers
import Derived.Recover
import Derived.Lib.Replace
import Derived.Lib.IndexBytes
import Derived.StillTailTactics
import Derived.ChangeSlices
import Derived.Lib.LaidU8T
set_option maxRecDepth 100000
set_option maxHeartbeats 8000000
namespace Go.Proofs.YtiebcdeafofgdaaGreatDoor
section
open Go.RowKit Go.Lib Go.Proofs
attribute [local go_sem ↓] Go.wp_at_zero Go.wp_at_succ
def bG (s:ByteArray):Nat × ByteArray:=
 if s.size<2∨ab s 0≠48 then (10,s)
 else if ab s 1=120∨ab s 1=88 then (16,s.extract 2 s.size)
 else if ab s 1=98∨ab s 1=66 then (2,s.extract 2 s.size)
 else if ab s 1=111∨ab s 1=79 then (8,s.extract 2 s.size)
 else (8,s.extract 1 s.size)
theorem tL (l:List UInt8) (t:ByteArray) (h:t.data.toList=l):t=⟨l.toArray⟩:=by subst h;rfl
theorem EB (s:ByteArray):pe s.data.toList=((bG s).1,(bG s).2.data.toList):=by
 unfold bG ab;have D:s.size=s.data.toList.length:=rfl;cases I:s.data.toList with
 | nil => (have u:s.size=0:=by rw [D,I];rfl);rw [if_pos (Or.inl (show s.size<2 by omega))];simp [pe,I]
 | cons a r=>
  cases J:r with
  | nil => (have u:s.size=1:=by rw [D,I,J];rfl);rw [if_pos (Or.inl (show s.size<2 by omega))];simp [pe,I,J]
  | cons b q=>
   rw [I,J] at D;simp at D;simp only [pe,List.getD_cons_zero,List.getD_cons_succ];by_cases N:a.toNat=48
   ·(have M:¬ (s.size<2∨a.toNat≠48):=by omega);(have U:(s.extract 2 s.size).data.toList=q:=by rw [dr,I,J];rfl);(have e1:(s.extract 1 s.size).data.toList=b::q:=by rw [dr,I,J];rfl);simp only [if_pos N,if_neg M];by_cases K:b.toNat=120∨b.toNat=88
    ·simp only [if_pos K,U]
    ·by_cases O:b.toNat=98∨b.toNat=66
     ·simp only [if_neg K,if_pos O,U]
     ·by_cases h:b.toNat=111∨b.toNat=79
      ·simp only [if_neg K,if_neg O,if_pos h,U]
      ·simp only [if_neg K,if_neg O,if_neg h,e1]
   ·have j:s.size<2∨a.toNat≠48:=.inr N;simp only [if_neg N,if_pos j,I,J]
theorem B5 (s:ByteArray) (w:World) (hs:s.size≤1000):Calls Tryz.prog 109 #[.string s] w fun e w'=>e=.returned (.tuple #[.int .i64 ((bG s).1:Int),.string (bG s).2])∧Below w.heap.size w w':=by
 by_cases N:s.size<2
 ·have I:=hid (show bG s=(10,s) by unfold bG;rw [if_pos (.inl N)]);(have e2:decide ((s.size:Int)<2)=true:=by rw [decide_eq_true_iff];omega);clear N;(go_enter Tryz.func109,Tryz.ntmps109);(go_wp2_with fail);go_ret2;exact ⟨by rw [I.out];rfl,Below.refl _ _⟩
 (have e2:decide ((s.size:Int)<2)=false:=by rw [decide_eq_false_iff_not];omega);have j:∀ W,(Instr.index 9 (.string s) (.int .i64 0)).run Tryz.prog W=.ok (.int .u8 (ab s 0:Int)) W:=fun W=>dD s 0 (by omega) W;have h:∀ W,(Instr.index 9 (.string s) (.int .i64 1)).run Tryz.prog W=.ok (.int .u8 (ab s 1:Int)) W:=fun W=>dD s 1 (by omega) W;(have p2:(2:Int)≤(s.size:Int):=by omega);(have p1:(1:Int)≤(s.size:Int):=by omega);have hB:bG s=if ab s 0≠48 then (10,s) else if ab s 1=120∨ab s 1=88 then (16,s.extract 2 s.size)
  else if ab s 1=98∨ab s 1=66 then (2,s.extract 2 s.size) else if ab s 1=111∨ab s 1=79 then (8,s.extract 2 s.size) else (8,s.extract 1 s.size):=by
  unfold bG
  by_cases M:ab s 0≠48
  ·rw [if_pos (.inr M),if_pos M]
  ·rw [if_neg (by omega),if_neg M]
 have I:=hid hB;clear hB;generalize ab s 0=a at *;generalize ab s 1=b at *;by_cases K:a=48
 rotate_left
 ·have D:=hid (show bG s=(10,s) by rw [I.out,if_pos K]);(have ea:((a:Int) != 48)=true:=by rw [bne_iff_ne];omega);clear K I;(go_enter Tryz.func109,Tryz.ntmps109);(go_wp2_with fail);go_ret2;exact ⟨by rw [D.out];rfl,Below.refl _ _⟩
 subst K;by_cases hb:b=120∨b=88∨b=98∨b=66∨b=111∨b=79
 ·rcases hb with rfl | rfl | rfl | rfl | rfl | rfl;all_goals have D:=I.out;simp at D;have D:=hid D;clear I;(go_enter Tryz.func109,Tryz.ntmps109);(go_wp2_with fail);go_quiet (fail);have J:=aN (Below.refl w.heap.size w) nq;(go_wp2_with fail);go_ret2;exact ⟨by rw [D.out];rfl,J⟩
 have D:=hid (show bG s=(8,s.extract 1 s.size) by rw [I.out,if_neg (by omega),if_neg (by omega),if_neg (by omega),if_neg (by omega)]);(have O:((b:Int)==120)=false:=by rw [beq_eq_false_iff_ne];omega);(have u:((b:Int)==88)=false:=by rw [beq_eq_false_iff_ne];omega);(have q:((b:Int)==98)=false:=by rw [beq_eq_false_iff_ne];omega);(have gb:((b:Int)==66)=false:=by rw [beq_eq_false_iff_ne];omega);(have U:((b:Int)==111)=false:=by rw [beq_eq_false_iff_ne];omega);(have ga:((b:Int)==79)=false:=by rw [beq_eq_false_iff_ne];omega);clear hb;clear I;(go_enter Tryz.func109,Tryz.ntmps109);(go_wp2_with fail);go_quiet (fail);have J:=aN (Below.refl w.heap.size w) nq;(go_wp2_with fail);go_ret2;exact ⟨by rw [D.out];rfl,J⟩
def oU (radix:Nat) (r:List UInt8) (v:List Nat) (many:Nat):Option Nat→Option (List Nat × Bool × Nat)
 | none=>none
 | some d=>if d<radix then dX radix r (cI radix v d) false (many+1) else none
theorem we (radix:Nat) (c:UInt8) (r:List UInt8) (v:List Nat) (line:Bool) (many:Nat) :
  dX radix (c::r) v line many=if c.toNat=95∧line=false then dX radix r v true many else oU radix r v many (dZ c.toNat):=by
 rw [dX];split
 ·rfl
 ·cases dZ c.toNat <;> rfl
theorem Gh (w7:World) (g7 c7:Nat) (h:w7.cell? ⟨g7,0,none⟩=some (.int .u8 48)):(convert 27 9 (.slice (some ⟨g7,0,none⟩) 1 c7)).run Tryz.prog w7=.ok (.string ⟨#[48]⟩) w7:=
 run_convert_bytes_back (P:=Tryz.prog) w7 27 9 5 ⟨g7,0,none⟩ c7 [48] Tryz.underlying27 Tryz.underlying5 Tryz.underlying9 (fun j hj=>by (obtain rfl:j=0:=by simpa using hj);exact h)
theorem Az {B:Nat} {w w':World} {e:TypeId} {n:Nat} {v:Value} {xs:List Value} (h:w.ownsRow B e 1 v n xs) (D:∀ g,v.ownBlock=some g→w'.heap[g]? = w.heap[g]?):w'.ownsRow B e 1 v n xs:=by
 refine ⟨h.1,?_⟩;rcases h.2 with K | ⟨g,cap,cur,e,J,I,r⟩
 ·exact .inl K
 ·exact .inr ⟨g,cap,cur,e,J,(D g (by rw [e];rfl)).trans I,r⟩
theorem EC (s:ByteArray):(bG s).1≤16∧2≤(bG s).1∧(bG s).2.size≤s.size:=by
 unfold bG;have D:=dt s 2;have I:=dt s 1;split
 ·exact ⟨by omega,by omega,Nat.le_refl _⟩
 ·split
  ·exact ⟨by omega,by omega,by simp only;omega⟩
  ·split
   ·exact ⟨by omega,by omega,by simp only;omega⟩
   ·split
    ·exact ⟨by omega,by omega,by simp only;omega⟩
    ·exact ⟨by omega,by omega,by simp only;omega⟩
theorem oD (c:Nat) (h:128≤c):dZ c=none:=by unfold dZ;rw [if_neg (by omega),if_neg (by omega),if_neg (by omega)]
def ED (w:World) (r:Option ByteArray) (e:Ending) (w':World):Prop:=
 Below w.heap.size w w'∧match r with
 | some t=>e=.returned (.tuple #[.string t,.int .i64 0])
 | none=>∃ n:Int,n≠0∧e=.returned (.tuple #[.string ⟨#[]⟩,.int .i64 n])
def iE (radix:Nat) (h0:Nat) (R:Option (List Nat × Bool × Nat)):Option ByteArray:=
 match R with
 | none=>none
 | some (v,line,many)=>if line=true∨many=0∨(radix=10∧1<many∧h0=48) then none else some (mg v)
theorem wg (t:ByteArray):(t.data.toList.headD 0).toNat=ab t 0:=by unfold ab;cases t.data.toList <;> rfl
theorem AA (s:ByteArray):fk s=if 200<s.size then none else if (bG s).1=10∧((bG s).2=⟨#[]⟩∨ab (bG s).2 0=95) then none
  else iE (bG s).1 (ab (bG s).2 0) (dX (bG s).1 (bG s).2.data.toList [] false 0):=by
 unfold fk;rw [EB];simp only [wg];have K:((bG s).2.data.toList=[])=((bG s).2=⟨#[]⟩):=by
  rw [eq_iff_iff];constructor
  ·intro h;have:=tL [] _ h;exact this
  ·intro h;rw [h]
 (have I:((bG s).1=10∧((bG s).2.data.toList=[]∨ab (bG s).2 0=95))↔((bG s).1=10∧((bG s).2=⟨#[]⟩∨ab (bG s).2 0=95)):=by rw [K]);by_cases D:200<s.size
 ·rw [if_pos D,if_pos D]
 ·rw [if_neg D,if_neg D];by_cases J:(bG s).1=10∧((bG s).2.data.toList=[]∨ab (bG s).2 0=95)
  ·rw [if_pos J,if_pos (I.1 J)]
  ·rw [if_neg J,if_neg (fun h=>J (I.2 h))];unfold iE;cases dX (bG s).1 (bG s).2.data.toList [] false 0 <;> rfl
theorem AB (s:ByteArray) (i:Nat):(Utf8.decode s i).1<2000000:=by
 have I:=eH s i;rw [iW,BV];split
 ·simp only;omega
 ·split
  ·split <;> simp only <;> omega
  ·split
   ·split <;> simp only <;> omega
   ·split
    ·split
     ·rename_i D;have:=D.2;unfold Utf8.valid at this;simp at this;simp only;omega
     ·simp only;omega
    ·simp only;omega
theorem pq (s:ByteArray) (w:World) (hs:s.size≤65536):Calls Tryz.prog 79 #[.string s] w (ED w (fk s)):=by
 rw [AA];by_cases gr:200<s.size
 ·have HR:=hid (if_pos gr:(if 200<s.size then none else if (bG s).1=10∧((bG s).2=⟨#[]⟩∨ab (bG s).2 0=95) then none
   else iE (bG s).1 (ab (bG s).2 0) (dX (bG s).1 (bG s).2.data.toList [] false 0))=none)
  rw [HR.out];(have jx:(200:Int)<(s.size:Int):=by omega);clear HR gr;(go_enter Tryz.func79,Tryz.ntmps79);(go_wp2_with fail);go_ret2;exact ⟨Below.refl _ _,12,by decide,rfl⟩
 rw [if_neg gr];(have jx:¬ (200:Int)<(s.size:Int):=by omega);have gw:=hid (fun w=>B5 s w (by omega));obtain ⟨gq,j7,j6⟩:=EC s;(have ju:(bG s).2.size≤200:=by omega);generalize bG s=bt at *;obtain ⟨radix,t⟩:=bt;simp only at gq j7 j6 ju gw;simp only;obtain ⟨O,hO⟩:∃ O,O=(if radix=10∧(t=⟨#[]⟩∨ab t 0=95) then none else iE radix (ab t 0) (dX radix t.data.toList [] false 0)):=⟨_,rfl⟩
 rw [←hO];have HO:=hid hO;clear hO;have hc:∀ v line many,iE radix (ab t 0) (some (v,line,many))=if line=true∨many=0∨(radix=10∧1<many∧ab t 0=48) then none else some (mg v):=fun _ _ _=>rfl;have gv:=hid hc;clear hc;have ht:0<t.size→∀ W,(Instr.index 9 (.string t) (.int .i64 0)).run Tryz.prog W=.ok (.int .u8 (ab t 0:Int)) W:=fun h W=>dD t 0 h W;have gs:=hid ht;clear ht;have g4:=hid (show t.size=0→t=⟨#[]⟩ from fun h=>tL [] t (List.eq_nil_of_length_eq_zero h));by_cases I:radix=10∧(t=⟨#[]⟩∨ab t 0=95)
 ·have jl:=hid (show O=none by rw [HO.out,if_pos I]);obtain ⟨rfl,I⟩:=I;by_cases gd:t=⟨#[]⟩
  ·subst gd;clear I HO gv gs g4;(go_enter Tryz.func79,Tryz.ntmps79);(go_wp2_with fail);refine (gw.out _).mono ?_;rintro e w1 ⟨rfl,N⟩;(go_wp2_with fail);go_ret2;rw [jl.out];exact ⟨N,4,by decide,rfl⟩
  ·have g1:=I.resolve_left gd;have gl:=gs.out (Nat.pos_of_ne_zero fun h=>gd (g4.out h));rw [g1] at gl;(have gi:t.toList.isEmpty=false:=by rw [af];exact decide_eq_false gd);(have g8:(t.toList==[])=false:=by rw [←bq];exact decide_eq_false gd);clear I HO gv gs g4 gd g1;(go_enter Tryz.func79,Tryz.ntmps79);(go_wp2_with fail);refine (gw.out _).mono ?_;rintro e w1 ⟨rfl,N⟩;(go_wp2_with fail);go_ret2;rw [jl.out];exact ⟨N,4,by decide,rfl⟩
 have jk:=hid (show iE radix (ab t 0) (dX radix t.data.toList [] false 0)=O by rw [HO.out,if_neg I]);have gp:(radix==10)=false∨((radix==10)=true∧t≠⟨#[]⟩∧ab t 0≠95):=by
  by_cases h:radix=10
  ·exact .inr ⟨beq_iff_eq.2 h,fun h2=>I ⟨h,.inl h2⟩,fun h2=>I ⟨h,.inr h2⟩⟩
  ·exact .inl (beq_eq_false_iff_ne.2 h)
 have hp:=hid gp;clear I gp;rcases hp.out with hr | ⟨hr,gi,g1⟩;(have er:((radix:Int)==10)=false:=by rw [beq_eq_false_iff_ne];have:=beq_eq_false_iff_ne.1 hr;omega);clear hr
 rotate_left
 (have er:((radix:Int)==10)=true:=by rw [beq_iff_eq];have:=beq_iff_eq.1 hr;omega);(have hy:t.toList.isEmpty=false:=by rw [af];exact decide_eq_false gi);(have g8:(t.toList==[])=false:=by rw [←bq];exact decide_eq_false gi);have gl:=gs.out (Nat.pos_of_ne_zero fun h=>gi (g4.out h));(have jf:((ab t 0:Int)==95)=false:=by rw [beq_eq_false_iff_ne];omega);clear hr gi g1
 rotate_left
 all_goals
  (go_enter Tryz.func79,Tryz.ntmps79);(go_wp2_with fail);refine (gw.out _).mono ?_;rintro e w1 ⟨rfl,N⟩;(go_wp2_with fail);have ha:=World.iter_heap w1 t 0;have je:Below w.heap.size w (w1.iter t 0):=N.trans (((Below.refl _ w1).alloc (Nat.le_refl _) _).mono N.size);have jb:=N.size;clear N;generalize w1.heap.size=b at *;generalize w1.iter t 0=w2 at *;(try clear hy g8 jf gl);go_loopg [6,7,8,10,11,35,36] t.size (fun g u6 u7 u8 _ _ _ _ wr=>∃ (j:Nat) (vl:List Nat) (line:Bool) (many:Nat),j≤t.size∧t.size-j≤g∧wr.heap[b]? = some (.stringIter t j)∧mw (b+1) wr u6 vl∧(∀ x∈vl,x≤9)∧vl.length≤2 * j∧u7=.bool line∧u8=.int .i64 (many:Int)∧many≤j∧Below w.heap.size w wr∧iE radix (ab t 0) (dX radix (t.data.toList.drop j) vl line many)=O)
  case atStart=>exact ⟨0,[],false,0,Nat.zero_le _,by omega,ha,World.ownsRow_nil _ _ _ _,(fun x hx=>by cases hx),Nat.zero_le _,rfl,rfl,Nat.le_refl _,je,by rw [List.drop_zero];exact jk.out⟩
  case round=>
   clear ha je jk gw;obtain ⟨j,vl,line,many,hj,kn,hit,hO,h9,kk,rfl,rfl,kl,hB,hq⟩:=hrel;have g3:=hid hit;have g2:=hid hO;have H9:=hid h9;have HQ:=hid hq;have ki:b<wr.heap.size:=by
    rcases Nat.lt_or_ge b wr.heap.size with h | h
    ·exact h
    ·rw [Array.getElem?_eq_none h] at hit;cases hit
   clear hit hO h9 hq;by_cases M:j<t.size
   ·have K:=fun ty=>run_next_any_at (P:=Tryz.prog) wr b t j ty g3.out M;by_cases g9:ab t j<128
    ·obtain ⟨c,rr,gm,gz,gy⟩:=nh t j M;have hd:=f7 t j g9;rw [hd] at K;rw [gm] at HQ;have jj:=hid gy;have jn:=hid gz;have j1:=iterAt_heap wr b t j (j+1) g3.out;have j2:Below w.heap.size w (wr.iterAt b t (j+1)):=b8 hB jb;have j3:mw (b+1) (wr.iterAt b t (j+1)) u6 vl:=tI g2.out fun k hk _=>iterAt_other wr _ _ t _ (by omega);have jh:=hid (show b<(wr.iterAt b t (j+1)).heap.size by
      have h1:=iterAt_heap wr b t j (j+1) g3.out;rcases Nat.lt_or_ge b (wr.iterAt b t (j+1)).heap.size with h | h
      ·exact h
      ·rw [Array.getElem?_eq_none h] at h1;cases h1)
     generalize wr.iterAt b t (j+1)=W1 at K j1 j2 j3 jh;have J1:=hid j1;have J3:=hid j3;clear hd gm gz gy j1 j3;generalize hbb:ab t j=bb at *;clear hbb;by_cases h_:bb=95∧line=false
     ·obtain ⟨rfl,rfl⟩:=h_;have J:=hid (show iE radix (ab t 0) (dX radix rr vl true many)=O by rw [←HQ.out,dX,if_pos ⟨jn.out,rfl⟩]);(go_wp2_with fail);refine (iX 95 (by omega) _).mono ?_;rintro e w3 ⟨rfl,rfl⟩;(go_wp2_with fail);go_roundg (t.size-(j+1))
      case measure=>omega
      case rel=>exact ⟨j+1,vl,true,many,by omega,Nat.le_refl _,J1.out,J3.out,H9.out,by omega,rfl,rfl,by omega,j2,by rw [←jj.out];exact J.out⟩
     ·have gh:=hid (show iE radix (ab t 0) (oU radix rr vl many (dZ bb))=O by rw [←HQ.out,we,jn.out,if_neg h_]);have e_:(((bb:Int)==95) && !line)=false:=by
       cases hl:line with
       | true=>simp
       | false=>rw [beq_eq_false_iff_ne.2 (by intro h;exact h_ ⟨by omega,hl⟩)];rfl
      have E_:=hid e_;clear h_ e_ HQ;cases D:dZ bb with
      | none=>
       have J:=hid (show O=none by rw [←gh.out,D];rfl);(have ge:mP bb = -1:=by unfold mP;rw [D]);clear gh D;cases e1:((bb:Int)==95) <;> cases line;all_goals
        first
         | (exfalso;have:=E_.out;rw [e1] at this;cases this;done)
         | ((go_wp2_with fail);refine (iX bb (by omega) _).mono ?_;rw [ge];rintro e w3 ⟨rfl,rfl⟩;(go_wp2_with fail);go_ret2;rw [J.out];exact ⟨j2,4,by decide,rfl⟩)
      | some d=>
       (have ge:mP bb=(d:Int):=by unfold mP;rw [D]);have h6:d≤15:=by
        unfold dZ at D;split at D
        ·injection D with D;omega
        ·split at D
         ·injection D with D;omega
         ·split at D
          ·injection D with D;omega
          ·cases D
       by_cases h5:d<radix
       ·have J:=hid (show iE radix (ab t 0) (dX radix rr (cI radix vl d) false (many+1))=O by rw [←gh.out,D,oU,if_pos h5]);(have j5:decide ((radix:Int)≤(d:Int))=false:=by rw [decide_eq_false_iff_not];omega);(have j4:decide ((d:Int)<0)=false:=by rw [decide_eq_false_iff_not];omega);have qm:IntKind.i64.wrap ((many:Int)+1)=(many:Int)+1:=IntWalk.i64_in _ (by omega);clear gh D;cases e1:((bb:Int)==95) <;> cases line;all_goals
         first
          | (exfalso;have:=E_.out;rw [e1] at this;cases this;done)
          | ((go_wp2_with fail);refine (iX bb (by omega) _).mono ?_;rw [ge];rintro e w3 ⟨rfl,rfl⟩;(go_wp2_with fail);refine (Ay (b+1) _ vl radix d W1 J3.out (by have:=jh.out;omega) H9.out gq h6 (by omega)).mono ?_;rintro e w4 ⟨v4,rfl,jd,hm⟩;have kb:=hid jd;have J4:=hid ((hm.block b (Nat.lt_succ_self _)).trans J1.out);have kf:=hid (j2.trans (hm.mono (by omega)));clear jd hm;(go_wp2_with fail);go_roundg (t.size-(j+1))
             case measure=>omega
             case rel=>exact ⟨j+1,cI radix vl d,false,many+1,by omega,Nat.le_refl _,J4.out,kb.out,tK radix gq vl d H9.out h6,(by have:=nT radix vl d;omega),rfl,by go_num,by omega,kf.out,by rw [←jj.out];exact J.out⟩)
       ·have J:=hid (show O=none by rw [←gh.out,D,oU,if_neg h5];rfl);(have j5:decide ((radix:Int)≤(d:Int))=true:=by rw [decide_eq_true_iff];omega);(have j4:decide ((d:Int)<0)=false:=by rw [decide_eq_false_iff_not];omega);clear gh D;cases e1:((bb:Int)==95) <;> cases line;all_goals
         first
          | (exfalso;have:=E_.out;rw [e1] at this;cases this;done)
          | ((go_wp2_with fail);refine (iX bb (by omega) _).mono ?_;rw [ge];rintro e w3 ⟨rfl,rfl⟩;(go_wp2_with fail);go_ret2;rw [J.out];exact ⟨j2,4,by decide,rfl⟩)
    ·obtain ⟨c,rr,gm,gz,gy⟩:=nh t j M;have hh:=fy t j M (by omega);have hu:=AB t j;have J:=hid (show O=none by rw [←HQ.out,gm,dX,if_neg (by omega),oD _ (by omega)];rfl);have h4:=hh.1;clear hh g9 gm gz gy;generalize Utf8.decode t j=q at *;obtain ⟨r,k⟩:=q;simp only at h4 K hu;have j2:Below w.heap.size w (wr.iterAt b t (j+k)):=b8 hB jb;generalize wr.iterAt b t (j+k)=W1 at K j2;(have jf:((r:Int)==95)=false:=by rw [beq_eq_false_iff_ne];omega);(have ge:mP r = -1:=by unfold mP;rw [oD r h4]);(go_wp2_with fail);refine (iX r hu _).mono ?_;rw [ge];rintro e w3 ⟨rfl,rfl⟩;(go_wp2_with fail);go_ret2;rw [J.out];exact ⟨j2,4,by decide,rfl⟩
   ·have j0:=fun ty=>run_next_end_at (P:=Tryz.prog) wr b t j ty g3.out M;have U:=hid (show (if line=true∨many=0∨(radix=10∧1<many∧ab t 0=48) then none else some (mg vl))=O by rw [←HQ.out,List.drop_of_length_le (by have:t.data.toList.length=t.size:=rfl;omega),dX];exact (gv.out _ _ _).symm);clear HQ;cases line with
    | true=>have J:=hid (show O=none by rw [←U.out,if_pos (.inl rfl)]);clear U;(go_wp2_with fail);go_ret2;rw [J.out];exact ⟨hB,4,by decide,rfl⟩
    | false=>
     by_cases gj:many=0
     ·have J:=hid (show O=none by rw [←U.out,if_pos (.inr (.inl gj))]);subst gj;clear U;(go_wp2_with fail);go_ret2;rw [J.out];exact ⟨hB,4,by decide,rfl⟩
     ·(have kq:((many:Int)==0)=false:=by rw [beq_eq_false_iff_ne];omega);(have jv:0<t.size:=by omega);have gl:=gs.out jv;by_cases hz:radix=10∧1<many∧ab t 0=48
      ·have J:=hid (show O=none by rw [←U.out,if_pos (.inr (.inr hz))]);(have ka:((radix:Int)==10)=true:=by rw [beq_iff_eq];omega);(have kp:decide ((1:Int)<(many:Int))=true:=by rw [decide_eq_true_iff];omega);rw [hz.2.2] at gl;clear U hz gj;first
        | (exfalso;rw [ka] at er;cases er;done)
        | ((go_wp2_with fail);go_ret2;rw [J.out];exact ⟨hB,4,by decide,rfl⟩)
      ·have J:=hid (show O=some (mg vl) by rw [←U.out,if_neg (fun h=>by rcases h with h | h | h;(cases h);(exact gj h);(exact hz h))]);have HZ:=hid hz;clear U hz gj;have h8:((((radix:Int)==10)&&decide ((1:Int)<(many:Int)))&&((ab t 0:Int)==48))=false:=by
        cases h1:((radix:Int)==10) with
        | false=>rfl
        | true=>
         cases h2:decide ((1:Int)<(many:Int)) with
         | false=>rfl
         | true=>have h1:=beq_iff_eq.1 h1;have h2:=of_decide_eq_true h2;show ((ab t 0:Int)==48)=false;rw [beq_eq_false_iff_ne];intro h3;exact HZ.out ⟨by omega,by omega,by omega⟩
       have ke:=hid h8;clear h8;obtain ⟨A6,c6,jt,ko⟩:=ml g2.out;subst jt;obtain ⟨i0,hi,jr,jq,jp⟩:=info_parts tJ;(have jw:vl.length≤400:=by omega);have q1:IntKind.i64.wrap ((vl.length:Int)+1)=(vl.length:Int)+1:=IntWalk.i64_in _ (by omega);have q2:IntKind.i64.wrap ((vl.length:Int)-1)=(vl.length:Int)-1:=IntWalk.i64_in _ (by omega);generalize hb0:ab t 0=h0 at *;cases e1:((radix:Int)==10) <;> cases e2:decide ((1:Int)<(many:Int)) <;> cases e3:((h0:Int)==48);all_goals
        first
         | (exfalso;have:=ke.out;rw [e1,e2,e3] at this;cases this;done)
         | (exfalso;rw [e1] at er;cases er;done)
         | (go_wp2_with (at_make;refine wpList_make_own _ rfl (.const (.int .i64 0)) (.tmp 81) 27 rfl wr.heap.size 5 i0 _ 1 Tryz.underlying27 hi jr jq .i64 .i64 _ (vl.length+1) rfl rfl (by rfl) (by rw [jp];omega) (by unfold maxLen;omega) (Nat.le_refl _) ?_;intro w5 hown5 ga);have jm:=hid (show uY wr.heap.size w5 (.slice (some ⟨wr.heap.size,0,none⟩) 0 (vl.length+1)) [] from hown5);have ji:=hid (show mw (b+1) w5 (.slice A6 vl.length c6) vl from tI g2.out fun k _ hk=>ga.block k hk (by simp));have g5:Below wr.heap.size wr w5:=⟨ga.os,ga.tape,ga.output,ga.size,fun k hk=>ga.block k hk (by simp)⟩;have ks:=am hB g5;clear hown5 ga;(go_wp2_with fail);have j9:=g5.size;have kg:=H9.out;go_loopg [12,13] vl.length (fun gg u12 u13 wx=>∃ k:Nat,k≤vl.length∧k≤gg∧u13=.int .i64 ((k:Int)-1)∧uY wr.heap.size wx u12 ((vl.drop k).reverse.map fun d=>UInt8.ofNat (48+d))∧mw (b+1) wx (.slice A6 vl.length c6) vl∧Below wr.heap.size wr wx)
            case atStart=>exact ⟨vl.length,Nat.le_refl _,Nat.le_refl _,rfl,by rw [List.drop_length];exact jm.out,ji.out,g5⟩
            case round=>
             rename World=>wx;clear jm ji g5 j9;obtain ⟨k,hk,km,rfl,hf,jc,hg⟩:=hrel;have gt:=hid hf;have hn:=hid jc;have kj:=hg.size;obtain ⟨kh,jg,g6,ja⟩:=ml hf;rw [List.length_map,List.length_reverse,List.length_drop] at g6 ja;clear hf jc;subst g6;cases k with
             | succ u=>
              rw [show ((u+1:Nat):Int)-1=(u:Int) by omega];(have he:u<vl.length:=by omega);obtain ⟨g,c',hv,jz,jy⟩:=World.ownsRow.form hn.out (by omega);injection hv with e1 e2 e3;subst e1 e3;clear e2;have gn:=World.ownsRow.cellAt hn.out u (by omega);rw [List.getElem?_map,List.getElem?_eq_getElem he] at gn;have js:=kg _ (List.getElem_mem he);have kd:=hid (List.drop_eq_getElem_cons he);simp only [Option.map_some] at gn;generalize vl[u]=x at *;(have p0:(0:Int)≤(u:Int):=by omega);(have p1:(u:Int)<(vl.length:Int):=by omega);have q3:IntKind.i64.wrap (48+(x:Int))=48+(x:Int):=IntWalk.i64_in _ (by omega);have q4:IntKind.u8.wrap (48+(x:Int))=48+(x:Int):=IntWalk.u8_in _ (by omega);have q5:IntKind.i64.wrap ((u:Int)-1)=(u:Int)-1:=IntWalk.i64_in _ (by omega);have HU:=hid (show (48+(x:Int))=((UInt8.ofNat (48+x)).toNat:Int) by rw [UInt8.toNat_ofNat'];omega);have gu:=hid (show ((vl.drop (u+1)).reverse.map fun d=>UInt8.ofNat (48+d)).length=vl.length-(u+1) by rw [List.length_map,List.length_reverse,List.length_drop]);have HE:=hid (show ((vl.drop (u+1)).reverse.map fun d=>UInt8.ofNat (48+d))++[UInt8.ofNat (48+x)]=(vl.drop u).reverse.map fun d=>UInt8.ofNat (48+d) by rw [kd.out,List.reverse_cons,List.map_append];rfl);clear js;generalize hLL:((vl.drop (u+1)).reverse.map fun d=>UInt8.ofNat (48+d))=LL at *;go_wp2_with (at_builtin;refine nn rfl (.tmp 90) (.tmp 97) rfl wr.heap.size _ _ LL (UInt8.ofNat (48+x)) _ (by rw [←gu.out];rfl) _ rfl rfl HU.out gt.out (by omega) (by rw [gu.out];omega) ?_;intro g7 c7 w7 hO7 g0);have j8:mw (b+1) w7 (.slice (some ⟨g,0,none⟩) vl.length c6) vl:=Az hn.out fun q hq=>g0.block q (World.ownsRow.lt g2.out q hq).2;go_roundg u
              case measure=>omega
              case rel=>exact ⟨u,by omega,Nat.le_refl _,rfl,by rw [←HE.out];exact hO7,j8,hg.trans g0⟩
             | zero=>
              rw [show ((0:Nat):Int)-1 = -1 by omega];have gu:=hid (show ((vl.drop 0).reverse.map fun d=>UInt8.ofNat (48+d)).length=vl.length by rw [List.length_map,List.length_reverse,List.length_drop];omega);have jo:=hid (am hB hg);by_cases gx:vl=[]
              ·subst gx;have ho:=hid (show O=some ⟨#[48]⟩ from J.out);have gb:=gt.out;clear J gu;go_wp2_with (at_builtin;refine nn rfl (.tmp 102) (.tmp 103) rfl wr.heap.size _ _ [] 48 _ rfl _ rfl rfl rfl gb (by omega) (by simp) ?_;intro g7 c7 w7 hO7 g0;have h7:=Gh w7 g7 c7 (World.ownsRow.cellAt hO7 0 (by decide)));go_ret2;rw [ho.out];exact ⟨jo.out.trans (g0.mono (by have:=hB.size;omega)),rfl⟩
              ·have ho:=hid (show O=some ⟨(vl.reverse.map fun d=>UInt8.ofNat (48+d)).toArray⟩ by rw [J.out,mg,if_neg gx]);rw [Nat.sub_zero] at gt ⊢;have hw:0<vl.length:=Nat.pos_of_ne_zero fun h=>gx (List.eq_nil_of_length_eq_zero h);(have kr:((vl.length:Int)==0)=false:=by rw [beq_eq_false_iff_ne];omega);have kc:=hid (show uY wr.heap.size wx (.slice kh vl.length jg) (vl.reverse.map fun d=>UInt8.ofNat (48+d)) from gt.out);(have yk:(vl.reverse.map fun d=>UInt8.ofNat (48+d)).length=vl.length:=by rw [List.length_map,List.length_reverse]);have gb:=kc.out;unfold uY at gb;rw [yk] at gb;obtain ⟨g7,c7,hv,jz,jy⟩:=World.ownsRow.form gb hw;injection hv with e1 e2 e3;subst e1 e3;clear e2;have h7:=run_convert_bytes_back (P:=Tryz.prog) wx 27 9 5 ⟨g7,0,none⟩ jg (vl.reverse.map fun d=>UInt8.ofNat (48+d)) Tryz.underlying27 Tryz.underlying5 Tryz.underlying9 (fun j hj=>by rw [nL,Nat.zero_add,World.ownsRow.cellAt gb j (by omega),List.getElem?_map,List.getElem?_eq_getElem hj];rfl);rw [yk] at h7;generalize (⟨(vl.reverse.map fun d=>UInt8.ofNat (48+d)).toArray⟩:ByteArray)=SS at *;clear yk gb J gu gt gx;(go_wp2_with fail);go_ret2;rw [ho.out];exact ⟨jo.out,rfl⟩)
theorem pr (s:ByteArray) (W:World):du (W.drew.alloc (.cells (bytesRow s (grownCap W s.size 0 5)) 5 ((bytesRow s (grownCap W s.size 0 5)).size,(bytesRow s (grownCap W s.size 0 5)).size+1))) (some ⟨W.heap.size,0,none⟩) (grownCap W s.size 0 5) s:=by refine .inr ⟨W.heap.size,0,rfl,grownCap_ge W s.size 0 _,by show _<(W.heap.push _).size;simp,fun i hi=>?_⟩;rw [Nat.zero_add];(have:(W.drew.alloc (.cells (bytesRow s (grownCap W s.size 0 5)) 5 ((bytesRow s (grownCap W s.size 0 5)).size,(bytesRow s (grownCap W s.size 0 5)).size+1))).heap[W.heap.size]? = some (.cells (bytesRow s (grownCap W s.size 0 5)) 5 ((bytesRow s (grownCap W s.size 0 5)).size,(bytesRow s (grownCap W s.size 0 5)).size+1)):=by show (W.heap.push _)[W.heap.size]? = _;simp);rw [Lib.cell_of_heap this i,bytesRow_at s _ i hi];rfl
end
section
open Go.ChangeShapes Go.WideShapes Go.ChangeAt Go.RowKit Go.Shelf Go.Lib
theorem sr {W:World} (h:W.ShapedOpen Tryz.prog):bR W:=by obtain ⟨cs,j,hs,U⟩:=h.1 2 #[.int .i64 0] 3 (of_decide_eq_true (by kernel_rfl)) (by kernel_rfl);obtain ⟨ts,J,_,K⟩:=U (by kernel_rfl);rw [show Tryz.prog.cellTypes Tryz.prog.depth 3=some [3] by kernel_rfl] at J;cases J;(have N:0<cs.size:=by rw [hs];decide);obtain ⟨u,M,D⟩:=K 0 cs[0] (by simp [N]);(have:u=3:=by simpa using M.symm);subst this;(have I:W.cell? ⟨2,0,none⟩=some cs[0]:=by simp [World.cell?,j,N]);unfold bR;rw [I];unfold Cell.ok at D;rw [Tryz.underlying3] at D;cases O:cs[0] <;> rw [O] at D <;> simp at D;obtain ⟨rfl,-⟩:=D;exact ⟨_,rfl⟩
def FT:Ren:=⟨fun n=>n,fun | 5=>5 | 119=>149 | 138=>152 | 139=>153 | n=>n,fun | 3=>0 | 4=>1 | n=>n⟩
theorem Eu:U8Types Tryz.prog FT:=⟨Tryz.underlying5,Tryz.underlying149,Tryz.underlying152,Tryz.underlying153⟩
theorem Ev:U8Extra Tryz.prog FT:=⟨by kernel_rfl,by kernel_rfl,by kernel_rfl,by kernel_rfl,by kernel_rfl,by kernel_rfl,by kernel_rfl⟩
def BW:List (String × DataW Unit):=[("unicode/utf8.acceptRanges",Rows.laid_unicode_utf8_acceptRanges),("unicode/utf8.first",Rows.laid_unicode_utf8_first)]
theorem uR:Rows.laid_unicode_utf8_first=firstData:=by kernel_rfl
theorem tv:(Rows.laid_unicode_utf8_acceptRanges:DataW Unit)=acceptData:=by kernel_rfl
theorem Ew {W:World} (h:W.ShapedOpen Tryz.prog) (D:laidMet Tryz.prog BW W):iD W:=
 ⟨sr h,utf8Tabs_of_readsT Eu Ev (by rw [←uR];exact laidMet.reads D (.tail _ (.head _))) (by rw [←tv];exact laidMet.reads D (.head _))⟩
def BX:DataW Unit→List Value
 | .lit (.int k n)=>[.int k n]
 | .agg l=>l.map fun | .lit (.int k n)=>Value.int k n | _=>Value.bool false
 | _=>[]
def oA:DataW Unit→Array Value
 | .agg l=>(l.flatMap BX).toArray
 | _ => #[]
def BY (c:Array Value):Obj→Obj
 | .cells _ t frozen=>.cells c t frozen
 | o=>o
noncomputable def nR (os:Os):World:=
 { World.holding Tryz.prog os ⟨#[],#[],[]⟩ with heap:=((World.holding Tryz.prog os ⟨#[],#[],[]⟩).heap.modify 1 (BY (oA Rows.laid_unicode_utf8_acceptRanges))).modify 0 (BY (oA Rows.laid_unicode_utf8_first)) }
def ss:Value:=.agg #[.int .i64 0,.string ⟨#[]⟩,.slice none 0 0,.int .i64 0]
def Gf {H:Type} : DataW H:=.agg [.lit (.int .i64 0),.lit (.string []),.nil,.lit (.int .i64 0)]
section
variable {H:Type} {enc:TypeId × Value→H}
end
end
section
open Go.RowKit Go.Lib Go.Proofs
attribute [local go_sem ↓] Go.wp_at_zero Go.wp_at_succ
attribute [local go_sem] bg bh bi bC bD bE bF
theorem tM (a:Array Value) (w:World):(callFunc 134 a).run Tryz.prog w=.ok (.enter 134 a) w:=by kernel_rfl
theorem wh (E:cw) (F:oM) (hF:te E F) (B:Nat) (w0:World) (hB:ar w0 B 52 #[.pointer (some ⟨E.R,0,none⟩)]) (gx:B≠E.R) :
  iq E 134 #[.pointer (some ⟨B,0,none⟩)] (li F) w0:=by
 intro w s hw h hno;generalize hres:li F E.c s=res at *;have gt:=hid hres;have je:=hid hno;have g3:=hB.grown hw (fun e=>gx (by injection e));have b0:=bc g3;have js:=g3.lt;have ht:=h.lt;have h1:=(aC.refl h).alloc (.cells bZ 24);clear hres hno hB hw;(go_enter Tryz.func134,Tryz.ntmps134);(go_wp2_with fail);refine (cr E s _ (h.alloc _)).mono ?_;unfold iA;rintro e w1 ⟨rfl,gz⟩;have hk:=(ar.new w 24 bZ).below gz (by simp);have jc:=(g3.alloc (.cells bZ 24)).below gz (by simp;omega);have h0:=h1.step gz;have hf:=hk.lt;clear gz h1 g3 b0;(go_wp2_with fail);refine (cc _ _ _ _ _ ⟨_,_,_,rfl⟩).mono ?_;rintro e w2 ⟨rfl,gy⟩;have hj:=hk.below gy hf;have jb:=jc.below gy (by omega);have hz:=h0.step gy;have jh:=hj.lt;clear gy h0 jc hk;have h3:=ar.new w2 24 #[.int .i64 36,.string (⟨#[]⟩:BA),.slice none 0 0,.int .i64 (aE E.c s.at_).pos];have h7:=hj.alloc (.cells #[.int .i64 36,.string (⟨#[]⟩:BA),.slice none 0 0,.int .i64 (aE E.c s.at_).pos] 24);have ho:=jb.alloc (.cells #[.int .i64 36,.string (⟨#[]⟩:BA),.slice none 0 0,.int .i64 (aE E.c s.at_).pos] 24);have b3:=bc ho;have gl:=hz.alloc (.cells #[.int .i64 36,.string (⟨#[]⟩:BA),.slice none 0 0,.int .i64 (aE E.c s.at_).pos] 24);(go_wp2_with fail);cases hA:cm E.c s (⟨#[123]⟩:BA) with
 | false=>refine (oQ E s _ _ gl.rd hA).mono ?_;rintro e w4 ⟨rfl,jj⟩;unfold aL;exact ⟨rfl,aK (by rw [←gt.out,li,mv];simp [hA]) gl.gr (aP _ jj)⟩
 | true=>
  have HE:=hid (show cx F (aE E.c s.at_).pos F.g [] E.c (ba s)=res by rw [←gt.out,li,mv];simp only [hA,if_true,mI.bind_ok];rfl);refine (nb E s _ _ gl.rd hA).mono ?_;rintro e w4 ⟨rfl,I⟩;have ga:=h3.grown I.gr;have U:=h7.grown I.gr;have gi:=ho.grown I.gr;have gh:=gl.trans I;generalize hL:w2.heap.size=L at *;(have jr:w.heap.size<L:=by omega);generalize (aE E.c s.at_).pos=p at *;clear h3 h7 ho gl I hA gt hj jb hz hL b3;(go_wp2_with fail);go_loopg [] F.g (fun g wr=>∃ (acc:List Nd) (s':St) (u:Value),ar wr L 24 #[.int .i64 36,.string (⟨#[]⟩:BA),u,.int .i64 p]∧fx (w.heap.size+1) (fun b=>b=L) wr u acc∧ar wr w.heap.size 24 bZ∧ar wr B 52 #[.pointer (some ⟨E.R,0,none⟩)]∧acc.length+g≤1000001∧cx F p g acc E.c s'=res∧aC E s' w wr)
  case atStart=>exact ⟨[],ba s,_,ga,fx.nil _ _ _,U,gi,by have:=hF.g;simp;omega,HE.out,gh⟩
  case round=>
   clear ga U gh gi HE;obtain ⟨acc,M,u,hL,HO,hG,hl,jt,hr,hM⟩:=hrel;have HR:=hid hr;clear hr;cases gk with
   | zero=>exact absurd HR.out.symm (by rw [cx];exact je.out)
   | succ g1=>
    have b0:=bc hl;cases hA:cm E.c M (⟨#[125]⟩:BA) with
    | true=>have HF:=hid (show res=.ok (.mk 36 (⟨#[]⟩:BA) acc p) (ba M) by rw [←HR.out,cx];simp only [hA,if_true]);clear HR;(go_wp2_with fail);refine (dH E M _ _ hM.rd hA).mono ?_;rintro e w4 ⟨rfl,I⟩;have ga:=hL.grown I.gr;have U:=hG.grown I.gr;have gu:=HO.grown I.gr (by omega);obtain ⟨A4,c4,ha,_⟩:=gu.form;subst ha;obtain ⟨x0,x1,x2,x3,_,_,_,_⟩:=ac ga;obtain ⟨d0,d1,d2,d3,e0,e1,e2,e3⟩:=ac U;clear hA b0;(go_wp2_with fail);refine a6 HF.out (ai.of_slice gu.values 36 (⟨#[]⟩:BA) p) (hM.trans I) U (Nat.le_refl _) ht ?_ rfl (by rfl) rfl;rintro b ⟨hb,_⟩;constructor <;> omega
    | false=>
     have HE:=hid (show (if eh E.c M then cx F p g1 acc E.c (ba M) else (F.stmt E.c M).bind fun n s1=>if eh E.c s1 then cx F p g1 (acc++[n]) E.c (ba s1) else if cm E.c s1 (⟨#[125]⟩:BA) then cx F p g1 (acc++[n]) E.c s1 else .fail (bz E.c s1))=res by rw [←HR.out,cx];simp only [hA,Bool.false_eq_true,if_false]);clear HR;(go_wp2_with fail);refine (dB E M _ _ hM.rd hA).mono ?_;rintro e w4 ⟨rfl,gd⟩;have ga:=hL.bl gd.bel;have U:=hG.bl gd.bel;have gi:=hl.bl gd.bel;have gu:=HO.kept (aD.of_below gd.bel (fun b _ hlt=>hlt));have gh:=hM.trans gd.moved;clear hA hL hG HO hM gd b0 hl;have b4:=bc gi;(go_wp2_with fail);refine (ll E M _ gh.rd).mono ?_;rintro e w5 ⟨rfl,gg⟩;have g2:=ga.grown gg.gr;have h6:=U.grown gg.gr;have hn:=gi.grown gg.gr (fun e=>gx (by injection e));have g4:=gu.grown gg.gr (by omega);have j:=gh.trans gg;clear ga U gu gh gi b4 gg;cases g0:eh E.c M with
     | true=>
      have jq:=hid (show cx F p g1 acc E.c (ba M)=res by rw [←HE.out];simp only [g0,if_true]);rw [show ip E.c M=ba M by unfold ip;rw [g0];rfl] at j;clear HE;(go_wp2_with fail);go_roundg g1
      case measure=>omega
      case rel=>exact ⟨acc,ba M,_,g2,g4,h6,hn,by omega,jq.out,j⟩
     | false=>
     have g5:=hid (show ((F.stmt E.c M).bind fun n s1=>if eh E.c s1 then cx F p g1 (acc++[n]) E.c (ba s1) else if cm E.c s1 (⟨#[125]⟩:BA) then cx F p g1 (acc++[n]) E.c s1 else .fail (bz E.c s1))=res by rw [←HE.out];simp only [g0,Bool.false_eq_true,if_false]);rw [show ip E.c M=M by unfold ip;rw [g0];rfl] at j;clear HE;obtain ⟨A4,c4,ha,_⟩:=g4.form;subst ha;obtain ⟨x0,x1,x2,x3,y0,y1,y2,y3⟩:=ac g2;have b5:=bc hn;have he:=g2.lt;cases hP:F.stmt E.c M with
     | out=>exact absurd g5.out.symm (by rw [hP];exact je.out)
     | fail q=>have HF:=hid (show res=.fail q by rw [←g5.out,hP];rfl);(go_wp2_with fail);let SS:World→Prop:=fun w'=>w'.cell? ⟨L,2,none⟩=some (.slice A4 acc.length c4)∧w'.cell? ⟨B,0,none⟩=some (.pointer (some ⟨E.R,0,none⟩));have jo:SS w5.drew:=⟨x2,b5⟩;(refine wp_region_held_drew (S:=SS) (by kernel_rfl) jo ?_;intro hh;refine mA 0 hh ?_;refine mA 1 hh ?_;refine mA 2 hh ?_;refine F7 3 fun K hK=>?_;go_simp);refine (hF.stmt _ M j.drew.rd (by rw [hP];exact nofun)).mono ?_;rw [hP];rintro e w7 ⟨rfl,ji⟩;unfold aL;exact ⟨rfl,aK HF.out j.drew.gr ji⟩
     | ok n2 J=>
      have gw:=hid (show (if eh E.c J then cx F p g1 (acc++[n2]) E.c (ba J) else if cm E.c J (⟨#[125]⟩:BA) then cx F p g1 (acc++[n2]) E.c J else .fail (bz E.c J))=res by rw [←g5.out,hP];rfl);have HC:=hid (fun W (hr:aW E W M)=>hF.stmt W M hr (by rw [hP];exact nofun));rw [hP] at HC;clear g5 hP;(go_wp2_with fail);(have hv:acc.length≤1000000:=by omega);(have hy:E.R<w.heap.size+1:=by omega);(have hq:w.heap.size+1≤w5.heap.size:=by omega);(have ju:B≠L:=by omega);go_region_law (first
       | (refine pk (by rfl) (.tmp 15) (.tmp 18) (by rfl) E J (w.heap.size+1) w5.heap.size (fun b=>b=L) w w7 (.slice A4 acc.length c4) acc n2 A7 c7 (by rfl) (by rfl) jp jk (Nat.le_succ _) hy hq jg (fun b hb=>by rw [hb];exact he) (fun g hg=>(g4.lt g hg).2) hv jl ?_;intro g c w9 gj;have h2:ar w9 L 24 #[.int .i64 36,.string (⟨#[]⟩:BA),.slice A4 acc.length c4,.int .i64 p]:=(gj.old L hc (.inl rfl)).trans hi;have ja:ar w9 B 52 #[.pointer (some ⟨E.R,0,none⟩)]:=(gj.old B hm.lt (.inr (by omega))).trans hm;have b9:=bc ja;obtain ⟨v0,v1,v2,v3,f0,f1,f2,f3⟩:=ac h2)
       | (go_simp;(go_at_call 135);refine (HC.out _ j.drew.rd).mono ?_;rintro e w7 ⟨⟨v,rfl,jf⟩,ge⟩;obtain ⟨A7,c7,rfl,jl⟩:=jf.toC;have hi:=g2.drew.grown ge.gr;have h5:=h6.drew.grown ge.gr;have hm:=hn.drew.grown ge.gr (fun e=>gx (by injection e));have b7:=bc hm;have jp:=(g4.kept ((aD.refl _ _).drew)).grown ge.gr hy;have jk:=j.drew.trans ge;have jg:w5.heap.size≤w7.heap.size:=ge.gr.size;have hc:=hi.lt;obtain ⟨z0,z1,z2,z3,_,_,_,_⟩:=ac hi))
      all_goals
       have gn:=gj.mov.own (p:=⟨L,2,none⟩) (by show w.heap.size≤L;omega) (by show E.R<L;omega) (.slice (some ⟨g,0,none⟩) (acc.length+1) c);(have g6:ar (w9.setCell ⟨L,2,none⟩ (.slice (some ⟨g,0,none⟩) (acc.length+1) c)) L 24 #[.int .i64 36,.string (⟨#[]⟩:BA),.slice (some ⟨g,0,none⟩) (acc.length+1) c,.int .i64 p]:=by simpa using h2.set_ 2 (.slice (some ⟨g,0,none⟩) (acc.length+1) c));have gs:=ja.far (p:=⟨L,2,none⟩) (by show B≠L;omega) (.slice (some ⟨g,0,none⟩) (acc.length+1) c);have g7:=ar.far (show ar w9 w.heap.size 24 bZ from (gj.old w.heap.size (by have:=h5.lt;omega) (.inr (by omega))).trans h5) (p:=⟨L,2,none⟩) (by show w.heap.size≠L;omega) (.slice (some ⟨g,0,none⟩) (acc.length+1) c);have g9:=gj.own.kept ((aD.refl _ _).setCell (p:=⟨L,2,none⟩) (fun hX=>hX.2 rfl) (.slice (some ⟨g,0,none⟩) (acc.length+1) c));clear v0 v1 v2 v3 f0 f1 f2 f3 z0 z1 z2 z3 x0 x1 x2 x3 y0 y1 y2 y3 b5 b7 b9;generalize w9.setCell ⟨L,2,none⟩ (.slice (some ⟨g,0,none⟩) (acc.length+1) c)=w10 at *;have jn:=bc gs;(go_wp2_with fail);refine (ll E J _ gn.rd).mono ?_;rintro e w11 ⟨rfl,D⟩;have gp:=g6.grown D.gr;have gq:=g7.grown D.gr;have gb:=gs.grown D.gr (fun e=>gx (by injection e));have gv:=g9.grown D.gr (by omega);have N:=gn.trans D;have jm:=bc gb;clear gn g6 g7 g9 gs jn;cases hS:eh E.c J with
       | true=>
        have hp:=hid (show cx F p g1 (acc++[n2]) E.c (ba J)=res by rw [←gw.out];simp only [hS,if_true]);rw [show ip E.c J=ba J by unfold ip;rw [hS];rfl] at N;clear gw D;(go_wp2_with fail);go_roundg g1
        case measure=>omega
        case rel=>exact ⟨acc++[n2],ba J,_,gp,gv,gq,gb,by rw [List.length_append];simp;omega,hp.out,N⟩
       | false=>
        rw [show ip E.c J=J by unfold ip;rw [hS];rfl] at N;(go_wp2_with fail);refine (da E J _ _ N.rd).mono ?_;rintro e w12 ⟨rfl,O⟩;have h4:=gp.bl O;have h8:=gq.bl O;have g8:=gb.bl O;have jd:=gv.kept (aD.of_below O (fun b _ hlt=>hlt));have gm:=N.step O;have jv:=bc g8;clear gp gq gv N D gb jm;cases hI:cm E.c J (⟨#[125]⟩:BA) with
        | true=>
         have hp:=hid (show cx F p g1 (acc++[n2]) E.c J=res by rw [←gw.out];simp only [hS,hI,Bool.false_eq_true,if_false,if_true]);clear gw;(go_wp2_with fail);go_roundg g1
         case measure=>omega
         case rel=>exact ⟨acc++[n2],J,_,h4,jd,h8,g8,by rw [List.length_append];simp;omega,hp.out,gm⟩
        | false=>have HF:=hid (show res=.fail (bz E.c J) by rw [←gw.out];simp only [hS,hI,Bool.false_eq_true,if_false]);(go_wp2_with fail);refine (iS E J _ gm.rd).mono ?_;rintro e w13 ⟨rfl,hu⟩;unfold aL;exact ⟨rfl,aK HF.out gm.gr (aP _ hu)⟩
theorem rH (E:cw) (F:oM) (hF:te E F):ei E (lM F) 88:=by
 intro w s h hno;have ga:=h.lt;have I:=((aC.refl h).alloc (.cells #[.pointer (some ⟨E.R,0,none⟩)] 52)).alloc (.cells bZ 24);have N:ar ((w.alloc (.cells #[.pointer (some ⟨E.R,0,none⟩)] 52)).alloc (.cells bZ 24)) w.heap.size 52 #[.pointer (some ⟨E.R,0,none⟩)]:=(ar.new w _ _).alloc _;(have j:ar ((w.alloc (.cells #[.pointer (some ⟨E.R,0,none⟩)] 52)).alloc (.cells bZ 24)) (w.heap.size+1) 24 bZ:=by have:=ar.new (w.alloc (.cells #[.pointer (some ⟨E.R,0,none⟩)] 52)) 24 bZ;simpa using this);have HC:=hid (BM E 134 #[] #[.pointer (some ⟨w.heap.size,0,none⟩)] (li F) s _ I.rd tM (by simpa using wh E F hF w.heap.size _ N (by omega)) hno);have u:=hid hno;have q:=hid (show ((w.alloc (.cells #[.pointer (some ⟨E.R,0,none⟩)] 52)).alloc (.cells bZ 24)).heap.size=w.heap.size+2 by simp);generalize D:lM F E.c s=res at *;rw [show dY (li F) E.c s=res from D] at HC;clear D hno N;(go_enter Tryz.func88,Tryz.ntmps88);(go_wp2_with fail);refine HC.out.mono ?_;cases D:res with
 | out=>exact absurd D u.out
 | fail p=>rintro e w5 ⟨rfl,O⟩;unfold aL;exact ⟨rfl,aK (by first | rfl | exact D) I.gr O⟩
 | ok n5 s5=>rintro e w5 ⟨⟨v5,rfl,J⟩,K⟩;obtain ⟨A5,c5,rfl,gb⟩:=J.toC;have M:=j.grown K.gr;have U:=I.trans K;obtain ⟨d0,d1,d2,d3,e0,e1,e2,e3⟩:=ac M;(go_wp2_with fail);refine a6 (by first | rfl | exact D) J U M (Nat.le_succ _) (by omega) ?_ rfl (by rfl) rfl;intro b hb;have:=q.out;constructor <;> omega
theorem B6 (E:cw) (F:oM) (hF:te E F):ei E (BH F) 135:=by
 intro w s h hno;generalize hres:BH F E.c s=res at *;have gq:=hid hres;have I:=hid hno;have gy:=h.lt;clear hres hno;(go_enter Tryz.func135,Tryz.ntmps135);(go_wp2_with fail);refine (cr E s _ (h.alloc _)).mono ?_;unfold iA;rintro e w1 ⟨rfl,gb⟩;have gt:=(((ct.refl h).alloc _).step gb).moved;have g1:=(ar.new w 24 bZ).below gb (by simp);(have hg:w.heap.size+1≤w1.heap.size:=by have:=gb.size;simp at this;omega);clear gb;generalize hpp:bz E.c s=pp at *;have J:=hid (show (if cm E.c s (⟨#[118,97,114]⟩:BA) then .out
  else if cm E.c s (⟨#[105,102]⟩:BA) then .out
  else if cm E.c s (⟨#[102,111,114]⟩:BA) then .out
  else if cm E.c s (⟨#[123]⟩:BA) then .out
  else if cm E.c s (⟨#[114,101,116,117,114,110]⟩:BA) then
   if eh E.c (ba s)||cm E.c (ba s) (⟨#[125]⟩:BA) then .out
   else (F.expr E.c (ba s)).bind fun x s1=>.ok (.mk 33 (⟨#[]⟩:BA) [x] pp) s1
  else .out)=res by rw [←gq.out,←hpp];rfl)
 rw [show (aE E.c s.at_).pos=pp from hpp];clear hpp gq;(go_wp2_with fail);cases gi:cm E.c s (⟨#[118,97,114]⟩:BA) with
 | true=>exact absurd (J.out.symm.trans (if_pos gi)) I.out
 | false=>
  have gx:=hid (show _=res from (if_neg (by rw [gi];decide)).symm.trans J.out);clear J;refine (da E s (⟨#[118,97,114]⟩:BA) _ gt.rd).mono ?_;rw [gi];rintro e u2 ⟨rfl,hb⟩;have O:=gt.step hb;have gn:=g1.bl hb;have g5:=hb.size;clear gi hb gt g1;(go_wp2_with fail);cases gh:cm E.c s (⟨#[105,102]⟩:BA) with
  | true=>exact absurd (gx.out.symm.trans (if_pos gh)) I.out
  | false=>
   have gw:=hid (show _=res from (if_neg (by rw [gh];decide)).symm.trans gx.out);clear gx;refine (da E s (⟨#[105,102]⟩:BA) _ O.rd).mono ?_;rw [gh];rintro e u4 ⟨rfl,hb⟩;have N:=O.step hb;have gm:=gn.bl hb;have g4:=hb.size;clear gh hb O gn;(go_wp2_with fail);cases gg:cm E.c s (⟨#[102,111,114]⟩:BA) with
   | true=>exact absurd (gw.out.symm.trans (if_pos gg)) I.out
   | false=>
    have gv:=hid (show _=res from (if_neg (by rw [gg];decide)).symm.trans gw.out);clear gw;refine (da E s (⟨#[102,111,114]⟩:BA) _ N.rd).mono ?_;rw [gg];rintro e u6 ⟨rfl,hb⟩;have M:=N.step hb;have gl:=gm.bl hb;have g3:=hb.size;clear gg hb N gm;(go_wp2_with fail);cases ge:cm E.c s (⟨#[123]⟩:BA) with
    | true=>exact absurd (gv.out.symm.trans (if_pos ge)) I.out
    | false=>
     have gu:=hid (show _=res from (if_neg (by rw [ge];decide)).symm.trans gv.out);clear gv;refine (da E s (⟨#[123]⟩:BA) _ M.rd).mono ?_;rw [ge];rintro e u8 ⟨rfl,hb⟩;have K:=M.step hb;have gk:=gl.bl hb;have g2:=hb.size;clear ge hb M gl;(go_wp2_with fail);cases gd:cm E.c s (⟨#[114,101,116,117,114,110]⟩:BA) with
     | true=>
      refine (dH E s _ _ K.rd gd).mono ?_;rintro e v9 ⟨rfl,hm⟩;have U:=K.trans hm;have gp:=gk.grown hm.gr;have ha:=hm.gr.size;have HY:=hid (gu.out.symm.trans (if_pos gd));clear gu hm K gk gd;(go_wp2_with fail);refine (tc E (ba s) _ U.rd).mono ?_;rintro e w6 ⟨rfl,j⟩;have D:=U.trans j.moved;have gj:=gp.bl j.bel;have hf:=j.bel.size;clear j U gp;cases hA:eh E.c (ba s) with
      | true=>exact absurd (show res=.out by rw [HY.out,hA];rfl) I.out
      | false=>
       (go_wp2_with fail);cases hB:cm E.c (ba s) (⟨#[125]⟩:BA) with
       | true=>exact absurd (show res=.out by rw [HY.out,hA,hB];rfl) I.out
       | false=>
        have HZ:=hid (show (F.expr E.c (ba s)).bind (fun x s1=>.ok (.mk 33 (⟨#[]⟩:BA) [x] pp) s1)=res by rw [HY.out,hA,hB];rfl);refine (da E (ba s) (⟨#[125]⟩:BA) _ D.rd).mono ?_;rw [hB];rintro e w7 ⟨rfl,ga⟩;have D:=D.step ga;have gj:=gj.bl ga;have he:=ga.size;clear HY hA hB ga;(go_wp2_with fail);cases hP:F.expr E.c (ba s) with
        | out=>exact absurd HZ.out.symm (by rw [hP];exact I.out)
        | fail q=>refine (hF.expr _ (ba s) D.rd (by rw [hP];exact nofun)).mono ?_;rw [hP];rintro e w8 ⟨rfl,g6⟩;unfold aL;exact ⟨rfl,aK (by rw [←HZ.out,hP];rfl) D.gr g6⟩
        | ok n1 s3=>have HF:=hid (show res=.ok (.mk 33 (⟨#[]⟩:BA) [n1] pp) s3 by rw [←HZ.out,hP];rfl);refine (hF.expr _ (ba s) D.rd (by rw [hP];exact nofun)).mono ?_;rw [hP];rintro e w8 ⟨⟨v,rfl,hv⟩,u⟩;obtain ⟨A8,c8,rfl,g9⟩:=hv.toC;have hc:=u.gr.size;have g0:=gj.grown u.gr;have g8:=D.trans u;clear hP HZ D gj u hv;(go_wp2_with fail);refine (cc _ _ _ _ _ ⟨_,_,_,rfl⟩).mono ?_;rintro e w9 ⟨rfl,gs⟩;have gz:=(g0.alloc _).below gs (by have:=g0.lt;simp;omega);have g7:=(g8.alloc _).step gs;obtain ⟨d0,d1,d2,d3,e0,e1,e2,e3⟩:=ac gz;(go_wp2_with fail);have hV:=ai.make 1 rfl (au.one (g9.mono (Y:=fun b=>w.heap.size+1≤b) fun b hb _=>by omega)) 33 (⟨#[]⟩:BA) pp gs;refine a6 HF.out hV g7 gz (Nat.le_refl _) gy ?_ rfl (by rfl) rfl;rintro b (⟨hb,_⟩ | rfl) <;> constructor <;> omega
     | false=>exact absurd (gu.out.symm.trans (if_neg (by rw [gd];decide))) I.out
end
end Go.Proofs.YtiebcdeafofgdaaGreatDoor
