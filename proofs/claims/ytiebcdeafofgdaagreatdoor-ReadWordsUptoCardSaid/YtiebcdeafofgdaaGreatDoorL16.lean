/-
  Parts of the proof: Look Begin Rlev Titer Tsize. By an AI agent.
-/
import Derived.Test.YtiebcdeafofgdaaGreatDoorL03
import Derived.Test.YtiebcdeafofgdaaGreatDoorL04
import Derived.Test.YtiebcdeafofgdaaGreatDoorL15
import Derived.Test.YtiebcdeafofgdaaGreatDoorL12
import Derived.Test.YtiebcdeafofgdaaGreatDoorL14
import Derived.Test.YtiebcdeafofgdaaGreatDoorL06
import Derived.Deep.LoopGhost
import Derived.BigQuiet
import Derived.RangeFuncNested
import Derived.RangeFuncBound
import Derived.RangeFuncCalls
import Derived.RangeFuncLeaves
import Derived.RangeFuncFrom
import Derived.RangeFuncKeeps
import Derived.Shelf.Abstract
import Derived.Shelf.RegionOpen
import Derived.WalkKit
import Derived.OwnWalkIn
import Derived.TacticsInMore
import Derived.LoopNIn
import Derived.LoopIn
set_option maxRecDepth 100000
set_option maxHeartbeats 8000000
namespace Go.Proofs.YtiebcdeafofgdaaGreatDoor
section
open Go.RowKit Go.Lib Go.Proofs
attribute [local go_sem ↓] Go.wp_at_zero Go.wp_at_succ
attribute [local go_sem] bg bh bi
def mm:ByteArray:=(⟨#[32,60,60,61,32,62,62,61,32,38,94,61,32,46,46,46,32,43,61,32,45,61,32,42,61,32,47,61,32,37,61,32,38,61,32,124,61,32,94,61,32,60,60,32,62,62,32,38,94,32,60,45,32,38,32,94,32,58,32]⟩:BA)
def dh (t:cK):Bool:=decide (t.kind=3)||((decide (t.kind=6)&&Lib.contains mm.data.toList ((⟨#[32]⟩++t.text++⟨#[32]⟩:ByteArray)).data.toList)||(decide (t.kind=2)&&(t.text.toList==[105,109,112,111,114,116])))
def yv (o:Option ByteArray):Bool:=match o with
 | none=>true
 | some x=>decide (1000<x.size)
def lr (t:cK):Bool:=(decide (t.kind=4)&&(fk t.text).isNone)||(decide (t.kind=5)&&yv (m9 t.text))
def B8 (a b:Option cK):Option (Int × Int):=match a with
 | some t=>some (t.pos,16)
 | none=>match b with
   | some t=>some (t.pos,4)
   | none=>none
def lS (l:List cK):Option (Int × Int):=B8 (l.find? dh) (l.find? lr)
def B9 (r:Option (Int × Int)):Value:=match r with
 | some q=>.tuple #[.int .i64 q.1,.int .i64 q.2]
 | none=>.tuple #[.int .i64 0,.int .i64 0]
theorem wm (A:Option Addr) (c:Nat) (l:List cK) (w:World) (hr:bB w w.heap.size 3 A l.length (l.flatMap nM)) (hl:l.length≤1000000) (hT:iD w) (hz:∀ t∈l,t.text.size≤65536) (gh:l.find? dh=none→∀ t∈l,t.kind≠5) :
  Calls Tryz.prog 58 #[.slice A l.length c] w fun e w'=>e=.returned (B9 (lS l))∧Below w.heap.size w w':=by
 have HR:=hid hr;have HT:=hid hT;have HZ:=hid hz;obtain ⟨q,gd⟩:∃ q,l.find? dh=q:=⟨_,rfl⟩;obtain ⟨R2,gj⟩:∃ R2,l.find? lr=R2:=⟨_,rfl⟩;have O:=hid (show lS l=B8 q R2 by rw [lS,gd,gj]);have gr:=hid gd;have H5:=hid (show q=none→∀ t∈l,t.kind≠5 by rw [←gd];exact gh);have gq:=hid gj;clear hr hT hz gd gj gh;(go_enter Tryz.func58,Tryz.ntmps58);(go_wp2_with fail);go_loopg [5,12] l.length (fun g _ u12 wr=>∃ i:Nat,i≤l.length∧l.length-i≤g∧u12=.int .i64 (i:Int)∧Below w.heap.size w wr∧(l.drop i).find? dh=q)
 case atStart=>exact ⟨0,Nat.zero_le _,by omega,rfl,Below.refl _ _,gr.out⟩
 case round=>
  clear gr;obtain ⟨i,hi,hg,rfl,hB,hq⟩:=hrel;have J:=hid hq;clear hq;by_cases I:i<l.length
  ·(have U:(i:Int)<(l.length:Int):=by omega);have gt:=hB.size;(have h0:(0:Int)≤(i:Int):=by omega);obtain ⟨bk,off,yk,gs,M⟩:=(HR.out.below hB).el fY (by omega) rfl I;subst yk;have k0:=M i I 0 _ rfl;have k1:=M i I 1 _ rfl;have k2:=M i I 2 _ rfl;simp only [Nat.add_zero] at k0;have gb:=HZ.out _ (List.getElem_mem I);have K:=hid (List.drop_eq_getElem_cons I);clear M;generalize l[i]=t at *;obtain ⟨tk,tt,tp⟩:=t;simp only at k0 k1 k2 gb;by_cases h3:tk=3
   ·subst h3;have D:dh ⟨3,tt,tp⟩=true:=rfl;have N:=hid (show q=some ⟨3,tt,tp⟩ by rw [←J.out,K.out,List.find?_cons_of_pos (by show _=true;rw [D])]);clear J;clear D;(go_wp2_with fail);go_ret2;rw [O.out,N.out];exact ⟨rfl,lJ⟩
   (have e3:(tk==3)=false:=by rw [beq_eq_false_iff_ne];exact h3);by_cases h6:tk=6
   ·subst h6;have gg:=hid (fun w' (hb:Below w.heap.size w w')=>cO mm (⟨#[32]⟩++tt++⟨#[32]⟩) w' (HT.out.below hb).tab (Nat.le_trans (show mm.size≤100 by decide +kernel) (by omega)));clear h3 e3;cases j:Lib.contains mm.data.toList ((⟨#[32]⟩++tt++⟨#[32]⟩:ByteArray)).data.toList with
    | true=>(have D:dh ⟨6,tt,tp⟩=true:=by rw [dh];simp only;rw [j];rfl);have N:=hid (show q=some ⟨6,tt,tp⟩ by rw [←J.out,K.out,List.find?_cons_of_pos (by show _=true;rw [D])]);clear J;rw [j] at gg;clear D j;(go_wp2_with fail);refine (gg.out _ lJ).mono ?_;rintro e w2 ⟨rfl,rfl⟩;(go_wp2_with fail);go_ret2;rw [O.out,N.out];exact ⟨rfl,lJ⟩
    | false=>
     (have D:dh ⟨6,tt,tp⟩=false:=by rw [dh];simp only;rw [j];rfl);have N:=hid (show (l.drop (i+1)).find? dh=q by rw [←J.out,K.out,List.find?_cons_of_neg (by show ¬ _=true;rw [D];decide)]);clear J;rw [j] at gg;clear D j;(go_wp2_with fail);refine (gg.out _ lJ).mono ?_;rintro e w2 ⟨rfl,rfl⟩;(go_wp2_with fail);go_roundg (l.length-(i+1))
     case measure=>omega
     case rel=>exact ⟨i+1,by omega,Nat.le_refl _,by go_num,lJ,N.out⟩
   (have e6:(tk==6)=false:=by rw [beq_eq_false_iff_ne];exact h6);by_cases h2:tk=2
   ·subst h2;clear h3 e3 h6 e6;cases gi:(tt.toList==[105,109,112,111,114,116]) with
    | true=>(have D:dh ⟨2,tt,tp⟩=true:=by rw [dh];simp only;rw [gi];rfl);have N:=hid (show q=some ⟨2,tt,tp⟩ by rw [←J.out,K.out,List.find?_cons_of_pos (by show _=true;rw [D])]);clear J;clear D;(go_wp2_with fail);go_ret2;rw [O.out,N.out];exact ⟨rfl,lJ⟩
    | false=>
     (have D:dh ⟨2,tt,tp⟩=false:=by rw [dh];simp only;rw [gi];rfl);have N:=hid (show (l.drop (i+1)).find? dh=q by rw [←J.out,K.out,List.find?_cons_of_neg (by show ¬ _=true;rw [D];decide)]);clear J;clear D;(go_wp2_with fail);go_roundg (l.length-(i+1))
     case measure=>omega
     case rel=>exact ⟨i+1,by omega,Nat.le_refl _,by go_num,lJ,N.out⟩
   (have e2:(tk==2)=false:=by rw [beq_eq_false_iff_ne];exact h2);(have D:dh ⟨tk,tt,tp⟩=false:=by rw [dh];simp only;rw [decide_eq_false h3,decide_eq_false h6,decide_eq_false h2];rfl);have N:=hid (show (l.drop (i+1)).find? dh=q by rw [←J.out,K.out,List.find?_cons_of_neg (by show ¬ _=true;rw [D];decide)]);clear J;clear D h3 h6 h2;(go_wp2_with fail);go_roundg (l.length-(i+1))
   case measure=>omega
   case rel=>exact ⟨i+1,by omega,Nat.le_refl _,by go_num,lJ,N.out⟩
  ·(have U:¬ (i:Int)<(l.length:Int):=by omega);have gl:=hid (show q=none by rw [←J.out,List.drop_of_length_le (by omega)];rfl);clear hi I J;(go_wp2_with fail);go_loopg [7,8,9,46] l.length (fun g _ _ _ u46 wy=>∃ i:Nat,i≤l.length∧l.length-i≤g∧u46=.int .i64 (i:Int)∧Below w.heap.size w wy∧(l.drop i).find? lr=R2)
   case atStart=>exact ⟨0,Nat.zero_le _,by omega,rfl,hB,gq.out⟩
   case round=>
    clear U hB gq;obtain ⟨i,hi,hg,rfl,hB,hq⟩:=hrel;have J:=hid hq;clear hq;by_cases I:i<l.length
    ·(have U:(i:Int)<(l.length:Int):=by omega);have gt:=hB.size;(have h0:(0:Int)≤(i:Int):=by omega);obtain ⟨bk,off,yk,gs,M⟩:=(HR.out.below hB).el fY (by omega) rfl I;subst yk;have k0:=M i I 0 _ rfl;have k1:=M i I 1 _ rfl;have k2:=M i I 2 _ rfl;simp only [Nat.add_zero] at k0;have gb:=HZ.out _ (List.getElem_mem I);have gm:=H5.out gl.out _ (List.getElem_mem I);have K:=hid (List.drop_eq_getElem_cons I);clear M;generalize l[i]=t at *;obtain ⟨tk,tt,tp⟩:=t;simp only at k0 k1 k2 gb;have h5:¬ tk=5:=gm;clear gm;by_cases h4:tk=4
     ·subst h4;have ge:=hid (fun w'=>pq tt w' gb);cases h:fk tt with
      | some x=>
       (have D:lr ⟨4,tt,tp⟩=false:=by rw [lr];simp only;rw [h];rfl);have N:=hid (show (l.drop (i+1)).find? lr=R2 by rw [←J.out,K.out,List.find?_cons_of_neg (by show ¬ _=true;rw [D];decide)]);clear J;rw [h] at ge;clear D h;(go_wp2_with fail);refine (ge.out _).mono ?_;rintro e w2 ⟨u,rfl⟩;have ga:Below w.heap.size w w2:=Below.trans lJ (u.mono (by simp;omega));have gp:=ga.size;(go_wp2_with fail);go_roundg (l.length-(i+1))
       case measure=>omega
       case rel=>exact ⟨i+1,by omega,Nat.le_refl _,by go_num,ga,N.out⟩
      | none=>(have D:lr ⟨4,tt,tp⟩=true:=by rw [lr];simp only;rw [h];rfl);have N:=hid (show R2=some ⟨4,tt,tp⟩ by rw [←J.out,K.out,List.find?_cons_of_pos (by show _=true;rw [D])]);clear J;rw [h] at ge;clear D h;(go_wp2_with fail);refine (ge.out _).mono ?_;rintro e w2 ⟨u,n,hn,rfl⟩;have ga:Below w.heap.size w w2:=Below.trans lJ (u.mono (by simp;omega));have gp:=ga.size;have gn:=(ar.new wr 43 #[.int .i64 4,.string tt,.int .i64 tp]).below u (by simp);have z2:w2.cell? ⟨wr.heap.size,2,none⟩=some (.int .i64 tp):=(gn.cell 2).trans rfl;(have gi:(n != 0)=true:=by rw [bne_iff_ne];exact hn);clear u gn hn;(go_wp2_with fail);go_ret2;rw [O.out,gl.out,N.out];exact ⟨rfl,ga⟩
     (have e4:(tk==4)=false:=by rw [beq_eq_false_iff_ne];exact h4);(have e5:(tk==5)=false:=by rw [beq_eq_false_iff_ne];exact h5);(have D:lr ⟨tk,tt,tp⟩=false:=by rw [lr];simp only;rw [decide_eq_false h4,decide_eq_false h5];rfl);have N:=hid (show (l.drop (i+1)).find? lr=R2 by rw [←J.out,K.out,List.find?_cons_of_neg (by show ¬ _=true;rw [D];decide)]);clear J;clear D h4 h5;(go_wp2_with fail);go_roundg (l.length-(i+1))
     case measure=>omega
     case rel=>exact ⟨i+1,by omega,Nat.le_refl _,by go_num,lJ,N.out⟩
    ·(have U:¬ (i:Int)<(l.length:Int):=by omega);have N:=hid (show R2=none by rw [←J.out,List.drop_of_length_le (by omega)];rfl);(go_wp2_with fail);go_ret2;rw [O.out,gl.out,N.out];exact ⟨rfl,hB⟩
end
section
open Go.RowKit Go.Lib Go.Proofs
attribute [local go_sem ↓] Go.wp_at_zero Go.wp_at_succ
def bV (s:ByteArray):nj:=match di s with
 | .err p n=>.err p n
 | .toks L=>match lS L with
   | some q=>.err q.1 q.2
   | none=>.toks L
structure rL (E:cw) (w:World) (s:ByteArray) (L:List cK):Prop where
 c:E.c=⟨L,(s.size:Int)⟩
 at_:aW E w ⟨0,false,-1⟩
 base:E.w0.heap.size≤E.R
 tab:iD E.w0
 small:∀ t∈E.c.toks,t.text.size≤65536
 few:L.length≤65537
def AD (s:ByteArray) (w:World) (r:nj) (e:Ending) (w':World):Prop:=match r with
 | .err p n=>e=.returned (.tuple #[.pointer none,.int .i64 p,.int .i64 n])∧Below w.heap.size w w'
 | .toks L=>∃ E:cw,e=.returned (.tuple #[.pointer (some ⟨E.R,0,none⟩),.int .i64 0,.int .i64 0])∧rL E w' s L∧w.heap.size≤E.R∧Below w.heap.size w w'
theorem tO {L:List cK} {q:Int × Int} (h:lS L=some q):q.2≠0:=by
 unfold lS B8 at h;split at h
 ·injection h with h;subst h;exact (by decide:(16:Int)≠0)
 ·split at h
  ·injection h with h;subst h;exact (by decide:(4:Int)≠0)
  ·cases h
theorem rM (A0:Option Addr) (c:Nat) (s:ByteArray) (w:World) (hv:du w A0 c s) (hT:iD w) (h:s.size≤1000000000) (D:∀ L,di s=.toks L→L.find? dh=none→∀ t∈L,t.kind≠5) :
  Calls Tryz.prog 30 #[.slice A0 s.size c] w (AD s w (bV s)):=by
 have j:=hid (tG A0 c s w hv hT h);have HT:=hid hT;obtain ⟨O,hO⟩:∃ O,bV s=O:=⟨_,rfl⟩;rw [hO];have HO:=hid hO;clear hT hv hO;cases hs:di s with
 | err p n=>have M:=hid (show O=.err p n by rw [←HO.out,bV,hs]);have hn:=nS hs;(have N:(n != 0)=true:=by rw [bne_iff_ne];omega);rw [hs] at j;clear HO hs hn D;(go_enter Tryz.func30,Tryz.ntmps30);(go_wp2_with fail);refine j.out.mono ?_;rintro e w1 ⟨rfl,hB⟩;(go_wp2_with fail);go_ret3;rw [M.out];exact ⟨rfl,hB⟩
 | toks L=>
  have HZ:=hid (tH hs);have H5:=hid (D L hs);have HL:=hid (show (match lS L with
   | some q=>nj.err q.1 q.2
   | none=>.toks L)=O by rw [←HO.out,bV,hs])
  rw [hs] at j;clear HO hs D;(go_enter Tryz.func30,Tryz.ntmps30);(go_wp2_with fail);refine j.out.mono ?_;rintro e w1 ⟨A,cp,rfl,ga,U,hr,hB⟩;have u:=hid (wm A cp L w1 hr (by omega) (HT.out.below hB) HZ.out H5.out);have HR:=hid hr;clear j hr;(go_wp2_with fail);refine u.out.mono ?_;rintro e w2 ⟨rfl,K⟩;have J:=am hB K;have gd:=hid (HR.out.below K);clear u HR;cases I:lS L with
  | some q=>have M:=hid (show O=.err q.1 q.2 by rw [←HL.out,I]);have hq:=tO I;(have N:(q.2 != 0)=true:=by rw [bne_iff_ne];exact hq);obtain ⟨q1,q2⟩:=q;simp only at N M;clear hq I HL;unfold B9;simp only;(go_wp2_with fail);go_ret3;rw [M.out];exact ⟨rfl,J⟩
  | none=>have M:=hid (show O=.toks L by rw [←HL.out,I]);have gb:=hid (HT.out.below J);clear I HL;unfold B9;simp only;(go_wp2_with fail);go_ret3;rw [M.out];refine ⟨⟨w2.heap.size,A,cp,⟨L,(s.size:Int)⟩,w2⟩,rfl,⟨rfl,⟨ar.new _ _ _,?_,Nat.zero_le _,by show L.length≤1000000;omega,ga,fun b hb=>Below.heap_alloc w2 _ b hb⟩,Nat.le_refl _,gb.out,HZ.out,U⟩,J.size,J.alloc J.size _⟩;exact Aw (gd.out.below ((Below.refl w1.heap.size w2).alloc K.size _)) K.size
def cd (w:World) (g:Nat) (l:List ByteArray):Prop:=∀ i (h:i<l.length),w.cell? ⟨g,i,none⟩=some (.string l[i])
theorem cd.of_blk {w:World} {g:Nat} {t:TypeId} {l:List ByteArray} {C:Array Value} (e:C=(l.map Value.string).toArray) (h:ar w g t C):cd w g l:=by subst e;intro i hi;have:=h.cell i;rw [this];simp [hi]
theorem cd.below {w w':World} {g:Nat} {l:List ByteArray} (h:cd w g l) (hb:Below w.heap.size w w'):cd w' g l:=fun i hi=>cell_kept hb (h i hi)
theorem cd.grown {w w':World} {R g:Nat} {l:List ByteArray} (h:cd w g l) (D:w.grownBy w' (some R)) (I:g≠R):cd w' g l:=fun i hi=>D.cell (h i hi) (fun e=>I (by injection e))
def Gv (l:List ByteArray) (x:ByteArray) (w:World) (e:Ending) (w':World):Prop:=∃ r:Int,e=.returned (.int .i64 r)∧decide (0≤r)=(l.any fun y=>decide (x=y))∧w=w'
theorem Gw (x:ByteArray) (l:List ByteArray) (g c:Nat) (w:World) (j:l.length≤1000) (h:cd w g l) :
  Calls Tryz.prog 139 #[.slice (some ⟨g,0,none⟩) l.length c,.string x] w (Gv l x w):=by
 have H:=hid h;clear h;(go_enter Tryz.func139,Tryz.ntmps139);(go_wp2_with fail);go_loopg [5,8] l.length (fun k _ u8 wr=>∃ i:Nat,i≤l.length∧l.length-i≤k∧u8=.int .i64 (i:Int)∧w=wr∧(l.take i).any (fun y=>decide (x=y))=false)
 case atStart=>exact ⟨0,Nat.zero_le _,by omega,rfl,rfl,rfl⟩
 case round=>
  obtain ⟨i,u,q,rfl,rfl,M⟩:=hrel;by_cases D:i<l.length
  ·(have J:(i:Int)<(l.length:Int):=by omega);(have h0:(0:Int)≤(i:Int):=by omega);have hc:=H.out i D;have O:=hid (show (l.take (i+1)).any (fun y=>decide (x=y))=decide (x=l[i]) by rw [List.take_succ_eq_append_getElem D,List.any_append,M];simp);have U:=hid (show decide (x=l[i])=true→l.any (fun y=>decide (x=y))=true by intro hd;rw [List.any_eq_true];exact ⟨_,List.getElem_mem D,hd⟩);clear M;generalize l[i]=y at *;cases I:decide (x=y) with
   | true=>(have N:(x.toList==y.toList)=true:=by rw [cU];simpa using I);have K:=hid (U.out I);clear I U O;(go_wp2_with fail);go_ret;exact ⟨(i:Int),rfl,by rw [K.out];simp,rfl⟩
   | false=>
    (have N:(x.toList==y.toList)=false:=by rw [cU];simpa using I);have K:=hid (O.out.trans I);clear I U O;(go_wp2_with fail);go_roundg (l.length-(i+1))
    case measure=>omega
    case rel=>exact ⟨i+1,by omega,Nat.le_refl _,by go_num,rfl,K.out⟩
  ·(have J:¬ (i:Int)<(l.length:Int):=by omega);have K:=hid (show l.any (fun y=>decide (x=y))=false by rw [←M,List.take_of_length_le (by omega)]);clear M;(go_wp2_with fail);go_ret;exact ⟨-1,rfl,by rw [K.out];rfl,rfl⟩
theorem EN (x:ByteArray) (l:List ByteArray) (g c:Nat) (w:World) (M:l.length≤1000) (h:cd w g l) :
  Calls Tryz.prog 93 #[.slice (some ⟨g,0,none⟩) l.length c,.string x] w fun e w'=>e=.returned (.bool (l.any fun y=>decide (x=y)))∧w=w':=by
 have K:=hid (Gw x l g c w M h);obtain ⟨bb,D⟩:∃ bb,bb=l.any fun y=>decide (x=y):=⟨_,rfl⟩
 rw [←D];have I:=hid D;clear h D;(go_enter Tryz.func93,Tryz.ntmps93);(go_wp2_with fail);refine K.out.mono ?_;rintro e w' ⟨r,rfl,J,rfl⟩;have N:=hid (I.out.trans J.symm);clear J K I;(go_wp2_with fail);go_ret;exact ⟨by rw [N.out];rfl,rfl⟩
structure tZ (w:World) (a b c d e:Nat):Prop where
 l0:cd w a (uO 5)
 l1:cd w b (uO 4)
 l2:cd w c (uO 3)
 l3:cd w d (uO 2)
 l4:cd w e (uO 1)
theorem tZ.below {w w':World} {a b c d e:Nat} (h:tZ w a b c d e) (hb:Below w.heap.size w w'):tZ w' a b c d e:=
 ⟨h.l0.below hb,h.l1.below hb,h.l2.below hb,h.l3.below hb,h.l4.below hb⟩
def Cw (a b c d e:Nat):Value:=.agg #[.slice (some ⟨a,0,none⟩) 1 1,.slice (some ⟨b,0,none⟩) 1 1,.slice (some ⟨c,0,none⟩) 6 6,.slice (some ⟨d,0,none⟩) 2 2,.slice (some ⟨e,0,none⟩) 3 3]
def EO (w:World) (e:Ending) (w':World):Prop:=∃ a b c d f:Nat,e=.returned (Cw a b c d f)∧tZ w' a b c d f∧(w.heap.size≤a∧w.heap.size≤b∧w.heap.size≤c∧w.heap.size≤d∧w.heap.size≤f)∧Below w.heap.size w w'
theorem pD (w:World):Calls Tryz.prog 91 #[] w (EO w):=by (go_enter Tryz.func91,Tryz.ntmps91);(go_wp2_with fail);have hb:Below w.heap.size w ((((((w.alloc (.cells #[.slice (some ⟨w.heap.size+1,0,none⟩) 1 1,.slice (some ⟨w.heap.size+1+1,0,none⟩) 1 1,.slice (some ⟨w.heap.size+1+1+1,0,none⟩) 6 6,.slice (some ⟨w.heap.size+1+1+1+1,0,none⟩) 2 2,.slice (some ⟨w.heap.size+1+1+1+1+1,0,none⟩) 3 3] 96)).alloc (.cells #[.string (⟨#[124,124]⟩:BA)] 9)).alloc (.cells #[.string (⟨#[38,38]⟩:BA)] 9)).alloc (.cells #[.string (⟨#[61,61]⟩:BA),.string (⟨#[33,61]⟩:BA),.string (⟨#[60]⟩:BA),.string (⟨#[60,61]⟩:BA),.string (⟨#[62]⟩:BA),.string (⟨#[62,61]⟩:BA)] 9)).alloc (.cells #[.string (⟨#[43]⟩:BA),.string (⟨#[45]⟩:BA)] 9)).alloc (.cells #[.string (⟨#[42]⟩:BA),.string (⟨#[47]⟩:BA),.string (⟨#[37]⟩:BA)] 9)):=bel;have M:ar ((w.alloc (.cells #[.slice (some ⟨w.heap.size+1,0,none⟩) 1 1,.slice (some ⟨w.heap.size+1+1,0,none⟩) 1 1,.slice (some ⟨w.heap.size+1+1+1,0,none⟩) 6 6,.slice (some ⟨w.heap.size+1+1+1+1,0,none⟩) 2 2,.slice (some ⟨w.heap.size+1+1+1+1+1,0,none⟩) 3 3] 96)).alloc (.cells #[.string (⟨#[124,124]⟩:BA)] 9)) (w.heap.size+1) 9 #[.string (⟨#[124,124]⟩:BA)]:=ar.new_at (by simp) _ _;have K:ar (((w.alloc (.cells #[.slice (some ⟨w.heap.size+1,0,none⟩) 1 1,.slice (some ⟨w.heap.size+1+1,0,none⟩) 1 1,.slice (some ⟨w.heap.size+1+1+1,0,none⟩) 6 6,.slice (some ⟨w.heap.size+1+1+1+1,0,none⟩) 2 2,.slice (some ⟨w.heap.size+1+1+1+1+1,0,none⟩) 3 3] 96)).alloc (.cells #[.string (⟨#[124,124]⟩:BA)] 9)).alloc (.cells #[.string (⟨#[38,38]⟩:BA)] 9)) (w.heap.size+1+1) 9 #[.string (⟨#[38,38]⟩:BA)]:=ar.new_at (by simp) _ _;have J:=ar.new_at (w:=((w.alloc (.cells #[.slice (some ⟨w.heap.size+1,0,none⟩) 1 1,.slice (some ⟨w.heap.size+1+1,0,none⟩) 1 1,.slice (some ⟨w.heap.size+1+1+1,0,none⟩) 6 6,.slice (some ⟨w.heap.size+1+1+1+1,0,none⟩) 2 2,.slice (some ⟨w.heap.size+1+1+1+1+1,0,none⟩) 3 3] 96)).alloc (.cells #[.string (⟨#[124,124]⟩:BA)] 9)).alloc (.cells #[.string (⟨#[38,38]⟩:BA)] 9)) (n:=w.heap.size+1+1+1) (by simp) 9 #[.string (⟨#[61,61]⟩:BA),.string (⟨#[33,61]⟩:BA),.string (⟨#[60]⟩:BA),.string (⟨#[60,61]⟩:BA),.string (⟨#[62]⟩:BA),.string (⟨#[62,61]⟩:BA)];have I:=ar.new_at (w:=(((w.alloc (.cells #[.slice (some ⟨w.heap.size+1,0,none⟩) 1 1,.slice (some ⟨w.heap.size+1+1,0,none⟩) 1 1,.slice (some ⟨w.heap.size+1+1+1,0,none⟩) 6 6,.slice (some ⟨w.heap.size+1+1+1+1,0,none⟩) 2 2,.slice (some ⟨w.heap.size+1+1+1+1+1,0,none⟩) 3 3] 96)).alloc (.cells #[.string (⟨#[124,124]⟩:BA)] 9)).alloc (.cells #[.string (⟨#[38,38]⟩:BA)] 9)).alloc (.cells #[.string (⟨#[61,61]⟩:BA),.string (⟨#[33,61]⟩:BA),.string (⟨#[60]⟩:BA),.string (⟨#[60,61]⟩:BA),.string (⟨#[62]⟩:BA),.string (⟨#[62,61]⟩:BA)] 9)) (n:=w.heap.size+1+1+1+1) (by simp) 9 #[.string (⟨#[43]⟩:BA),.string (⟨#[45]⟩:BA)];have D:=ar.new_at (w:=((((w.alloc (.cells #[.slice (some ⟨w.heap.size+1,0,none⟩) 1 1,.slice (some ⟨w.heap.size+1+1,0,none⟩) 1 1,.slice (some ⟨w.heap.size+1+1+1,0,none⟩) 6 6,.slice (some ⟨w.heap.size+1+1+1+1,0,none⟩) 2 2,.slice (some ⟨w.heap.size+1+1+1+1+1,0,none⟩) 3 3] 96)).alloc (.cells #[.string (⟨#[124,124]⟩:BA)] 9)).alloc (.cells #[.string (⟨#[38,38]⟩:BA)] 9)).alloc (.cells #[.string (⟨#[61,61]⟩:BA),.string (⟨#[33,61]⟩:BA),.string (⟨#[60]⟩:BA),.string (⟨#[60,61]⟩:BA),.string (⟨#[62]⟩:BA),.string (⟨#[62,61]⟩:BA)] 9)).alloc (.cells #[.string (⟨#[43]⟩:BA),.string (⟨#[45]⟩:BA)] 9)) (n:=w.heap.size+1+1+1+1+1) (by simp) 9 #[.string (⟨#[42]⟩:BA),.string (⟨#[47]⟩:BA),.string (⟨#[37]⟩:BA)];refine bodyPost_ret (v:=Cw (w.heap.size+1) (w.heap.size+1+1) (w.heap.size+1+1+1) (w.heap.size+1+1+1+1) (w.heap.size+1+1+1+1+1)) (by simp [results,Cw,Tryz.results91,go_sem]) rfl ?_;exact ⟨_,_,_,_,_,rfl,⟨cd.of_blk rfl ((((M.alloc _).alloc _).alloc _).alloc _),cd.of_blk rfl (((K.alloc _).alloc _).alloc _),cd.of_blk rfl ((J.alloc _).alloc _),cd.of_blk rfl (I.alloc _),cd.of_blk rfl D⟩,⟨by omega,by omega,by omega,by omega,by omega⟩,hb⟩
end
section
open Go.RowKit Go.Lib Go.Proofs Go.Shelf
attribute [local go_sem ↓] Go.wp_at_zero Go.wp_at_succ
attribute [local go_sem] Oper.semAt_some
structure rP (n₀ OB:Nat) (W W':World):Prop where
 bel:Below n₀ W W'
 row:∀ k,k≠OB→(∃ c t f,W.heap[k]? = some (.cells c t f))→W'.heap[k]? = W.heap[k]?
theorem rP.trans {n₀ OB:Nat} {A B C:World} (h:rP n₀ OB A B) (k:rP n₀ OB B C):rP n₀ OB A C:=
 ⟨h.bel.trans k.bel,fun j hj D=>by have e:=h.row j hj D;obtain ⟨c,t,f,D⟩:=D;exact (k.row j hj ⟨c,t,f,e.trans D⟩).trans e⟩
theorem rP.refl (n₀ OB:Nat) (W:World):rP n₀ OB W W:=⟨Below.refl _ _,fun _ _ _=>rfl⟩
theorem rP.alloc {n₀ OB:Nat} {A W:World} (h:rP n₀ OB A W) (I:n₀≤W.heap.size) (o:Obj):rP n₀ OB A (W.alloc o):=
 h.trans ⟨(Below.refl _ _).alloc I o,fun k _ D=>by obtain ⟨c,t,f,D⟩:=D;exact Below.heap_alloc W o k (Array.getElem?_eq_some_iff.1 D).1⟩
theorem rP.blk {n₀ OB:Nat} {W W':World} (h:rP n₀ OB W W') {b:Nat} {t:TypeId} {cs:Array Value} (hb:ar W b t cs) (D:b≠OB):ar W' b t cs:=
 (h.row b D ⟨cs,t,(0,0),hb⟩).trans hb
theorem yE {n₀ OB:Nat} {w:World} (K:n₀≤w.heap.size) (W:World) (l:Nat) (o o':Obj) (M:w.heap.size≤l) (h:W.heap[l]? = some o) (I:o.isCells=false) (J:o.isWalk=false):rP n₀ OB W (W.putObj l o'):=
 ⟨belowK_b K W l o o' M h I J,fun k _ D=>by obtain ⟨c,t,f,D⟩:=D;refine World.putObj_heap_other (fun e=>?_);subst e;rw [h] at D;injection D with D;subst D;cases I⟩
abbrev YV:=Value × { k:Nat // k≤1000 }
def rQ (x:YV):Array Value:=#[x.1,.int .i64 (x.2.1:Int)]
theorem EL (l n₀ OB N:Nat) (J Jx:List YV→World→Prop) (hJ:∀ s W o,J s W→J s (W.alloc o))
  (hY:∀ m pre x W,J pre W→pre.length<N→YieldAt Fence.wide m Tryz.prog l (rQ x) W fun e W'=>(e=.returned (.bool true)∧J (pre++[x]) W'∧rP n₀ OB W W')∨(e=.returned (.bool false)∧Jx (pre++[x]) W')) :
  ∀ (g k:Nat) (v:Value) (n:Nd) (pre:List YV) (W:World),g≤1000→ai (· < n₀) W v n→nN g n→J pre W→n₀≤W.heap.size→OB<W.heap.size→pre.length+(aF g n).length≤N →
    CallsIn Fence.wide k Tryz.prog 177 #[v,.int .i64 (g:Int),.func (.yield l) #[] #[]] W fun e W'=>
     (e=.returned (.bool true)∧(∃ ys,ys.map (·.2.1)=aF g n∧J (pre++ys) W')∧rP n₀ OB W W')∨(e=.returned (.bool false)∧∃ q,Jx q W'):=by
 intro g;induction g with
 | zero=>
  intro k v n pre W _ hv _ O hn _ _;obtain ⟨A,cp,rfl,hC⟩:=hv.toC;have M:=hid (hJ _ _ (.cells (nv n A cp) 24) O);refine callsIn_of_wp Tryz.func177 rfl trivial ?_ rfl;simp only [Tryz.ntmps177,List.size_toArray,List.length_cons,List.length_nil,Nat.reduceAdd,Nat.reduceSub,Array.replicate_succ,Array.replicate_zero,List.push_toArray,List.append_toArray,List.nil_append,List.cons_append]
  gi_wp2
  go_ret;exact .inl ⟨rfl,⟨[],rfl,by simpa using M.out⟩,(rP.refl _ _ _).alloc hn _⟩
 | succ g ih=>
  intro k v n pre W hg hv hw O hn hob hN;have gp:=hv;obtain ⟨A,cp,rfl,hC⟩:=hv.toC;(have gn:∀ k:Nat,((Fence.wide).depth.isSome=true→1≤k):=fun k h=>by cases h);have M:=hid (hJ _ _ (.cells (nv n A cp) 24) O);have b1:=(ae W (nv n A cp)).2;(have hz:((g:Int)+1==0)=false:=by simp;omega);rw [aF,List.length_cons] at hN;obtain ⟨fn,tmps,assign,body,hy,hR⟩:=hY (k-1) pre (.agg (nv n A cp),⟨g+1,hg⟩) _ M.out (by omega);refine callsIn_of_wp Tryz.func177 rfl trivial ?_ rfl;simp only [Tryz.ntmps177,List.size_toArray,List.length_cons,List.length_nil,Nat.reduceAdd,Nat.reduceSub,Array.replicate_succ,Array.replicate_zero,List.push_toArray,List.append_toArray,List.nil_append,List.cons_append];have gu:(Instr.yield l #[.agg (nv n A cp),.int .i64 ((g:Int)+1)]).run Tryz.prog (W.alloc (.cells (nv n A cp) 24))=.ok (.round l fn tmps assign body) (W.alloc (.cells (nv n A cp) 24)):=hy;have HN:=hid hN;have HW:=hid hw;have HV:=hid gp;have HH:=hid hY;have HI:=hid ih;have g1:=hid hJ;have gs:=hid ((rP.refl n₀ OB W).alloc hn (.cells (nv n A cp) 24));clear hy gp hv hC hN hw O hY ih hJ
  gi_wp2
  refine ⟨gn _,hR.mono ?_⟩;rintro e W1 (⟨rfl,gm,K⟩ | ⟨rfl,ge⟩)
  case inr=>
   have gy:=hid ge;clear ge
   gi_wp2
   go_ret;exact .inr ⟨rfl,_,gy.out⟩
  have c1:=K.blk b1 (by omega);obtain ⟨x0,x1,x2,x3,_,_,_,_⟩:=ac c1;have g4:=hid gm;have g0:=hid (gs.out.trans K);have gv:=K.bel.size;simp at gv;clear hR gm K M gu b1 gs
  gi_wp2
  generalize hpre:pre++[((.agg (nv n A cp):Value),(⟨g+1,hg⟩ : { k:Nat // k≤1000 }))]=D at *;(have gh:D.length=pre.length+1:=by rw [←hpre];simp);have gr:=hid hpre;clear hpre;have g6:=HW.out.1.1
  gi_loopw [8,19] (fun _ u19 wr=>∃ (i:Nat) (ys:List YV),i≤n.kids.length∧u19=.int .i64 (i:Int)∧ys.map (·.2.1)=(n.kids.take i).flatMap (aF g)∧J (D++ys) wr∧rP n₀ OB W wr) (fun _ u19 _=>n.kids.length-(RowKit.intOf u19).toNat)
  case atStart=>exact ⟨0,[],Nat.zero_le _,rfl,rfl,by simpa using g4.out,g0.out⟩
  case round=>
   clear x0 x1 x2 x3 c1;obtain ⟨i,ys,hi,rfl,ga,O,hk⟩:=hrel;have U:=hid ga;have gt:=hid O;clear ga O;by_cases I:i<n.kids.length
   ·(have gg:(i:Int)<(n.kids.length:Int):=by omega);(have h0:(0:Int)≤(i:Int):=by omega);obtain ⟨b,off,A1,gq,rfl,g7,g8,k0,k1,k2,k3,gj⟩:=(HV.out.keep (fun b hb _=>hk.bel.block b hb)).kidsV.kid i I;have HM:=hid (List.getElem_mem I);have j:=hid (show (n.kids.take (i+1)).flatMap (aF g)=(n.kids.take i).flatMap (aF g)++aF g n.kids[i] by rw [List.take_succ_eq_append_getElem I,List.flatMap_append];simp);(have gi:((n.kids.take (i+1)).flatMap (aF g)).length≤(n.kids.flatMap (aF g)).length:=by (conv=>rhs;rw [←List.take_append_drop (i+1) n.kids,List.flatMap_append]);rw [List.length_append];omega);generalize n.kids[i]=x at *;(have gb:ys.length=((n.kids.take i).flatMap (aF g)).length:=by rw [←U.out,List.length_map]);have g5:=hk.bel.size;have HC:=hid (HI.out (k-1) _ x (D++ys) _ (by omega) (gj.keep (w':=wr.alloc (.cells (nv x A1 gq) 24)) (fun b _ I=>Below.heap_alloc wr _ b I)) (HW.out.2 x HM.out) (g1.out _ _ (.cells (nv x A1 gq) 24) gt.out) (by simp;omega) (by simp;omega) (by have:=HN.out;rw [j.out,List.length_append] at gi;rw [List.length_append,gh,gb];omega));clear gj gi gb
    gi_wp2
    refine ⟨trivial,gn _,HC.out.mono ?_⟩;rintro e W2 (⟨rfl,⟨zs,u,gl⟩,yk⟩ | ⟨rfl,q,gd⟩)
    case inr=>
     have gx:=hid gd;clear gd
     gi_wp2
     go_ret;exact .inr ⟨rfl,_,gx.out⟩
    have HZ:=hid (show (ys++zs).map (·.2.1)=(n.kids.take (i+1)).flatMap (aF g) by rw [List.map_append,U.out,u,j.out]);have g3:=hid (show J (D++(ys++zs)) W2 by rw [←List.append_assoc];exact gl);have gz:=hid ((hk.alloc (by omega) _).trans yk);clear HC u gl yk j k0 k1 k2 k3
    gi_wp2
    go_roundw
    case rel=>exact ⟨i+1,ys++zs,by omega,by go_num,HZ.out,g3.out,gz.out⟩
    case measure=>simp [RowKit.intOf];omega
   ·(have gg:¬ (i:Int)<(n.kids.length:Int):=by omega);have ht:n.kids.take i=n.kids:=List.take_of_length_le (by omega);have gw:=hid (show (((.agg (nv n A cp):Value),(⟨g+1,hg⟩ : { k:Nat // k≤1000 }))::ys).map (·.2.1)=aF (g+1) n by rw [aF,List.map_cons,U.out,ht]);have g2:=hid (show J (pre++((.agg (nv n A cp):Value),(⟨g+1,hg⟩ : { k:Nat // k≤1000 }))::ys) wr by have:=gt.out;rw [←gr.out,List.append_assoc] at this;simpa using this);clear ht
    gi_wp2
    go_ret;exact .inl ⟨rfl,⟨_,gw.out,g2.out⟩,hk⟩
theorem rR (l n₀ OB k g:Nat) (v:Value) (n:Nd) (J Jx:List YV→World→Prop) (hJ:∀ s W o,J s W→J s (W.alloc o))
  (hY:∀ pre x W,J pre W→pre.length<(aF g n).length→YieldAt Fence.wide (k-1) Tryz.prog l (rQ x) W fun e W'=>(e=.returned (.bool true)∧J (pre++[x]) W'∧rP n₀ OB W W')∨(e=.returned (.bool false)∧Jx (pre++[x]) W'))
  (W:World) (bn bd:Nat) (A:Option Addr) (cp:Nat) (he:v=.agg (nv n A cp)) (hg:g≤1000) (I:ar W bn 24 (nv n A cp)) (K:ar W bd 3 #[.int .i64 (g:Int)])
  (hv:ai (· < n₀) W v n) (hw:nN g n) (hn:n₀≤W.heap.size) (O:OB<W.heap.size) (h0:J [] W) :
  CallsIn Fence.wide k Tryz.prog 176 #[.func (.yield l) #[] #[],.pointer (some ⟨bn,0,none⟩),.pointer (some ⟨bd,0,none⟩)] W fun e W'=>(∃ v,e=.returned v)∧((∃ ys,ys.map (·.2.1)=aF g n∧J ys W')∨(∃ q:List YV,True∧Jx q W')):=by
 (have U:∀ k:Nat,((Fence.wide).depth.isSome=true→1≤k):=fun k h=>by cases h);have N:=hid (EL l n₀ OB (aF g n).length J Jx hJ (fun m pre x W M hl=>by obtain ⟨fn,tmps,assign,body,hy,hR⟩:=hY pre x W M hl;exact ⟨fn,tmps,assign,body,hy,⟨hR.1,fun c cs _=>hR.2 c cs (fun d h=>by cases h)⟩⟩) g (k-1) v n [] W hg hv hw h0 hn O (by simp));obtain ⟨x0,x1,x2,x3,_,_,_,_⟩:=ac I;have hd:=bc K;subst he;clear hv hY hJ I K hw;refine callsIn_of_wp Tryz.func176 rfl trivial ?_ rfl;simp only [Tryz.ntmps176,List.size_toArray,List.length_cons,List.length_nil,Nat.reduceAdd,Nat.reduceSub,Array.replicate_succ,Array.replicate_zero,List.push_toArray,List.append_toArray,List.nil_append,List.cons_append]
 gi_wp2
 refine ⟨trivial,U _,N.out.mono ?_⟩;rintro e W1 (⟨rfl,⟨ys,D,M⟩,hk⟩ | ⟨rfl,q,hx⟩)
 ·have j:=hid D;have u:=hid M;clear D M N
  gi_wp2
  go_end0;exact ⟨⟨_,rfl⟩,.inl ⟨ys,j.out,by simpa using u.out⟩⟩
 ·have HX:=hid hx;clear hx N
  gi_wp2
  go_end0;exact ⟨⟨_,rfl⟩,.inr ⟨q,trivial,HX.out⟩⟩
theorem tV (k:Nat) (v:Value) (d:Int) (n:Nd) (w:World) (D:ax w v n) :
  CallsIn Fence.wide k Tryz.prog 125 #[v,.int .i64 d] w fun e w'=>e=.returned (.func (.func 176) #[] #[.pointer (some ⟨w.heap.size,0,none⟩),.pointer (some ⟨w.heap.size+1,0,none⟩)])∧w'=(w.alloc (.cells v.cells 24)).alloc (.cells #[.int .i64 d] 3):=by
 obtain ⟨A,cp,rfl,I⟩:=D.toC;clear D I;refine callsIn_of_wp Tryz.func125 rfl trivial ?_ rfl;simp only [Tryz.ntmps125,List.size_toArray,List.length_cons,List.length_nil,Nat.reduceAdd,Nat.reduceSub,Array.replicate_succ,Array.replicate_zero,List.push_toArray,List.append_toArray,List.nil_append,List.cons_append]
 gi_wp2
 go_ret;exact ⟨rfl,rfl⟩
theorem py (a:Array Value) (w:World):(callFunc 176 a).run Tryz.prog w=.ok (.enter 176 a) w:=by kernel_rfl
theorem IG (p q:Nat) (a b:Value) (t:Array Value):((#[p,q]:Array Nat).zip #[a,b]).foldl (fun t x=>t.setIfInBounds x.fst x.snd) t=(t.setIfInBounds p a).setIfInBounds q b:=by simp
theorem Co (w:World) (c:Array Value) (k:Int):ar ((((w.alloc (.cells c 24)).alloc (.cells #[.int .i64 0] 3)).alloc (.cells c 24)).alloc (.cells #[.int .i64 k] 3)) (w.heap.size+1) 3 #[.int .i64 0]∧ar ((((w.alloc (.cells c 24)).alloc (.cells #[.int .i64 0] 3)).alloc (.cells c 24)).alloc (.cells #[.int .i64 k] 3)) (w.heap.size+1+1) 24 c∧ar ((((w.alloc (.cells c 24)).alloc (.cells #[.int .i64 0] 3)).alloc (.cells c 24)).alloc (.cells #[.int .i64 k] 3)) (w.heap.size+1+1+1) 3 #[.int .i64 k] ∧
 Below w.heap.size w ((((w.alloc (.cells c 24)).alloc (.cells #[.int .i64 0] 3)).alloc (.cells c 24)).alloc (.cells #[.int .i64 k] 3))∧((((w.alloc (.cells c 24)).alloc (.cells #[.int .i64 0] 3)).alloc (.cells c 24)).alloc (.cells #[.int .i64 k] 3)).heap.size=w.heap.size+4:=⟨((ar.new_at (by simp) _ _).alloc _).alloc _,(ar.new_at (by simp) _ _).alloc _,ar.new_at (by simp) _ _,lJ,by simp⟩
theorem Cp (v:Value) (n:Nd) (w:World) (hv:ax w v n) (hw:nN 100 n) (M:(aF 100 n).length≤1000000000) :
  CallsIn Fence.wide 9 Tryz.prog 83 #[v] w fun e w'=>e=.returned (.int .i64 ((aF 100 n).length:Int))∧Below w.heap.size w w':=by
 have U:=hv;obtain ⟨A,cp,rfl,hC⟩:=hv.toC;have O:ai (· < w.heap.size) w _ n:=U.mono fun b _ h=>h;have HV:=hid O;have HW:=hid hw;have HC:=hid M;clear U hv hC O hw M;refine callsIn_of_wp_marks Tryz.func83 rfl trivial ?_ rfl;simp only [Tryz.ntmps83,List.size_toArray,List.length_cons,List.length_nil,Nat.reduceAdd,Nat.reduceSub,Array.replicate_succ,Array.replicate_zero,List.push_toArray,List.append_toArray,List.nil_append,List.cons_append]
 gi_wp2
 refine ⟨trivial,(tV 8 _ 100 n _ ((HV.out.wide).below lJ)).mono ?_⟩;simp only [Value.cells];rintro e w1 ⟨rfl,rfl⟩;obtain ⟨u,o2,o3,hB,hz⟩:=Co w (nv n A cp) 100
 gi_wp2
 generalize (((w.alloc (.cells (nv n A cp) 24)).alloc (.cells #[.int .i64 0] 3)).alloc (.cells (nv n A cp) 24)).alloc (.cells #[.int .i64 100] 3)=q at *;have I:SeqStopsK Fence.wide (9-1) Tryz.prog 176 #[.pointer (some ⟨w.heap.size+1+1,0,none⟩),.pointer (some ⟨w.heap.size+1+1+1,0,none⟩)] rQ (rP w.heap.size (w.heap.size+1)) (fun ys=>ys.map (·.2.1)=aF 100 n) (fun _=>True) (aF 100 n).length q:=
  fun l J Jx W N hJ hJx hY h0=>rR l w.heap.size (w.heap.size+1) 8 100 _ n J Jx (fun s W o hs=>hJ s W _ none hs (World.grownBy_alloc W o none) (fun r e=>by cases e)) hY W _ _ A cp rfl (by omega) (o2.below N (by omega)) (o3.below N (by omega))
   (HV.out.keep fun b hb _=>(N.block b (by omega)).trans (hB.block b hb)) HW.out (Nat.le_trans hB.size N.size) (by have:=N.size;omega) h0
 have j:=hid I;obtain ⟨oc,of⟩:q.cell? ⟨w.heap.size+1,0,none⟩=some (.int .i64 0)∧q.frozen? ⟨w.heap.size+1,0,none⟩=false:=⟨bc u,u.frozen 0⟩;clear I u o2 o3;refine wpIn_rangeFunc_ownF (w0:=q) rfl (by omega) (gf:=176) (lb:=#[.pointer (some ⟨w.heap.size+1+1,0,none⟩),.pointer (some ⟨w.heap.size+1+1+1,0,none⟩)]) rfl trivial py j.out (fun h k=>h.trans k) (fun W l o o'=>yE hB.size W l o o') (Below.refl _ _) (fun _=>rfl)
  (fun pre W=>(W.cell? ⟨w.heap.size+1,0,none⟩=some (.int .i64 (pre.length:Int))∧W.frozen? ⟨w.heap.size+1,0,none⟩=false)∧Below w.heap.size w W) (fun _ _ _=>False)
  (OwnFrom.and (Own.from (fun s A B row hs hg hr=>⟨Go.cell_kept hs.1 hg hr,(Go.frozen_kept hs.1 hg hr).trans hs.2⟩) _) (ownFrom_below (Nat.le_refl _) (by omega)))
  (fun _ _ _ _ _ hs _ _=>hs) ⟨⟨oc,of⟩,hB⟩
  (fun x => { tmps:=#[.agg (nv n A cp),.pointer (some ⟨w.heap.size,0,none⟩),.int .i64 0,.pointer (some ⟨w.heap.size+1,0,none⟩),.agg (nv n A cp),
   .func (.func 176) #[] #[.pointer (some ⟨w.heap.size+1+1,0,none⟩),.pointer (some ⟨w.heap.size+1+1+1,0,none⟩)],x.1,.int .i64 (x.2.1:Int),undef,undef,undef],defers:=[] }) ?assign ?body ?done ?stop
 case assign=>
  intro l x W K hK;unfold rQ
  gi_wp2
  rw [IG];exact hK
 case body=>
  rintro l pre x W ⟨⟨M,hf⟩,hb⟩ hl;have ga:=Nat.lt_of_lt_of_le hl HC.out;have HB:=hid hb;have gb:=hb.size;clear hb hl
  gi_wp2
  refine ⟨KeepsOthers.setCell _ _ _,⟨(Below.refl _ _).setCell (p:=⟨w.heap.size+1,0,none⟩) (by show w.heap.size≤w.heap.size+1;omega) _,fun k hk _=>Below.heap_setCell W ⟨w.heap.size+1,0,none⟩ _ k hk⟩,⟨?_,?_⟩,HB.out.setCell (p:=⟨w.heap.size+1,0,none⟩) (by show w.heap.size≤w.heap.size+1;omega) _⟩
  ·rw [World.cell?_setCell_same' _ _ _ (by rw [M];rfl)];simp
  ·rw [World.frozen?_setCell];exact hf
 case done=>
  rintro D ys W hD hys ⟨⟨M,hf⟩,hb⟩ hK;have HB:=hid (hb.trans (yE (OB:=0) hB.size W D _ (.deferred none) hD hK rfl rfl).bel);have HY:=hid (show ys.length=(aF 100 n).length by rw [←hys,List.length_map]);clear hb hys
  gi_wp2
  refine ⟨by simp,.inl ⟨_,_,rfl,run_takeDeferred hK,?_⟩⟩;exact ⟨_,results_tmp rfl _ _ _,by rw [←HY.out];rfl,HB.out⟩
 case stop=>rintro D c pre W _ _ h _;exact h.elim
def Gs (l:List Nat):Nat:=l.foldl (fun d l=>max d (102-l)) 0
theorem Cq (l:List Nat) (x:Nat):Gs (l++[x])=max (Gs l) (102-x):=by unfold Gs;rw [List.foldl_append];rfl
theorem Gt (l:List Nat):Gs l≤102:=((iB l 0 102).2 ⟨by omega,fun _ _=>by omega⟩)
theorem AJ (v:Value) (n:Nd) (w:World) (u:ax w v n) (hw:nN 101 n) :
  CallsIn Fence.wide 9 Tryz.prog 82 #[v] w fun e w'=>e=.returned (.int .i64 (d7 n:Int))∧Below w.heap.size w w':=by
 have O:=u;obtain ⟨A,cp,rfl,hC⟩:=u.toC;have N:ai (· < w.heap.size) w _ n:=O.mono fun b _ h=>h;have HV:=hid N;have HW:=hid hw;clear O u hC N hw;refine callsIn_of_wp_marks Tryz.func82 rfl trivial ?_ rfl;simp only [Tryz.ntmps82,List.size_toArray,List.length_cons,List.length_nil,Nat.reduceAdd,Nat.reduceSub,Array.replicate_succ,Array.replicate_zero,List.push_toArray,List.append_toArray,List.nil_append,List.cons_append]
 gi_wp2
 refine ⟨trivial,(tV 8 _ 101 n _ ((HV.out.wide).below lJ)).mono ?_⟩;simp only [Value.cells];rintro e w1 ⟨rfl,rfl⟩;obtain ⟨q,o2,o3,hB,hz⟩:=Co w (nv n A cp) 101
 gi_wp2
 generalize (((w.alloc (.cells (nv n A cp) 24)).alloc (.cells #[.int .i64 0] 3)).alloc (.cells (nv n A cp) 24)).alloc (.cells #[.int .i64 101] 3)=j at *;have I:SeqStopsK Fence.wide (9-1) Tryz.prog 176 #[.pointer (some ⟨w.heap.size+1+1,0,none⟩),.pointer (some ⟨w.heap.size+1+1+1,0,none⟩)] rQ (rP w.heap.size (w.heap.size+1)) (fun ys=>ys.map (·.2.1)=aF 101 n) (fun _=>True) (aF 101 n).length j:=
  fun l J Jx W M hJ hJx hY h0=>rR l w.heap.size (w.heap.size+1) 8 101 _ n J Jx (fun s W o hs=>hJ s W _ none hs (World.grownBy_alloc W o none) (fun r e=>by cases e)) hY W _ _ A cp rfl (by omega) (o2.below M (by omega)) (o3.below M (by omega))
   (HV.out.keep fun b hb _=>(M.block b (by omega)).trans (hB.block b hb)) HW.out (Nat.le_trans hB.size M.size) (by have:=M.size;omega) h0
 have U:=hid I;obtain ⟨oc,of⟩:j.cell? ⟨w.heap.size+1,0,none⟩=some (.int .i64 0)∧j.frozen? ⟨w.heap.size+1,0,none⟩=false:=⟨bc q,q.frozen 0⟩;clear I q o2 o3;refine wpIn_rangeFunc_ownF (w0:=j) rfl (by omega) (gf:=176) (lb:=#[.pointer (some ⟨w.heap.size+1+1,0,none⟩),.pointer (some ⟨w.heap.size+1+1+1,0,none⟩)]) rfl trivial py U.out (fun h k=>h.trans k) (fun W l o o'=>yE hB.size W l o o') (Below.refl _ _) (fun _=>rfl)
  (fun pre W=>(W.cell? ⟨w.heap.size+1,0,none⟩=some (.int .i64 (Gs (pre.map (·.2.1)):Int))∧W.frozen? ⟨w.heap.size+1,0,none⟩=false)∧Below w.heap.size w W) (fun _ _ _=>False)
  (OwnFrom.and (Own.from (fun s A B row hs hg hr=>⟨Go.cell_kept hs.1 hg hr,(Go.frozen_kept hs.1 hg hr).trans hs.2⟩) _) (ownFrom_below (Nat.le_refl _) (by omega)))
  (fun _ _ _ _ _ hs _ _=>hs) ⟨⟨oc,of⟩,hB⟩
  (fun x => { tmps:=#[.agg (nv n A cp),.pointer (some ⟨w.heap.size,0,none⟩),.int .i64 0,.pointer (some ⟨w.heap.size+1,0,none⟩),undef,.int .i64 (x.2.1:Int),.agg (nv n A cp),
   .func (.func 176) #[] #[.pointer (some ⟨w.heap.size+1+1,0,none⟩),.pointer (some ⟨w.heap.size+1+1+1,0,none⟩)],x.1,.int .i64 (x.2.1:Int),undef,undef,undef,undef,undef],defers:=[] }) ?assign ?body ?done ?stop
 case assign=>
  intro l x W K hK;unfold rQ
  gi_wp2
  exact hK
 case body=>
  rintro l pre x W ⟨⟨hc,hf⟩,hb⟩ hl;have ga:=x.2.2;have gb:=Gt (pre.map (·.2.1));have HS:=hid (Cq (pre.map (·.2.1)) x.2.1);generalize Gs (pre.map (·.2.1))=dd at *;have HB:=hid hb;have gd:=hb.size;clear hb hl
  gi_wp2
  refine ⟨KeepsOthers.setCell _ _ _,⟨(Below.refl _ _).setCell (p:=⟨w.heap.size+1,0,none⟩) (by show w.heap.size≤w.heap.size+1;omega) _,fun k hk _=>Below.heap_setCell W ⟨w.heap.size+1,0,none⟩ _ k hk⟩,⟨?_,?_⟩,HB.out.setCell (p:=⟨w.heap.size+1,0,none⟩) (by show w.heap.size≤w.heap.size+1;omega) _⟩
  ·rw [World.cell?_setCell_same' _ _ _ (by rw [hc];rfl),List.map_append,List.map_singleton,HS.out];rw [show max (dd:Int) (102-(x.2.1:Int))=((max dd (102-x.2.1):Nat):Int) by omega]
  ·rw [World.frozen?_setCell];exact hf
 case done=>
  rintro D ys W hD hys ⟨⟨hc,hf⟩,hb⟩ hK;have HB:=hid (hb.trans (yE (OB:=0) hB.size W D _ (.deferred none) hD hK rfl rfl).bel);have HY:=hid (show Gs (ys.map (·.2.1))=d7 n by rw [hys];rfl);clear hb hys
  gi_wp2
  refine ⟨by simp,.inl ⟨_,_,rfl,run_takeDeferred hK,?_⟩⟩;exact ⟨_,results_tmp rfl _ _ _,by rw [←HY.out];rfl,HB.out⟩
 case stop=>rintro D c pre W _ _ h _;exact h.elim
end
end Go.Proofs.YtiebcdeafofgdaaGreatDoor
