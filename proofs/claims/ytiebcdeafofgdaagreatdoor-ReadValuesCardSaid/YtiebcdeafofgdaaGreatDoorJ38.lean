/-
  Parts of the proof: Lok Look Begin Rlev. By an AI agent.
-/
import Derived.Test.YtiebcdeafofgdaaGreatDoorJ27
import Derived.Test.YtiebcdeafofgdaaGreatDoorJ25
import Derived.Test.YtiebcdeafofgdaaGreatDoorJ36
import Derived.Test.YtiebcdeafofgdaaGreatDoorJ08
import Derived.Test.YtiebcdeafofgdaaGreatDoorJ14
import Derived.Test.YtiebcdeafofgdaaGreatDoorJ23
import Derived.Test.YtiebcdeafofgdaaGreatDoorJ33
import Derived.Deep.LoopGhost
import Derived.BigQuiet
set_option maxRecDepth 100000
set_option maxHeartbeats 8000000
namespace Go.Proofs.YtiebcdeafofgdaaGreatDoor
section
open Go.RowKit Go.Lib Go.Proofs
theorem iq.old {E:bN} {w:World} (h:iq E.w0) (hE:E.w0.heap.size≤E.R) (I:GS E w):iq w:=by
 have D:E.w0.heap.size≤w.heap.size:=by
  by_cases N:E.w0.heap.size=0
  ·omega
  ·have J:=I (E.w0.heap.size-1) (by omega);have M:E.w0.heap[E.w0.heap.size-1]? = some (E.w0.heap[E.w0.heap.size-1]'(by omega)):=Array.getElem?_eq_getElem (by omega);rw [M] at J;have:=(Array.getElem?_eq_some_iff.mp J).1;omega
 have hb:Below E.w0.heap.size E.w0 { E.w0 with heap:=w.heap } := ⟨rfl,rfl,rfl,D,fun b hb=>I b (by omega)⟩
 exact ⟨(h.below hb).tab,(h.below hb).u8⟩
theorem DQ (E:bN) (hT:iq E.w0) (hE:E.w0.heap.size≤E.R) (D:∀ t∈E.c.toks,t.text.size≤65536):CW E:=by
 constructor
 ·intro t ht _ w hO;refine (sY t.text w (D t ht)).mono ?_;rintro e w' ⟨J,h⟩;refine ⟨?_,J⟩;rw [mL];cases I:lW t.text with
  | some x=>rw [I] at h;exact ⟨_,h⟩
  | none=>rw [I] at h;obtain ⟨n,_,rfl⟩:=h;exact ⟨_,rfl⟩
 ·intro t ht _ w hO;have M:=D t ht;refine (rW t.text w (hT.old hE hO) (by omega)).mono ?_;rintro e w' ⟨J,h⟩;refine ⟨?_,J⟩;rw [i8];cases I:ef t.text with
  | some x=>rw [I] at h;exact ⟨_,h⟩
  | none=>rw [I] at h;obtain ⟨n,_,rfl⟩:=h;exact ⟨_,rfl⟩
end
section
open Go.RowKit Go.Lib Go.Proofs
attribute [local go_sem ↓] Go.wp_at_zero Go.wp_at_succ
attribute [local go_sem] aG aH aI
def sv:ByteArray:=(⟨#[32,60,60,61,32,62,62,61,32,38,94,61,32,46,46,46,32,43,61,32,45,61,32,42,61,32,47,61,32,37,61,32,38,61,32,124,61,32,94,61,32,60,60,32,62,62,32,38,94,32,60,45,32,38,32,94,32,58,32]⟩:BA)
def iV (t:bE):Bool:=decide (t.kind=3)||((decide (t.kind=6)&&Lib.contains sv.data.toList ((⟨#[32]⟩++t.text++⟨#[32]⟩:ByteArray)).data.toList)||(decide (t.kind=2)&&(t.text.toList==[105,109,112,111,114,116])))
def wY (o:Option ByteArray):Bool:=match o with
 | none=>true
 | some x=>decide (1000<x.size)
def iK (t:bE):Bool:=(decide (t.kind=4)&&(lW t.text).isNone)||(decide (t.kind=5)&&wY (ef t.text))
def CX (a b:Option bE):Option (Int × Int):=match a with
 | some t=>some (t.pos,16)
 | none=>match b with
   | some t=>some (t.pos,4)
   | none=>none
def eW (l:List bE):Option (Int × Int):=CX (l.find? iV) (l.find? iK)
def Fm (r:Option (Int × Int)):Value:=match r with
 | some q=>.tuple #[.int .i64 q.1,.int .i64 q.2]
 | none=>.tuple #[.int .i64 0,.int .i64 0]
theorem Cc (A:Option Addr) (c:Nat) (l:List bE) (w:World) (hr:ce w w.heap.size 3 A l.length (l.flatMap mx)) (hl:l.length≤1000000) (hT:iq w) (hz:∀ t∈l,t.text.size≤65536) :
  Calls Tryz.prog 58 #[.slice A l.length c] w fun e w'=>e=.returned (Fm (eW l))∧Below w.heap.size w w':=by
 have HR:=hid hr;have HT:=hid hT;have HZ:=hid hz;obtain ⟨R1,gn⟩:∃ R1,l.find? iV=R1:=⟨_,rfl⟩;obtain ⟨R2,gm⟩:∃ R2,l.find? iK=R2:=⟨_,rfl⟩;have q:=hid (show eW l=CX R1 R2 by rw [eW,gn,gm]);have gr:=hid gn;have gq:=hid gm;clear hr hT hz gn gm;(go_enter Tryz.func58,Tryz.ntmps58);(go_wp2_with fail);go_loopg [5,12] l.length (fun g _ u12 wr=>∃ i:Nat,i≤l.length∧l.length-i≤g∧u12=.int .i64 (i:Int)∧Below w.heap.size w wr∧(l.drop i).find? iV=R1)
 case atStart=>exact ⟨0,Nat.zero_le _,by omega,rfl,Below.refl _ _,gr.out⟩
 case round=>
  clear gr;obtain ⟨i,hi,hg,rfl,hB,hq⟩:=hrel;have O:=hid hq;clear hq;by_cases M:i<l.length
  ·(have ga:(i:Int)<(l.length:Int):=by omega);have gu:=hB.size;(have h0:(0:Int)≤(i:Int):=by omega);obtain ⟨bk,off,gp,gs,y⟩:=(HR.out.below hB).el eg (by omega) rfl M;subst gp;have k0:=y i M 0 _ rfl;have k1:=y i M 1 _ rfl;have k2:=y i M 2 _ rfl;simp only [Nat.add_zero] at k0;have gg:=HZ.out _ (List.getElem_mem M);have U:=hid (List.drop_eq_getElem_cons M);clear y;generalize l[i]=t at *;obtain ⟨tk,tt,tp⟩:=t;simp only at k0 k1 k2 gg;by_cases h3:tk=3
   ·subst h3;have D:iV ⟨3,tt,tp⟩=true:=rfl;have h:=hid (show R1=some ⟨3,tt,tp⟩ by rw [←O.out,U.out,List.find?_cons_of_pos (by show _=true;rw [D])]);clear O;clear D;(go_wp2_with fail);go_ret2;rw [q.out,h.out];exact ⟨rfl,by (repeat' (first | with_reducible assumption | with_reducible exact Below.refl _ _ | with_reducible refine Below.alloc ?_ ?_ _ | with_reducible refine Below.setCell ?_ ?_ _ | with_reducible refine Below.drew ?_ | with_reducible refine al ?_ _ | (simp <;> omega) | omega))⟩
   (have e3:(tk==3)=false:=by rw [beq_eq_false_iff_ne];exact h3);by_cases h6:tk=6
   ·subst h6;have gl:=hid (fun w' (hb:Below w.heap.size w w')=>dO sv (⟨#[32]⟩++tt++⟨#[32]⟩) w' (HT.out.below hb).tab (Nat.le_trans (show sv.size≤100 by decide +kernel) (by omega)));clear h3 e3;cases gd:Lib.contains sv.data.toList ((⟨#[32]⟩++tt++⟨#[32]⟩:ByteArray)).data.toList with
    | true=>(have D:iV ⟨6,tt,tp⟩=true:=by rw [iV];simp only;rw [gd];rfl);have h:=hid (show R1=some ⟨6,tt,tp⟩ by rw [←O.out,U.out,List.find?_cons_of_pos (by show _=true;rw [D])]);clear O;rw [gd] at gl;clear D gd;(go_wp2_with fail);refine (gl.out _ (by (repeat' (first | with_reducible assumption | with_reducible exact Below.refl _ _ | with_reducible refine Below.alloc ?_ ?_ _ | with_reducible refine Below.setCell ?_ ?_ _ | with_reducible refine Below.drew ?_ | with_reducible refine al ?_ _ | (simp <;> omega) | omega)))).mono ?_;rintro e w2 ⟨rfl,rfl⟩;(go_wp2_with fail);go_ret2;rw [q.out,h.out];exact ⟨rfl,by (repeat' (first | with_reducible assumption | with_reducible exact Below.refl _ _ | with_reducible refine Below.alloc ?_ ?_ _ | with_reducible refine Below.setCell ?_ ?_ _ | with_reducible refine Below.drew ?_ | with_reducible refine al ?_ _ | (simp <;> omega) | omega))⟩
    | false=>
     (have D:iV ⟨6,tt,tp⟩=false:=by rw [iV];simp only;rw [gd];rfl);have h:=hid (show (l.drop (i+1)).find? iV=R1 by rw [←O.out,U.out,List.find?_cons_of_neg (by show ¬ _=true;rw [D];decide)]);clear O;rw [gd] at gl;clear D gd;(go_wp2_with fail);refine (gl.out _ (by (repeat' (first | with_reducible assumption | with_reducible exact Below.refl _ _ | with_reducible refine Below.alloc ?_ ?_ _ | with_reducible refine Below.setCell ?_ ?_ _ | with_reducible refine Below.drew ?_ | with_reducible refine al ?_ _ | (simp <;> omega) | omega)))).mono ?_;rintro e w2 ⟨rfl,rfl⟩;(go_wp2_with fail);go_roundg (l.length-(i+1))
     case measure=>omega
     case rel=>exact ⟨i+1,by omega,Nat.le_refl _,by go_num,by (repeat' (first | with_reducible assumption | with_reducible exact Below.refl _ _ | with_reducible refine Below.alloc ?_ ?_ _ | with_reducible refine Below.setCell ?_ ?_ _ | with_reducible refine Below.drew ?_ | with_reducible refine al ?_ _ | (simp <;> omega) | omega)),h.out⟩
   (have e6:(tk==6)=false:=by rw [beq_eq_false_iff_ne];exact h6);by_cases h2:tk=2
   ·subst h2;clear h3 e3 h6 e6;cases gh:(tt.toList==[105,109,112,111,114,116]) with
    | true=>(have D:iV ⟨2,tt,tp⟩=true:=by rw [iV];simp only;rw [gh];rfl);have h:=hid (show R1=some ⟨2,tt,tp⟩ by rw [←O.out,U.out,List.find?_cons_of_pos (by show _=true;rw [D])]);clear O;clear D;(go_wp2_with fail);go_ret2;rw [q.out,h.out];exact ⟨rfl,by (repeat' (first | with_reducible assumption | with_reducible exact Below.refl _ _ | with_reducible refine Below.alloc ?_ ?_ _ | with_reducible refine Below.setCell ?_ ?_ _ | with_reducible refine Below.drew ?_ | with_reducible refine al ?_ _ | (simp <;> omega) | omega))⟩
    | false=>
     (have D:iV ⟨2,tt,tp⟩=false:=by rw [iV];simp only;rw [gh];rfl);have h:=hid (show (l.drop (i+1)).find? iV=R1 by rw [←O.out,U.out,List.find?_cons_of_neg (by show ¬ _=true;rw [D];decide)]);clear O;clear D;(go_wp2_with fail);go_roundg (l.length-(i+1))
     case measure=>omega
     case rel=>exact ⟨i+1,by omega,Nat.le_refl _,by go_num,by (repeat' (first | with_reducible assumption | with_reducible exact Below.refl _ _ | with_reducible refine Below.alloc ?_ ?_ _ | with_reducible refine Below.setCell ?_ ?_ _ | with_reducible refine Below.drew ?_ | with_reducible refine al ?_ _ | (simp <;> omega) | omega)),h.out⟩
   (have e2:(tk==2)=false:=by rw [beq_eq_false_iff_ne];exact h2);(have D:iV ⟨tk,tt,tp⟩=false:=by rw [iV];simp only;rw [decide_eq_false h3,decide_eq_false h6,decide_eq_false h2];rfl);have h:=hid (show (l.drop (i+1)).find? iV=R1 by rw [←O.out,U.out,List.find?_cons_of_neg (by show ¬ _=true;rw [D];decide)]);clear O;clear D h3 h6 h2;(go_wp2_with fail);go_roundg (l.length-(i+1))
   case measure=>omega
   case rel=>exact ⟨i+1,by omega,Nat.le_refl _,by go_num,by (repeat' (first | with_reducible assumption | with_reducible exact Below.refl _ _ | with_reducible refine Below.alloc ?_ ?_ _ | with_reducible refine Below.setCell ?_ ?_ _ | with_reducible refine Below.drew ?_ | with_reducible refine al ?_ _ | (simp <;> omega) | omega)),h.out⟩
  ·(have ga:¬ (i:Int)<(l.length:Int):=by omega);have gj:=hid (show R1=none by rw [←O.out,List.drop_of_length_le (by omega)];rfl);clear hi M O;(go_wp2_with fail);go_loopg [7,8,9,46] l.length (fun g _ _ _ u46 wy=>∃ i:Nat,i≤l.length∧l.length-i≤g∧u46=.int .i64 (i:Int)∧Below w.heap.size w wy∧(l.drop i).find? iK=R2)
   case atStart=>exact ⟨0,Nat.zero_le _,by omega,rfl,hB,gq.out⟩
   case round=>
    clear ga hB gq;obtain ⟨i,hi,hg,rfl,hB,hq⟩:=hrel;have O:=hid hq;clear hq;by_cases M:i<l.length
    ·(have ga:(i:Int)<(l.length:Int):=by omega);have gu:=hB.size;(have h0:(0:Int)≤(i:Int):=by omega);obtain ⟨bk,off,gp,gs,y⟩:=(HR.out.below hB).el eg (by omega) rfl M;subst gp;have k0:=y i M 0 _ rfl;have k1:=y i M 1 _ rfl;have k2:=y i M 2 _ rfl;simp only [Nat.add_zero] at k0;have gg:=HZ.out _ (List.getElem_mem M);have U:=hid (List.drop_eq_getElem_cons M);clear y;generalize l[i]=t at *;obtain ⟨tk,tt,tp⟩:=t;simp only at k0 k1 k2 gg;by_cases h4:tk=4
     ·subst h4;have gk:=hid (fun w'=>sY tt w' gg);cases J:lW tt with
      | some x=>
       (have D:iK ⟨4,tt,tp⟩=false:=by rw [iK];simp only;rw [J];rfl);have h:=hid (show (l.drop (i+1)).find? iK=R2 by rw [←O.out,U.out,List.find?_cons_of_neg (by show ¬ _=true;rw [D];decide)]);clear O;rw [J] at gk;clear D J;(go_wp2_with fail);refine (gk.out _).mono ?_;rintro e w2 ⟨I,rfl⟩;have N:Below w.heap.size w w2:=Below.trans (by (repeat' (first | with_reducible assumption | with_reducible exact Below.refl _ _ | with_reducible refine Below.alloc ?_ ?_ _ | with_reducible refine Below.setCell ?_ ?_ _ | with_reducible refine Below.drew ?_ | with_reducible refine al ?_ _ | (simp <;> omega) | omega))) (I.mono (by simp;omega));have gb:=N.size;(go_wp2_with fail);go_roundg (l.length-(i+1))
       case measure=>omega
       case rel=>exact ⟨i+1,by omega,Nat.le_refl _,by go_num,N,h.out⟩
      | none=>(have D:iK ⟨4,tt,tp⟩=true:=by rw [iK];simp only;rw [J];rfl);have h:=hid (show R2=some ⟨4,tt,tp⟩ by rw [←O.out,U.out,List.find?_cons_of_pos (by show _=true;rw [D])]);clear O;rw [J] at gk;clear D J;(go_wp2_with fail);refine (gk.out _).mono ?_;rintro e w2 ⟨I,n,hn,rfl⟩;have N:Below w.heap.size w w2:=Below.trans (by (repeat' (first | with_reducible assumption | with_reducible exact Below.refl _ _ | with_reducible refine Below.alloc ?_ ?_ _ | with_reducible refine Below.setCell ?_ ?_ _ | with_reducible refine Below.drew ?_ | with_reducible refine al ?_ _ | (simp <;> omega) | omega))) (I.mono (by simp;omega));have gb:=N.size;have z:=(aj.new wr 43 #[.int .i64 4,.string tt,.int .i64 tp]).below I (by simp);have z2:w2.cell? ⟨wr.heap.size,2,none⟩=some (.int .i64 tp):=(z.cell 2).trans rfl;(have gh:(n != 0)=true:=by rw [bne_iff_ne];exact hn);clear I z hn;(go_wp2_with fail);go_ret2;rw [q.out,gj.out,h.out];exact ⟨rfl,N⟩
     (have e4:(tk==4)=false:=by rw [beq_eq_false_iff_ne];exact h4);by_cases h5:tk=5
     ·subst h5;have ge:=hid (fun w' (gt:Below w.heap.size w w')=>rW tt w' (HT.out.below gt) (by omega));clear h4;cases J:ef tt with
      | some x=>
       rw [J] at ge;by_cases gi:1000<x.size
       ·(have D:iK ⟨5,tt,tp⟩=true:=by rw [iK];simp only;rw [J,wY];simp only [decide_eq_true gi];rfl);(have hd:decide ((1000:Int)<(x.size:Int))=true:=by rw [decide_eq_true_iff];omega);have h:=hid (show R2=some ⟨5,tt,tp⟩ by rw [←O.out,U.out,List.find?_cons_of_pos (by show _=true;rw [D])]);clear O;clear D J gi;(go_wp2_with fail);refine (ge.out _ (by (repeat' (first | with_reducible assumption | with_reducible exact Below.refl _ _ | with_reducible refine Below.alloc ?_ ?_ _ | with_reducible refine Below.setCell ?_ ?_ _ | with_reducible refine Below.drew ?_ | with_reducible refine al ?_ _ | (simp <;> omega) | omega)))).mono ?_;rintro e w2 ⟨I,rfl⟩;have N:Below w.heap.size w w2:=Below.trans (by (repeat' (first | with_reducible assumption | with_reducible exact Below.refl _ _ | with_reducible refine Below.alloc ?_ ?_ _ | with_reducible refine Below.setCell ?_ ?_ _ | with_reducible refine Below.drew ?_ | with_reducible refine al ?_ _ | (simp <;> omega) | omega))) (I.mono (by simp;omega));have gb:=N.size;have z:=(aj.new wr 43 #[.int .i64 5,.string tt,.int .i64 tp]).below I (by simp);have z2:w2.cell? ⟨wr.heap.size,2,none⟩=some (.int .i64 tp):=(z.cell 2).trans rfl;clear I z;(go_wp2_with fail);go_ret2;rw [q.out,gj.out,h.out];exact ⟨rfl,N⟩
       ·(have D:iK ⟨5,tt,tp⟩=false:=by rw [iK];simp only;rw [J,wY];simp only [decide_eq_false gi];rfl);(have hd:decide ((1000:Int)<(x.size:Int))=false:=by rw [decide_eq_false_iff_not];omega);have h:=hid (show (l.drop (i+1)).find? iK=R2 by rw [←O.out,U.out,List.find?_cons_of_neg (by show ¬ _=true;rw [D];decide)]);clear O;clear D J gi;(go_wp2_with fail);refine (ge.out _ (by (repeat' (first | with_reducible assumption | with_reducible exact Below.refl _ _ | with_reducible refine Below.alloc ?_ ?_ _ | with_reducible refine Below.setCell ?_ ?_ _ | with_reducible refine Below.drew ?_ | with_reducible refine al ?_ _ | (simp <;> omega) | omega)))).mono ?_;rintro e w2 ⟨I,rfl⟩;have N:Below w.heap.size w w2:=Below.trans (by (repeat' (first | with_reducible assumption | with_reducible exact Below.refl _ _ | with_reducible refine Below.alloc ?_ ?_ _ | with_reducible refine Below.setCell ?_ ?_ _ | with_reducible refine Below.drew ?_ | with_reducible refine al ?_ _ | (simp <;> omega) | omega))) (I.mono (by simp;omega));have gb:=N.size;clear I;(go_wp2_with fail);go_roundg (l.length-(i+1))
        case measure=>omega
        case rel=>exact ⟨i+1,by omega,Nat.le_refl _,by go_num,N,h.out⟩
      | none=>(have D:iK ⟨5,tt,tp⟩=true:=by rw [iK];simp only;rw [J];rfl);have h:=hid (show R2=some ⟨5,tt,tp⟩ by rw [←O.out,U.out,List.find?_cons_of_pos (by show _=true;rw [D])]);clear O;rw [J] at ge;clear D J;(go_wp2_with fail);refine (ge.out _ (by (repeat' (first | with_reducible assumption | with_reducible exact Below.refl _ _ | with_reducible refine Below.alloc ?_ ?_ _ | with_reducible refine Below.setCell ?_ ?_ _ | with_reducible refine Below.drew ?_ | with_reducible refine al ?_ _ | (simp <;> omega) | omega)))).mono ?_;rintro e w2 ⟨I,n,hn,rfl⟩;have N:Below w.heap.size w w2:=Below.trans (by (repeat' (first | with_reducible assumption | with_reducible exact Below.refl _ _ | with_reducible refine Below.alloc ?_ ?_ _ | with_reducible refine Below.setCell ?_ ?_ _ | with_reducible refine Below.drew ?_ | with_reducible refine al ?_ _ | (simp <;> omega) | omega))) (I.mono (by simp;omega));have gb:=N.size;have z:=(aj.new wr 43 #[.int .i64 5,.string tt,.int .i64 tp]).below I (by simp);have z2:w2.cell? ⟨wr.heap.size,2,none⟩=some (.int .i64 tp):=(z.cell 2).trans rfl;(have gh:(n != 0)=true:=by rw [bne_iff_ne];exact hn);clear I z hn;(go_wp2_with fail);go_ret2;rw [q.out,gj.out,h.out];exact ⟨rfl,N⟩
     (have e5:(tk==5)=false:=by rw [beq_eq_false_iff_ne];exact h5);(have D:iK ⟨tk,tt,tp⟩=false:=by rw [iK];simp only;rw [decide_eq_false h4,decide_eq_false h5];rfl);have h:=hid (show (l.drop (i+1)).find? iK=R2 by rw [←O.out,U.out,List.find?_cons_of_neg (by show ¬ _=true;rw [D];decide)]);clear O;clear D h4 h5;(go_wp2_with fail);go_roundg (l.length-(i+1))
     case measure=>omega
     case rel=>exact ⟨i+1,by omega,Nat.le_refl _,by go_num,by (repeat' (first | with_reducible assumption | with_reducible exact Below.refl _ _ | with_reducible refine Below.alloc ?_ ?_ _ | with_reducible refine Below.setCell ?_ ?_ _ | with_reducible refine Below.drew ?_ | with_reducible refine al ?_ _ | (simp <;> omega) | omega)),h.out⟩
    ·(have ga:¬ (i:Int)<(l.length:Int):=by omega);have h:=hid (show R2=none by rw [←O.out,List.drop_of_length_le (by omega)];rfl);(go_wp2_with fail);go_ret2;rw [q.out,gj.out,h.out];exact ⟨rfl,hB⟩
end
section
open Go.RowKit Go.Lib Go.Proofs
attribute [local go_sem ↓] Go.wp_at_zero Go.wp_at_succ
def bv (s:ByteArray):iY:=match cr s with
 | .err p n=>.err p n
 | .toks L=>match eW L with
   | some q=>.err q.1 q.2
   | none=>.toks L
structure uL (E:bN) (w:World) (s:ByteArray) (L:List bE):Prop where
 c:E.c=⟨L,(s.size:Int)⟩
 at_:aD E w ⟨0,false,-1⟩
 base:E.w0.heap.size≤E.R
 tab:iq E.w0
 small:∀ t∈E.c.toks,t.text.size≤65536
 few:L.length≤65537
def DR (s:ByteArray) (w:World) (r:iY) (e:Ending) (w':World):Prop:=match r with
 | .err p n=>e=.returned (.tuple #[.pointer none,.int .i64 p,.int .i64 n])∧Below w.heap.size w w'
 | .toks L=>∃ E:bN,e=.returned (.tuple #[.pointer (some ⟨E.R,0,none⟩),.int .i64 0,.int .i64 0])∧uL E w' s L∧w.heap.size≤E.R∧Below w.heap.size w w'
theorem Aw {L:List bE} {q:Int × Int} (h:eW L=some q):q.2≠0:=by
 unfold eW CX at h;split at h
 ·injection h with h;subst h;exact (by decide:(16:Int)≠0)
 ·split at h
  ·injection h with h;subst h;exact (by decide:(4:Int)≠0)
  ·cases h
theorem uM (A0:Option Addr) (c:Nat) (s:ByteArray) (w:World) (hv:dr w A0 c s) (hT:iq w) (h:s.size≤1000000000) :
  Calls Tryz.prog 30 #[.slice A0 s.size c] w (DR s w (bv s)):=by
 have z:=hid (rU A0 c s w hv hT h);have HT:=hid hT;obtain ⟨O,hO⟩:∃ O,bv s=O:=⟨_,rfl⟩;rw [hO];have HO:=hid hO;clear hT hv hO;cases hs:cr s with
 | err p n=>have M:=hid (show O=.err p n by rw [←HO.out,bv,hs]);have hn:=rA hs;(have N:(n != 0)=true:=by rw [bne_iff_ne];omega);rw [hs] at z;clear HO hs hn;(go_enter Tryz.func30,Tryz.ntmps30);(go_wp2_with fail);refine z.out.mono ?_;rintro e w1 ⟨rfl,y⟩;(go_wp2_with fail);go_ret3;rw [M.out];exact ⟨rfl,y⟩
 | toks L=>
  have HZ:=hid (rV hs);have HL:=hid (show (match eW L with
   | some q=>iY.err q.1 q.2
   | none=>.toks L)=O by rw [←HO.out,bv,hs])
  rw [hs] at z;clear HO hs;(go_enter Tryz.func30,Tryz.ntmps30);(go_wp2_with fail);refine z.out.mono ?_;rintro e w1 ⟨A,cp,rfl,gb,U,hr,y⟩;have ga:=hid (Cc A cp L w1 hr (by omega) (HT.out.below y) HZ.out);have HR:=hid hr;clear z hr;(go_wp2_with fail);refine ga.out.mono ?_;rintro e w2 ⟨rfl,J⟩;have I:=y.trans (J.mono y.size);have ge:=hid (HR.out.below J);clear ga HR;cases D:eW L with
  | some q=>have M:=hid (show O=.err q.1 q.2 by rw [←HL.out,D]);have hq:=Aw D;(have N:(q.2 != 0)=true:=by rw [bne_iff_ne];exact hq);obtain ⟨q1,q2⟩:=q;simp only at N M;clear hq D HL;unfold Fm;simp only;(go_wp2_with fail);go_ret3;rw [M.out];exact ⟨rfl,I⟩
  | none=>have M:=hid (show O=.toks L by rw [←HL.out,D]);have gd:=hid (HT.out.below I);clear D HL;unfold Fm;simp only;(go_wp2_with fail);go_ret3;rw [M.out];refine ⟨⟨w2.heap.size,A,cp,⟨L,(s.size:Int)⟩,w2⟩,rfl,⟨rfl,⟨aj.new _ _ _,?_,Nat.zero_le _,by show L.length≤1000000;omega,gb,fun b hb=>Below.heap_alloc w2 _ b hb⟩,Nat.le_refl _,gd.out,HZ.out,U⟩,I.size,I.alloc I.size _⟩;exact DJ (ge.out.below ((Below.refl w1.heap.size w2).alloc J.size _)) J.size
def dc (w:World) (g:Nat) (l:List ByteArray):Prop:=∀ i (h:i<l.length),w.cell? ⟨g,i,none⟩=some (.string l[i])
theorem dc.of_blk {w:World} {g:Nat} {t:TypeId} {l:List ByteArray} {C:Array Value} (e:C=(l.map Value.string).toArray) (h:aj w g t C):dc w g l:=by subst e;intro i hi;have:=h.cell i;rw [this];simp [hi]
theorem dc.below {w w':World} {g:Nat} {l:List ByteArray} (h:dc w g l) (hb:Below w.heap.size w w'):dc w' g l:=fun i hi=>cell_kept hb (h i hi)
theorem dc.grown {w w':World} {R g:Nat} {l:List ByteArray} (h:dc w g l) (D:w.grownBy w' (some R)) (I:g≠R):dc w' g l:=fun i hi=>D.cell (h i hi) (fun e=>I (by injection e))
def Lz (l:List ByteArray) (x:ByteArray) (w:World) (e:Ending) (w':World):Prop:=∃ r:Int,e=.returned (.int .i64 r)∧decide (0≤r)=(l.any fun y=>decide (x=y))∧w=w'
theorem LA (x:ByteArray) (l:List ByteArray) (g c:Nat) (w:World) (z:l.length≤1000) (h:dc w g l) :
  Calls Tryz.prog 139 #[.slice (some ⟨g,0,none⟩) l.length c,.string x] w (Lz l x w):=by
 have H:=hid h;clear h;(go_enter Tryz.func139,Tryz.ntmps139);(go_wp2_with fail);go_loopg [5,8] l.length (fun k _ u8 wr=>∃ i:Nat,i≤l.length∧l.length-i≤k∧u8=.int .i64 (i:Int)∧w=wr∧(l.take i).any (fun y=>decide (x=y))=false)
 case atStart=>exact ⟨0,Nat.zero_le _,by omega,rfl,rfl,rfl⟩
 case round=>
  obtain ⟨i,hi,hk,rfl,rfl,N⟩:=hrel;by_cases D:i<l.length
  ·(have J:(i:Int)<(l.length:Int):=by omega);(have h0:(0:Int)≤(i:Int):=by omega);have hc:=H.out i D;have U:=hid (show (l.take (i+1)).any (fun y=>decide (x=y))=decide (x=l[i]) by rw [List.take_succ_eq_append_getElem D,List.any_append,N];simp);have q:=hid (show decide (x=l[i])=true→l.any (fun y=>decide (x=y))=true by intro hd;rw [List.any_eq_true];exact ⟨_,List.getElem_mem D,hd⟩);clear N;generalize l[i]=y at *;cases I:decide (x=y) with
   | true=>(have O:(x.toList==y.toList)=true:=by rw [cU];simpa using I);have M:=hid (q.out I);clear I q U;(go_wp2_with fail);go_ret;exact ⟨(i:Int),rfl,by rw [M.out];simp,rfl⟩
   | false=>
    (have O:(x.toList==y.toList)=false:=by rw [cU];simpa using I);have M:=hid (U.out.trans I);clear I q U;(go_wp2_with fail);go_roundg (l.length-(i+1))
    case measure=>omega
    case rel=>exact ⟨i+1,by omega,Nat.le_refl _,by go_num,rfl,M.out⟩
  ·(have J:¬ (i:Int)<(l.length:Int):=by omega);have M:=hid (show l.any (fun y=>decide (x=y))=false by rw [←N,List.take_of_length_le (by omega)]);clear N;(go_wp2_with fail);go_ret;exact ⟨-1,rfl,by rw [M.out];rfl,rfl⟩
theorem Iw (x:ByteArray) (l:List ByteArray) (g c:Nat) (w:World) (N:l.length≤1000) (h:dc w g l) :
  Calls Tryz.prog 93 #[.slice (some ⟨g,0,none⟩) l.length c,.string x] w fun e w'=>e=.returned (.bool (l.any fun y=>decide (x=y)))∧w=w':=by
 have M:=hid (LA x l g c w N h);obtain ⟨bb,D⟩:∃ bb,bb=l.any fun y=>decide (x=y):=⟨_,rfl⟩
 rw [←D];have I:=hid D;clear h D;(go_enter Tryz.func93,Tryz.ntmps93);(go_wp2_with fail);refine M.out.mono ?_;rintro e w' ⟨r,rfl,J,rfl⟩;have O:=hid (I.out.trans J.symm);clear J M I;(go_wp2_with fail);go_ret;exact ⟨by rw [O.out];rfl,rfl⟩
structure AJ (w:World) (a b c d e:Nat):Prop where
 l0:dc w a (BO 5)
 l1:dc w b (BO 4)
 l2:dc w c (BO 3)
 l3:dc w d (BO 2)
 l4:dc w e (BO 1)
theorem AJ.below {w w':World} {a b c d e:Nat} (h:AJ w a b c d e) (hb:Below w.heap.size w w'):AJ w' a b c d e:=
 ⟨h.l0.below hb,h.l1.below hb,h.l2.below hb,h.l3.below hb,h.l4.below hb⟩
def FM (a b c d e:Nat):Value:=.agg #[.slice (some ⟨a,0,none⟩) 1 1,.slice (some ⟨b,0,none⟩) 1 1,.slice (some ⟨c,0,none⟩) 6 6,.slice (some ⟨d,0,none⟩) 2 2,.slice (some ⟨e,0,none⟩) 3 3]
def Iy (w:World) (e:Ending) (w':World):Prop:=∃ a b c d f:Nat,e=.returned (FM a b c d f)∧AJ w' a b c d f∧(w.heap.size≤a∧w.heap.size≤b∧w.heap.size≤c∧w.heap.size≤d∧w.heap.size≤f)∧Below w.heap.size w w'
theorem tB (w:World):Calls Tryz.prog 91 #[] w (Iy w):=by
 (go_enter Tryz.func91,Tryz.ntmps91);(go_wp2_with fail);have hb:Below w.heap.size w ((((((w.alloc (.cells #[.slice (some ⟨w.heap.size+1,0,none⟩) 1 1,.slice (some ⟨w.heap.size+1+1,0,none⟩) 1 1,.slice (some ⟨w.heap.size+1+1+1,0,none⟩) 6 6,.slice (some ⟨w.heap.size+1+1+1+1,0,none⟩) 2 2,.slice (some ⟨w.heap.size+1+1+1+1+1,0,none⟩) 3 3] 96)).alloc (.cells #[.string (⟨#[124,124]⟩:BA)] 9)).alloc (.cells #[.string (⟨#[38,38]⟩:BA)] 9)).alloc (.cells #[.string (⟨#[61,61]⟩:BA),.string (⟨#[33,61]⟩:BA),.string (⟨#[60]⟩:BA),.string (⟨#[60,61]⟩:BA),.string (⟨#[62]⟩:BA),.string (⟨#[62,61]⟩:BA)] 9)).alloc (.cells #[.string (⟨#[43]⟩:BA),.string (⟨#[45]⟩:BA)] 9)).alloc (.cells #[.string (⟨#[42]⟩:BA),.string (⟨#[47]⟩:BA),.string (⟨#[37]⟩:BA)] 9)):=by (repeat' (first | with_reducible exact Below.refl _ _ | with_reducible refine Below.alloc ?_ ?_ _ | with_reducible refine Below.setCell ?_ ?_ _ | with_reducible refine Below.drew ?_ | with_reducible refine al ?_ _ | (simp <;> omega) | omega))
 have N:aj ((w.alloc (.cells #[.slice (some ⟨w.heap.size+1,0,none⟩) 1 1,.slice (some ⟨w.heap.size+1+1,0,none⟩) 1 1,.slice (some ⟨w.heap.size+1+1+1,0,none⟩) 6 6,.slice (some ⟨w.heap.size+1+1+1+1,0,none⟩) 2 2,.slice (some ⟨w.heap.size+1+1+1+1+1,0,none⟩) 3 3] 96)).alloc (.cells #[.string (⟨#[124,124]⟩:BA)] 9)) (w.heap.size+1) 9 #[.string (⟨#[124,124]⟩:BA)]:=aj.new_at (by simp) _ _;have M:aj (((w.alloc (.cells #[.slice (some ⟨w.heap.size+1,0,none⟩) 1 1,.slice (some ⟨w.heap.size+1+1,0,none⟩) 1 1,.slice (some ⟨w.heap.size+1+1+1,0,none⟩) 6 6,.slice (some ⟨w.heap.size+1+1+1+1,0,none⟩) 2 2,.slice (some ⟨w.heap.size+1+1+1+1+1,0,none⟩) 3 3] 96)).alloc (.cells #[.string (⟨#[124,124]⟩:BA)] 9)).alloc (.cells #[.string (⟨#[38,38]⟩:BA)] 9)) (w.heap.size+1+1) 9 #[.string (⟨#[38,38]⟩:BA)]:=aj.new_at (by simp) _ _;have J:=aj.new_at (w:=((w.alloc (.cells #[.slice (some ⟨w.heap.size+1,0,none⟩) 1 1,.slice (some ⟨w.heap.size+1+1,0,none⟩) 1 1,.slice (some ⟨w.heap.size+1+1+1,0,none⟩) 6 6,.slice (some ⟨w.heap.size+1+1+1+1,0,none⟩) 2 2,.slice (some ⟨w.heap.size+1+1+1+1+1,0,none⟩) 3 3] 96)).alloc (.cells #[.string (⟨#[124,124]⟩:BA)] 9)).alloc (.cells #[.string (⟨#[38,38]⟩:BA)] 9)) (n:=w.heap.size+1+1+1) (by simp) 9 #[.string (⟨#[61,61]⟩:BA),.string (⟨#[33,61]⟩:BA),.string (⟨#[60]⟩:BA),.string (⟨#[60,61]⟩:BA),.string (⟨#[62]⟩:BA),.string (⟨#[62,61]⟩:BA)];have I:=aj.new_at (w:=(((w.alloc (.cells #[.slice (some ⟨w.heap.size+1,0,none⟩) 1 1,.slice (some ⟨w.heap.size+1+1,0,none⟩) 1 1,.slice (some ⟨w.heap.size+1+1+1,0,none⟩) 6 6,.slice (some ⟨w.heap.size+1+1+1+1,0,none⟩) 2 2,.slice (some ⟨w.heap.size+1+1+1+1+1,0,none⟩) 3 3] 96)).alloc (.cells #[.string (⟨#[124,124]⟩:BA)] 9)).alloc (.cells #[.string (⟨#[38,38]⟩:BA)] 9)).alloc (.cells #[.string (⟨#[61,61]⟩:BA),.string (⟨#[33,61]⟩:BA),.string (⟨#[60]⟩:BA),.string (⟨#[60,61]⟩:BA),.string (⟨#[62]⟩:BA),.string (⟨#[62,61]⟩:BA)] 9)) (n:=w.heap.size+1+1+1+1) (by simp) 9 #[.string (⟨#[43]⟩:BA),.string (⟨#[45]⟩:BA)];have D:=aj.new_at (w:=((((w.alloc (.cells #[.slice (some ⟨w.heap.size+1,0,none⟩) 1 1,.slice (some ⟨w.heap.size+1+1,0,none⟩) 1 1,.slice (some ⟨w.heap.size+1+1+1,0,none⟩) 6 6,.slice (some ⟨w.heap.size+1+1+1+1,0,none⟩) 2 2,.slice (some ⟨w.heap.size+1+1+1+1+1,0,none⟩) 3 3] 96)).alloc (.cells #[.string (⟨#[124,124]⟩:BA)] 9)).alloc (.cells #[.string (⟨#[38,38]⟩:BA)] 9)).alloc (.cells #[.string (⟨#[61,61]⟩:BA),.string (⟨#[33,61]⟩:BA),.string (⟨#[60]⟩:BA),.string (⟨#[60,61]⟩:BA),.string (⟨#[62]⟩:BA),.string (⟨#[62,61]⟩:BA)] 9)).alloc (.cells #[.string (⟨#[43]⟩:BA),.string (⟨#[45]⟩:BA)] 9)) (n:=w.heap.size+1+1+1+1+1) (by simp) 9 #[.string (⟨#[42]⟩:BA),.string (⟨#[47]⟩:BA),.string (⟨#[37]⟩:BA)];refine bodyPost_ret (v:=FM (w.heap.size+1) (w.heap.size+1+1) (w.heap.size+1+1+1) (w.heap.size+1+1+1+1) (w.heap.size+1+1+1+1+1)) (by simp [results,FM,Tryz.results91,go_sem]) rfl ?_;exact ⟨_,_,_,_,_,rfl,⟨dc.of_blk rfl ((((N.alloc _).alloc _).alloc _).alloc _),dc.of_blk rfl (((M.alloc _).alloc _).alloc _),dc.of_blk rfl ((J.alloc _).alloc _),dc.of_blk rfl (I.alloc _),dc.of_blk rfl D⟩,⟨by omega,by omega,by omega,by omega,by omega⟩,hb⟩
end
end Go.Proofs.YtiebcdeafofgdaaGreatDoor
