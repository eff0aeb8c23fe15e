/-
  Parts of the proof: Lok Look Begin Rlev Titer. By an AI agent.
-/
import Derived.Test.YtiebcdeafofgdaaGreatDoorJ22
import Derived.Test.YtiebcdeafofgdaaGreatDoorJ20
import Derived.Test.YtiebcdeafofgdaaGreatDoorJ28
import Derived.Test.YtiebcdeafofgdaaGreatDoorJ07
import Derived.Test.YtiebcdeafofgdaaGreatDoorJ09
import Derived.Test.YtiebcdeafofgdaaGreatDoorJ19
import Derived.Test.YtiebcdeafofgdaaGreatDoorJ25
import Derived.Test.YtiebcdeafofgdaaGreatDoorJ11
import Derived.Deep.LoopGhost
import Derived.BigQuiet
import Derived.RangeFuncNested
import Derived.RangeFuncBound
import Derived.RangeFuncCalls
import Derived.RangeFuncLeaves
import Derived.RangeFuncFrom
import Derived.RangeFuncKeeps
import Derived.Shelf.Abstract
import Derived.Shelf.RegionOpen
import Derived.WalkKit
import Derived.OwnWalkIn
import Derived.TacticsInMore
import Derived.LoopNIn
import Derived.LoopIn
open Go.Proofs.Tryz
set_option maxRecDepth 100000
set_option maxHeartbeats 8000000
namespace Go.Proofs.YtiebcdeafofgdaaGreatDoor
section
open Go.RowKit Go.Lib Go.Proofs
theorem jP:type_of% @List.cons_append:=@List.cons_append
theorem qx:type_of% @List.find?_cons_of_pos:=@List.find?_cons_of_pos
theorem qy:type_of% @List.find?_cons_of_neg:=@List.find?_cons_of_neg
theorem qM:type_of% @Array.replicate_succ:=@Array.replicate_succ
theorem qN:type_of% @Array.replicate_zero:=@Array.replicate_zero
theorem qR:type_of% @List.append_toArray:=@List.append_toArray
theorem vb:type_of% @List.nil_append:=@List.nil_append
theorem vg:type_of% @List.size_toArray:=@List.size_toArray
theorem vh:type_of% @List.push_toArray:=@List.push_toArray
theorem lF.old{E:cy}{w:World}(h:lF E.w0)(hE:E.w0.heap.size<=E.R)(I:Oq E w):lF w:=by
 have D:E.w0.heap.size<=w.heap.size:=by
  by_cases N:E.w0.heap.size=0
  ·omega
  ·have J:=I (E.w0.heap.size-1) (by omega);have M:E.w0.heap[E.w0.heap.size-1]? = some (E.w0.heap[E.w0.heap.size-1]'(by omega)):=Array.getElem?_eq_getElem (by omega);rw[M]at J;have:=(Array.getElem?_eq_some_iff.mp J).1;omega
 have hb:Below E.w0.heap.size E.w0 { E.w0 with heap:=w.heap }:=⟨rfl,rfl,rfl,D,fun b hb=>I b (by omega)⟩
 exact⟨(h.below hb).tab,(h.below hb).u8⟩
theorem Gx(E:cy)(J:lF E.w0)(hE:E.w0.heap.size<=E.R)(D:∀t∈E.c.toks,t.text.size<=65536):ES E:=by
 constructor
 ·intro t ht _ w hO;refine(ux t.text w (D t ht)).mono ?_;rintro e w'⟨hB,h⟩;refine⟨?_,hB⟩;rw[mT];cases I:lp t.text with
  |some x=>rw[I]at h;exact⟨_,h⟩
  |none=>rw[I]at h;obtain⟨n,_,rfl⟩:=h;exact⟨_,rfl⟩
 ·intro t ht _ w hO;have M:=D t ht;refine(tB t.text w (J.old hE hO) (by omega)).mono ?_;rintro e w'⟨hB,h⟩;refine⟨?_,hB⟩;rw[lT];cases I:dT t.text with
  |some x=>rw[I]at h;exact⟨_,h⟩
  |none=>rw[I]at h;obtain⟨n,_,rfl⟩:=h;exact⟨_,rfl⟩
end
section
open Go.RowKit Go.Lib Go.Proofs
attribute [local go_sem ↓] Go.wp_at_zero Go.wp_at_succ
attribute [local go_sem] aV aW aX
def pC:ByteArray:=(⟨#[32,60,60,61,32,62,62,61,32,38,94,61,32,46,46,46,32,43,61,32,45,61,32,42,61,32,47,61,32,37,61,32,38,61,32,124,61,32,94,61,32,60,60,32,62,62,32,38,94,32,60,45,32,38,32,94,32,58,32]⟩:BA)
def li(t:cO):Bool:=decide (t.kind=3)||((decide (t.kind=6)&&Lib.contains pC.data.toList ((⟨#[32]⟩++t.text++⟨#[32]⟩:ByteArray)).data.toList)||(decide (t.kind=2)&&(t.text.toList==[105,109,112,111,114,116])))
def tV(o:Option ByteArray):Bool:=match o with
 |none=>true
 |some x=>decide (1000<x.size)
def iD(t:cO):Bool:=(decide (t.kind=4)&&(lp t.text).isNone)||(decide (t.kind=5)&&tV (dT t.text))
def Lt(a b:Option cO):Option (Int×Int):=match a with
 |some t=>some (t.pos,16)
 | none=>match b with
   |some t=>some (t.pos,4)
   |none=>none
def oB(l:List cO):Option (Int×Int):=Lt (l.find? li) (l.find? iD)
def Lu(r:Option (Int×Int)):Value:=match r with
 |some q=>.tuple #[.int .i64 q.1,.int .i64 q.2]
 |none=>.tuple #[.int .i64 0,.int .i64 0]
theorem DZ(A:Option Addr)(c:Nat)(l:List cO)(w:World)(hr:bZ w w.heap.size 3 A l.length (l.flatMap ng))(hl:l.length<=1000000)(hT:lF w)(hz:∀t∈l,t.text.size<=65536):
  Calls prog 58 #[.slice A l.length c] w fun e w'=>e=.returned (Lu (oB l))/\Below w w w':=by
 have HR:=hid hr;have HT:=hid hT;have HZ:=hid hz;obtain⟨R1,gr⟩:∃R1,l.find? li=R1:=⟨_,rfl⟩;obtain⟨R2,gq⟩:∃R2,l.find? iD=R2:=⟨_,rfl⟩;have ga:Hid (oB l=Lt R1 R2):=hid (by rw[oB,gr,gq]);have gu:=hid gr;have gt:=hid gq;clear hr hT hz gr gq;(go_enter func58,ntmps58);go_wp2_with fail;go_loopg [5,12] l.length (fun g _ u12 wr=>∃i:Nat,i<=l.length/\l.length-i<=g/\u12=.int .i64 (i:Int)/\Below w w wr/\(l.drop i).find? li=R1)
 case atStart=>exact⟨0,gP _,by omega,rfl,gG _ _,gu.out⟩
 case round=>
  clear gu;obtain⟨i,hi,hg,rfl,hB,hq⟩:=hrel;have O:=hid hq;clear hq;by_cases M:i<l.length
  ·(have ge:(i:Int)<(l.length:Int):=by omega);have gx:=hB.size;(have h0:(0:Int)<=(i:Int):=by omega);obtain⟨bk,off,gs,gv,gb⟩:=(HR.out.below hB).el fu (by omega) rfl M;subst gs;have k0:=gb i M 0 _ rfl;have k1:=gb i M 1 _ rfl;have k2:=gb i M 2 _ rfl;simp only[jD]at k0;have gj:=HZ.out _ (gX M);have U:=hid (jX M);clear gb;generalize l[i]=t at *;obtain⟨tk,tt,tp⟩:=t;simp only at k0 k1 k2 gj;by_cases h3:tk=3
   ·subst h3;have D:li ⟨3,tt,tp⟩=true:=rfl;have h:=hid (show R1=some ⟨3,tt,tp⟩by rw[<-O.out,U.out,qx (by show _=true;rw[D])]);clear O;clear D;go_wp2_with fail;go_ret2;rw[ga.out,h.out];exact⟨rfl,lU⟩
   (have e3:(tk==3)=false:=by rw[gC];exact h3);by_cases h6:tk=6
   ·subst h6;have gp:=hid (fun w'(hb:Below w w w')=>ef pC (⟨#[32]⟩++tt++⟨#[32]⟩) w' (HT.out.below hb).tab (kC (show pC.size<=100 by decide +kernel) (by omega)));clear h3 e3;cases gh:Lib.contains pC.data.toList ((⟨#[32]⟩++tt++⟨#[32]⟩:ByteArray)).data.toList with
    |true=>(have D:li ⟨6,tt,tp⟩=true:=by rw[li];simp only;rw[gh];rfl);have h:=hid (show R1=some ⟨6,tt,tp⟩by rw[<-O.out,U.out,qx (by show _=true;rw[D])]);clear O;rw[gh]at gp;clear D gh;go_wp2_with fail;refine(gp.out _ lU).mono ?_;rintro e w2⟨rfl,rfl⟩;go_wp2_with fail;go_ret2;rw[ga.out,h.out];exact⟨rfl,lU⟩
    |false=>
     (have D:li ⟨6,tt,tp⟩=false:=by rw[li];simp only;rw[gh];rfl);have h:=hid (show(l.drop (i+1)).find? li=R1 by rw[<-O.out,U.out,qy (by show ¬ _=true;rw[D];decide)]);clear O;rw[gh]at gp;clear D gh;go_wp2_with fail;refine(gp.out _ lU).mono ?_;rintro e w2⟨rfl,rfl⟩;go_wp2_with fail;go_roundg (l.length-(i+1))
     case measure=>omega
     case rel=>exact⟨i+1,by omega,gA _,by go_num,lU,h.out⟩
   (have e6:(tk==6)=false:=by rw[gC];exact h6);by_cases h2:tk=2
   ·subst h2;clear h3 e3 h6 e6;cases yk:(tt.toList==[105,109,112,111,114,116])with
    |true=>(have D:li ⟨2,tt,tp⟩=true:=by rw[li];simp only;rw[yk];rfl);have h:=hid (show R1=some ⟨2,tt,tp⟩by rw[<-O.out,U.out,qx (by show _=true;rw[D])]);clear O;clear D;go_wp2_with fail;go_ret2;rw[ga.out,h.out];exact⟨rfl,lU⟩
    |false=>
     (have D:li ⟨2,tt,tp⟩=false:=by rw[li];simp only;rw[yk];rfl);have h:=hid (show(l.drop (i+1)).find? li=R1 by rw[<-O.out,U.out,qy (by show ¬ _=true;rw[D];decide)]);clear O;clear D;go_wp2_with fail;go_roundg (l.length-(i+1))
     case measure=>omega
     case rel=>exact⟨i+1,by omega,gA _,by go_num,lU,h.out⟩
   (have e2:(tk==2)=false:=by rw[gC];exact h2);(have D:li ⟨tk,tt,tp⟩=false:=by rw[li];simp only;rw[gM h3,gM h6,gM h2];rfl);have h:=hid (show(l.drop (i+1)).find? li=R1 by rw[<-O.out,U.out,qy (by show ¬ _=true;rw[D];decide)]);clear O;clear D h3 h6 h2;go_wp2_with fail;go_roundg (l.length-(i+1))
   case measure=>omega
   case rel=>exact⟨i+1,by omega,gA _,by go_num,lU,h.out⟩
  ·(have ge:¬ (i:Int)<(l.length:Int):=by omega);have gm:Hid (R1=none):=hid (by rw[<-O.out,jS (by omega)];rfl);clear hi M O;go_wp2_with fail;go_loopg [7,8,9,46] l.length (fun g _ _ _ u46 wy=>∃i:Nat,i<=l.length/\l.length-i<=g/\u46=.int .i64 (i:Int)/\Below w w wy/\(l.drop i).find? iD=R2)
   case atStart=>exact⟨0,gP _,by omega,rfl,hB,gt.out⟩
   case round=>
    clear ge hB gt;obtain⟨i,hi,hg,rfl,hB,hq⟩:=hrel;have O:=hid hq;clear hq;by_cases M:i<l.length
    ·(have ge:(i:Int)<(l.length:Int):=by omega);have gx:=hB.size;(have h0:(0:Int)<=(i:Int):=by omega);obtain⟨bk,off,gs,gv,gb⟩:=(HR.out.below hB).el fu (by omega) rfl M;subst gs;have k0:=gb i M 0 _ rfl;have k1:=gb i M 1 _ rfl;have k2:=gb i M 2 _ rfl;simp only[jD]at k0;have gj:=HZ.out _ (gX M);have U:=hid (jX M);clear gb;generalize l[i]=t at *;obtain⟨tk,tt,tp⟩:=t;simp only at k0 k1 k2 gj;by_cases h4:tk=4
     ·subst h4;have gn:=hid (fun w'=>ux tt w' gj);cases J:lp tt with
      |some x=>
       (have D:iD ⟨4,tt,tp⟩=false:=by rw[iD];simp only;rw[J];rfl);have h:=hid (show(l.drop (i+1)).find? iD=R2 by rw[<-O.out,U.out,qy (by show ¬ _=true;rw[D];decide)]);clear O;rw[J]at gn;clear D J;go_wp2_with fail;refine(gn.out _).mono ?_;rintro e w2⟨I,rfl⟩;have N:Below w w w2:=Below.trans lU (I.mono (by simp;omega));have gg:=N.size;go_wp2_with fail;go_roundg (l.length-(i+1))
       case measure=>omega
       case rel=>exact⟨i+1,by omega,gA _,by go_num,N,h.out⟩
      |none=>(have D:iD ⟨4,tt,tp⟩=true:=by rw[iD];simp only;rw[J];rfl);have h:=hid (show R2=some ⟨4,tt,tp⟩by rw[<-O.out,U.out,qx (by show _=true;rw[D])]);clear O;rw[J]at gn;clear D J;go_wp2_with fail;refine(gn.out _).mono ?_;rintro e w2⟨I,n,hn,rfl⟩;have N:Below w w w2:=Below.trans lU (I.mono (by simp;omega));have gg:=N.size;have gd:=(an.new wr 43 #[.int .i64 4,.string tt,.int .i64 tp]).below I (by simp);have z2:w2.cell? ⟨wr,2,none⟩=some (.int .i64 tp):=(gd.cell 2).trans rfl;(have yk:(n != 0)=true:=by rw[kZ];exact hn);clear I gd hn;go_wp2_with fail;go_ret2;rw[ga.out,gm.out,h.out];exact⟨rfl,N⟩
     (have e4:(tk==4)=false:=by rw[gC];exact h4);by_cases h5:tk=5
     ·subst h5;have gi:=hid (fun w'(gw:Below w w w')=>tB tt w' (HT.out.below gw) (by omega));clear h4;cases J:dT tt with
      | some x=>
       rw[J]at gi;by_cases gl:1000<x.size
       ·(have D:iD ⟨5,tt,tp⟩=true:=by rw[iD];simp only;rw[J,tV];simp only[jO gl];rfl);(have hd:decide ((1000:Int)<(x.size:Int))=true:=by rw[gK];omega);have h:=hid (show R2=some ⟨5,tt,tp⟩by rw[<-O.out,U.out,qx (by show _=true;rw[D])]);clear O;clear D J gl;go_wp2_with fail;refine(gi.out _ lU).mono ?_;rintro e w2⟨I,rfl⟩;have N:Below w w w2:=Below.trans lU (I.mono (by simp;omega));have gg:=N.size;have gd:=(an.new wr 43 #[.int .i64 5,.string tt,.int .i64 tp]).below I (by simp);have z2:w2.cell? ⟨wr,2,none⟩=some (.int .i64 tp):=(gd.cell 2).trans rfl;clear I gd;go_wp2_with fail;go_ret2;rw[ga.out,gm.out,h.out];exact⟨rfl,N⟩
       ·(have D:iD ⟨5,tt,tp⟩=false:=by rw[iD];simp only;rw[J,tV];simp only[gM gl];rfl);(have hd:decide ((1000:Int)<(x.size:Int))=false:=by rw[gJ];omega);have h:=hid (show(l.drop (i+1)).find? iD=R2 by rw[<-O.out,U.out,qy (by show ¬ _=true;rw[D];decide)]);clear O;clear D J gl;go_wp2_with fail;refine(gi.out _ lU).mono ?_;rintro e w2⟨I,rfl⟩;have N:Below w w w2:=Below.trans lU (I.mono (by simp;omega));have gg:=N.size;clear I;go_wp2_with fail;go_roundg (l.length-(i+1))
        case measure=>omega
        case rel=>exact⟨i+1,by omega,gA _,by go_num,N,h.out⟩
      |none=>(have D:iD ⟨5,tt,tp⟩=true:=by rw[iD];simp only;rw[J];rfl);have h:=hid (show R2=some ⟨5,tt,tp⟩by rw[<-O.out,U.out,qx (by show _=true;rw[D])]);clear O;rw[J]at gi;clear D J;go_wp2_with fail;refine(gi.out _ lU).mono ?_;rintro e w2⟨I,n,hn,rfl⟩;have N:Below w w w2:=Below.trans lU (I.mono (by simp;omega));have gg:=N.size;have gd:=(an.new wr 43 #[.int .i64 5,.string tt,.int .i64 tp]).below I (by simp);have z2:w2.cell? ⟨wr,2,none⟩=some (.int .i64 tp):=(gd.cell 2).trans rfl;(have yk:(n != 0)=true:=by rw[kZ];exact hn);clear I gd hn;go_wp2_with fail;go_ret2;rw[ga.out,gm.out,h.out];exact⟨rfl,N⟩
     (have e5:(tk==5)=false:=by rw[gC];exact h5);(have D:iD ⟨tk,tt,tp⟩=false:=by rw[iD];simp only;rw[gM h4,gM h5];rfl);have h:=hid (show(l.drop (i+1)).find? iD=R2 by rw[<-O.out,U.out,qy (by show ¬ _=true;rw[D];decide)]);clear O;clear D h4 h5;go_wp2_with fail;go_roundg (l.length-(i+1))
     case measure=>omega
     case rel=>exact⟨i+1,by omega,gA _,by go_num,lU,h.out⟩
    ·(have ge:¬ (i:Int)<(l.length:Int):=by omega);have h:Hid (R2=none):=hid (by rw[<-O.out,jS (by omega)];rfl);go_wp2_with fail;go_ret2;rw[ga.out,gm.out,h.out];exact⟨rfl,hB⟩
end
section
open Go.RowKit Go.Lib Go.Proofs
attribute [local go_sem ↓] Go.wp_at_zero Go.wp_at_succ
def cV(s:ByteArray):uw:=match fy s with
 | .err p n=>.err p n
 | .toks L=>match oB L with
   |some q=>.err q.1 q.2
   |none=>.toks L
structure yA(E:cy)(w:World)(s:ByteArray)(L:List cO):Prop where
 c:E.c=⟨L,(s.size:Int)⟩
 at_:aU E w ⟨0,false,-1⟩
 base:E.w0.heap.size<=E.R
 tab:lF E.w0
 small:∀t∈E.c.toks,t.text.size<=65536
 few:L.length<=65537
def Gy(s:ByteArray)(w:World)(r:uw)(e:Ending)(w':World):Prop:=match r with
 | .err p n=>e=.returned (.tuple #[.pointer none,.int .i64 p,.int .i64 n])/\Below w w w'
 | .toks L=>∃E:cy,e=.returned (.tuple #[E.R,.int .i64 0,.int .i64 0])/\yA E w' s L/\w.heap.size<=E.R/\Below w w w'
theorem Ck{L:List cO}{q:Int×Int}(h:oB L=some q):q.2≠0:=by
 unfold oB Lt at h;split at h
 ·injection h with h;subst h;exact(by decide:(16:Int)≠0)
 ·split at h
  ·injection h with h;subst h;exact(by decide:(4:Int)≠0)
  ·cases h
theorem yB(A0:Option Addr)(c:Nat)(s:ByteArray)(w:World)(hv:fT w A0 c s)(hT:lF w)(h:s.size<=1000000000):
  Calls prog 30 #[.slice A0 s.size c] w (Gy s w (cV s)):=by
 have HS:=hid (B0 A0 c s w hv hT h);have HT:=hid hT;obtain⟨O,hO⟩:∃O,cV s=O:=⟨_,rfl⟩;rw[hO];have HO:=hid hO;clear hT hv hO;cases hs:fy s with
 |err p n=>have M:Hid (O=.err p n):=hid (by rw[<-HO.out,cV,hs]);have hn:=sO hs;(have N:(n != 0)=true:=by rw[kZ];omega);rw[hs]at HS;clear HO hs hn;(go_enter func30,ntmps30);go_wp2_with fail;refine HS.out.mono ?_;rintro e w1⟨rfl,hB⟩;go_wp2_with fail;go_ret3;rw[M.out];exact⟨rfl,hB⟩
 | toks L=>
  have HZ:=hid (tz hs);have HL:=hid (show(match oB L with
   |some q=>uw.err q.1 q.2
   |none=>.toks L)=O by rw[<-HO.out,cV,hs])
  rw[hs]at HS;clear HO hs;(go_enter func30,ntmps30);go_wp2_with fail;refine HS.out.mono ?_;rintro e w1⟨A,cp,rfl,gb,U,hr,hB⟩;have ga:=hid (DZ A cp L w1 hr (by omega) (HT.out.below hB) HZ.out);have HR:=hid hr;clear HS hr;go_wp2_with fail;refine ga.out.mono ?_;rintro e w2⟨rfl,J⟩;have I:=aD hB J;have ge:=hid (HR.out.below J);clear ga HR;cases D:oB L with
  |some q=>have M:Hid (O=.err q.1 q.2):=hid (by rw[<-HL.out,D]);have hq:=Ck D;(have N:(q.2 != 0)=true:=by rw[kZ];exact hq);obtain⟨q1,q2⟩:=q;simp only at N M;clear hq D HL;unfold Lu;simp only;go_wp2_with fail;go_ret3;rw[M.out];exact⟨rfl,I⟩
  |none=>have M:Hid (O=.toks L):=hid (by rw[<-HL.out,D]);have gd:=hid (HT.out.below I);clear D HL;unfold Lu;simp only;go_wp2_with fail;go_ret3;rw[M.out];refine⟨⟨w2.heap.size,A,cp,⟨L,(s.size:Int)⟩,w2⟩,rfl,⟨rfl,⟨an.new _ _ _,?_,gP _,by show L.length<=1000000;omega,gb,fun b hb=>jF w2 _ b hb⟩,gA _,gd.out,HZ.out,U⟩,I.size,I.alloc I.size _⟩;exact Gl (ge.out.below ((gG w1.heap.size w2).alloc J.size _)) J.size
def dv(w:World)(g:Nat)(l:List ByteArray):Prop:=∀i(h:i<l.length),w.cell? ⟨g,i,none⟩=some (.string l[i])
theorem dv.of_blk{w:World}{g:Nat}{t:TypeId}{l:List ByteArray}{C:Array Value}(e:C=(l.map Value.string).toArray)(h:an w g t C):dv w g l:=by subst e;intro i hi;have:=h.cell i;rw[this];simp[hi]
theorem dv.below{w w':World}{g:Nat}{l:List ByteArray}(h:dv w g l)(hb:Below w w w'):dv w' g l:=fun i hi=>cell_kept hb (h i hi)
theorem dv.grown{w w':World}{R g:Nat}{l:List ByteArray}(h:dv w g l)(D:w.grownBy w' (some R))(I:g≠R):dv w' g l:=fun i hi=>D.cell (h i hi) (fun e=>I (by injection e))
def R8(l:List ByteArray)(x:ByteArray)(w:World)(e:Ending)(w':World):Prop:=∃r:Int,e=.returned (.int .i64 r)/\decide (0<=r)=(l.any fun y=>decide (x=y))/\w=w'
theorem R9(x:ByteArray)(l:List ByteArray)(g c:Nat)(w:World)(hl:l.length<=1000)(h:dv w g l):
  Calls prog 139 #[.slice (some ⟨g,0,none⟩) l.length c,x] w (R8 l x w):=by
 have H:=hid h;clear h;(go_enter func139,ntmps139);go_wp2_with fail;go_loopg [5,8] l.length (fun k _ u8 wr=>∃i:Nat,i<=l.length/\l.length-i<=k/\u8=.int .i64 (i:Int)/\w=wr/\(l.take i).any (fun y=>decide (x=y))=false)
 case atStart=>exact⟨0,gP _,by omega,rfl,rfl,rfl⟩
 case round=>
  obtain⟨i,hi,hk,rfl,rfl,N⟩:=hrel;by_cases D:i<l.length
  ·(have J:(i:Int)<(l.length:Int):=by omega);(have h0:(0:Int)<=(i:Int):=by omega);have hc:=H.out i D;have U:=hid (show(l.take (i+1)).any (fun y=>decide (x=y))=decide (x=l[i])by rw[gZ D,List.any_append,N];simp);have HA:Hid (decide (x=l[i])=true->l.any (fun y=>decide (x=y))=true):=hid (by intro hd;rw[qV];exact⟨_,gX D,hd⟩);clear N;generalize l[i]=y at *;cases I:decide (x=y)with
   |true=>(have O:(x.toList==y.toList)=true:=by rw[cu];simpa using I);have M:=hid (HA.out I);clear I HA U;go_wp2_with fail;go_ret;exact⟨(i:Int),rfl,by rw[M.out];simp,rfl⟩
   |false=>
    (have O:(x.toList==y.toList)=false:=by rw[cu];simpa using I);have M:=hid (U.out.trans I);clear I HA U;go_wp2_with fail;go_roundg (l.length-(i+1))
    case measure=>omega
    case rel=>exact⟨i+1,by omega,gA _,by go_num,rfl,M.out⟩
  ·(have J:¬ (i:Int)<(l.length:Int):=by omega);have M:Hid (l.any (fun y=>decide (x=y))=false):=hid (by rw[<-N,jA (by omega)]);clear N;go_wp2_with fail;go_ret;exact⟨-1,rfl,by rw[M.out];rfl,rfl⟩
theorem O6(x:ByteArray)(l:List ByteArray)(g c:Nat)(w:World)(N:l.length<=1000)(h:dv w g l):
  Calls prog 93 #[.slice (some ⟨g,0,none⟩) l.length c,x] w fun e w'=>e=.returned (.bool (l.any fun y=>decide (x=y)))/\w=w':=by
 have M:=hid (R9 x l g c w N h);obtain⟨bb,D⟩:∃bb,bb=l.any fun y=>decide (x=y):=⟨_,rfl⟩
 rw[<-D];have I:=hid D;clear h D;(go_enter func93,ntmps93);go_wp2_with fail;refine M.out.mono ?_;rintro e w'⟨r,rfl,J,rfl⟩;have O:=hid (I.out.trans J.symm);clear J M I;go_wp2_with fail;go_ret;exact⟨by rw[O.out];rfl,rfl⟩
structure Cu(w:World)(a b c d e:Nat):Prop where
 l0:dv w a (Du 5)
 l1:dv w b (Du 4)
 l2:dv w c (Du 3)
 l3:dv w d (Du 2)
 l4:dv w e (Du 1)
theorem Cu.below{w w':World}{a b c d e:Nat}(h:Cu w a b c d e)(hb:Below w w w'):Cu w' a b c d e:=
 ⟨h.l0.below hb,h.l1.below hb,h.l2.below hb,h.l3.below hb,h.l4.below hb⟩
def LV(a b c d e:Nat):Value:=.agg #[.slice (some ⟨a,0,none⟩) 1 1,.slice (some ⟨b,0,none⟩) 1 1,.slice (some ⟨c,0,none⟩) 6 6,.slice (some ⟨d,0,none⟩) 2 2,.slice (some ⟨e,0,none⟩) 3 3]
def O7(w:World)(e:Ending)(w':World):Prop:=∃a b c d f:Nat,e=.returned (LV a b c d f)/\Cu w' a b c d f/\(w.heap.size<=a/\w.heap.size<=b/\w.heap.size<=c/\w.heap.size<=d/\w.heap.size<=f)/\Below w w w'
theorem uP(w:World):Calls prog 91 #[] w (O7 w):=by(go_enter func91,ntmps91);go_wp2_with fail;have hb:Below w w ((((((w.alloc (.cells #[.slice (some ⟨w.heap.size+1,0,none⟩) 1 1,.slice (some ⟨w.heap.size+1+1,0,none⟩) 1 1,.slice (some ⟨w.heap.size+1+1+1,0,none⟩) 6 6,.slice (some ⟨w.heap.size+1+1+1+1,0,none⟩) 2 2,.slice (some ⟨w.heap.size+1+1+1+1+1,0,none⟩) 3 3] 96)).alloc (.cells #[.string ⟨#[124,124]⟩] 9)).alloc (.cells #[.string ⟨#[38,38]⟩] 9)).alloc (.cells #[.string ⟨#[61,61]⟩,.string ⟨#[33,61]⟩,.string ⟨#[60]⟩,.string ⟨#[60,61]⟩,.string ⟨#[62]⟩,.string ⟨#[62,61]⟩] 9)).alloc (.cells #[.string ⟨#[43]⟩,.string ⟨#[45]⟩] 9)).alloc (.cells #[.string ⟨#[42]⟩,.string ⟨#[47]⟩,.string ⟨#[37]⟩] 9)):=bel;have N:an ((w.alloc (.cells #[.slice (some ⟨w.heap.size+1,0,none⟩) 1 1,.slice (some ⟨w.heap.size+1+1,0,none⟩) 1 1,.slice (some ⟨w.heap.size+1+1+1,0,none⟩) 6 6,.slice (some ⟨w.heap.size+1+1+1+1,0,none⟩) 2 2,.slice (some ⟨w.heap.size+1+1+1+1+1,0,none⟩) 3 3] 96)).alloc (.cells #[.string ⟨#[124,124]⟩] 9)) (w.heap.size+1) 9 #[.string ⟨#[124,124]⟩]:=an.new_at (by simp) _ _;have M:an (((w.alloc (.cells #[.slice (some ⟨w.heap.size+1,0,none⟩) 1 1,.slice (some ⟨w.heap.size+1+1,0,none⟩) 1 1,.slice (some ⟨w.heap.size+1+1+1,0,none⟩) 6 6,.slice (some ⟨w.heap.size+1+1+1+1,0,none⟩) 2 2,.slice (some ⟨w.heap.size+1+1+1+1+1,0,none⟩) 3 3] 96)).alloc (.cells #[.string ⟨#[124,124]⟩] 9)).alloc (.cells #[.string ⟨#[38,38]⟩] 9)) (w.heap.size+1+1) 9 #[.string ⟨#[38,38]⟩]:=an.new_at (by simp) _ _;have J:=an.new_at (w:=((w.alloc (.cells #[.slice (some ⟨w.heap.size+1,0,none⟩) 1 1,.slice (some ⟨w.heap.size+1+1,0,none⟩) 1 1,.slice (some ⟨w.heap.size+1+1+1,0,none⟩) 6 6,.slice (some ⟨w.heap.size+1+1+1+1,0,none⟩) 2 2,.slice (some ⟨w.heap.size+1+1+1+1+1,0,none⟩) 3 3] 96)).alloc (.cells #[.string ⟨#[124,124]⟩] 9)).alloc (.cells #[.string ⟨#[38,38]⟩] 9)) (n:=w.heap.size+1+1+1) (by simp) 9 #[.string ⟨#[61,61]⟩,.string ⟨#[33,61]⟩,.string ⟨#[60]⟩,.string ⟨#[60,61]⟩,.string ⟨#[62]⟩,.string ⟨#[62,61]⟩];have I:=an.new_at (w:=(((w.alloc (.cells #[.slice (some ⟨w.heap.size+1,0,none⟩) 1 1,.slice (some ⟨w.heap.size+1+1,0,none⟩) 1 1,.slice (some ⟨w.heap.size+1+1+1,0,none⟩) 6 6,.slice (some ⟨w.heap.size+1+1+1+1,0,none⟩) 2 2,.slice (some ⟨w.heap.size+1+1+1+1+1,0,none⟩) 3 3] 96)).alloc (.cells #[.string ⟨#[124,124]⟩] 9)).alloc (.cells #[.string ⟨#[38,38]⟩] 9)).alloc (.cells #[.string ⟨#[61,61]⟩,.string ⟨#[33,61]⟩,.string ⟨#[60]⟩,.string ⟨#[60,61]⟩,.string ⟨#[62]⟩,.string ⟨#[62,61]⟩] 9)) (n:=w.heap.size+1+1+1+1) (by simp) 9 #[.string ⟨#[43]⟩,.string ⟨#[45]⟩];have D:=an.new_at (w:=((((w.alloc (.cells #[.slice (some ⟨w.heap.size+1,0,none⟩) 1 1,.slice (some ⟨w.heap.size+1+1,0,none⟩) 1 1,.slice (some ⟨w.heap.size+1+1+1,0,none⟩) 6 6,.slice (some ⟨w.heap.size+1+1+1+1,0,none⟩) 2 2,.slice (some ⟨w.heap.size+1+1+1+1+1,0,none⟩) 3 3] 96)).alloc (.cells #[.string ⟨#[124,124]⟩] 9)).alloc (.cells #[.string ⟨#[38,38]⟩] 9)).alloc (.cells #[.string ⟨#[61,61]⟩,.string ⟨#[33,61]⟩,.string ⟨#[60]⟩,.string ⟨#[60,61]⟩,.string ⟨#[62]⟩,.string ⟨#[62,61]⟩] 9)).alloc (.cells #[.string ⟨#[43]⟩,.string ⟨#[45]⟩] 9)) (n:=w.heap.size+1+1+1+1+1) (by simp) 9 #[.string ⟨#[42]⟩,.string ⟨#[47]⟩,.string ⟨#[37]⟩];refine jV (v:=LV (w.heap.size+1) (w.heap.size+1+1) (w.heap.size+1+1+1) (w.heap.size+1+1+1+1) (w.heap.size+1+1+1+1+1)) (by simp[results,LV,results91,go_sem]) rfl ?_;exact⟨_,_,_,_,_,rfl,⟨dv.of_blk rfl ((((N.alloc _).alloc _).alloc _).alloc _),dv.of_blk rfl (((M.alloc _).alloc _).alloc _),dv.of_blk rfl ((J.alloc _).alloc _),dv.of_blk rfl (I.alloc _),dv.of_blk rfl D⟩,⟨by omega,by omega,by omega,by omega,by omega⟩,hb⟩
end
section
open Go.RowKit Go.Lib Go.Proofs Go.Shelf
attribute [local go_sem ↓] Go.wp_at_zero Go.wp_at_succ
attribute [local go_sem] Oper.semAt_some
structure yD(n₀ OB:Nat)(W W':World):Prop where
 bel:Below n₀ W W'
 row:∀k,k≠OB->(∃c t f,W.heap[k]? = some (.cells c t f))->W'.heap[k]? = W.heap[k]?
theorem yD.trans{n₀ OB:Nat}{A B C:World}(h:yD n₀ OB A B)(k:yD n₀ OB B C):yD n₀ OB A C:=
 ⟨h.bel.trans k.bel,fun j hj D=>by have e:=h.row j hj D;obtain⟨c,t,f,D⟩:=D;exact(k.row j hj ⟨c,t,f,e.trans D⟩).trans e⟩
theorem yD.refl(n₀ OB:Nat)(W:World):yD n₀ OB W W:=⟨gG _ _,fun _ _ _=>rfl⟩
theorem yD.alloc{n₀ OB:Nat}{A W:World}(h:yD n₀ OB A W)(I:n₀<=W.heap.size)(o:Obj):yD n₀ OB A (W.alloc o):=
 h.trans ⟨(gG _ _).alloc I o,fun k _ D=>by obtain⟨c,t,f,D⟩:=D;exact jF W o k (Array.getElem?_eq_some_iff.1 D).1⟩
theorem yD.blk{n₀ OB:Nat}{W W':World}(h:yD n₀ OB W W'){b:Nat}{t:TypeId}{cs:Array Value}(hb:an W b t cs)(D:b≠OB):an W' b t cs:=
 (h.row b D ⟨cs,t,(0,0),hb⟩).trans hb
theorem E1{n₀ OB:Nat}{w:World}(M:n₀<=w.heap.size)(W:World)(l:Nat)(o o':Obj)(N:w.heap.size<=l)(h:W.heap[l]? = some o)(I:o.isCells=false)(J:o.isWalk=false):yD n₀ OB W (W.putObj l o'):=
 ⟨belowK_b M W l o o' N h I J,fun k _ D=>by obtain⟨c,t,f,D⟩:=D;refine World.putObj_heap_other (fun e=>?_);subst e;rw[h]at D;injection D with D;subst D;cases I⟩
abbrev YV:=Value×{ k:Nat // k<=1000 }
def yE(x:YV):Array Value:=#[x.1,.int .i64 (x.2.1:Int)]
theorem O2(l n₀ OB N:Nat)(J Jx:List YV->World->Prop)(hJ:∀s W o,J s W->J s (W.alloc o))
  (hY:∀m pre x W,J pre W->pre.length<N->YieldAt Fence.wide m prog l (yE x) W fun e W'=>(e=.returned (.bool true)/\J (pre++[x]) W'/\yD n₀ OB W W')\/(e=.returned (.bool false)/\Jx (pre++[x]) W')):
  ∀ (g k:Nat)(v:Value)(n:Nd)(pre:List YV)(W:World),g<=1000->af (· < n₀) W v n->sF g n->J pre W->n₀<=W.heap.size->OB<W.heap.size->pre.length+(aP g n).length<=N ->
    CallsIn Fence.wide k prog 177 #[v,.int .i64 (g:Int),.func (.yield l) #[] #[]] W fun e W'=>
     (e=.returned (.bool true)/\(∃ys,ys.map (·.2.1)=aP g n/\J (pre++ys) W')/\yD n₀ OB W W')\/(e=.returned (.bool false)/\∃q,Jx q W'):=by
 intro g;induction g with
 |zero=>
  intro k v n pre W _ hv _ U hn _ _;obtain⟨A,cp,rfl,hC⟩:=hv.toC;have O:=hid (hJ _ _ (.cells (nv n A cp) 24) U);refine callsIn_of_wp func177 rfl trivial ?_ rfl;simp only[ntmps177,vg,gS,qa,Nat.reduceAdd,Nat.reduceSub,qM,qN,vh,qR,vb,jP]
  gi_wp2
  go_ret;exact .inl ⟨rfl,⟨[],rfl,by simpa using O.out⟩,(yD.refl _ _ _).alloc hn _⟩
 | succ g ih=>
  intro k v n pre W hg hv hw U hn hob hN;have gs:=hv;obtain⟨A,cp,rfl,hC⟩:=hv.toC;(have gr:∀k:Nat,((Fence.wide).depth.isSome=true->1<=k):=fun k h=>by cases h);have O:=hid (hJ _ _ (.cells (nv n A cp) 24) U);have b1:=(aj W (nv n A cp)).2;(have hz:((g:Int)+1==0)=false:=by simp;omega);rw[aP,gS]at hN;obtain⟨fn,tmps,assign,body,hy,hR⟩:=hY (k-1) pre (.agg (nv n A cp),⟨g+1,hg⟩) _ O.out (by omega);refine callsIn_of_wp func177 rfl trivial ?_ rfl;simp only[ntmps177,vg,gS,qa,Nat.reduceAdd,Nat.reduceSub,qM,qN,vh,qR,vb,jP];have gx:(Instr.yield l #[.agg (nv n A cp),.int .i64 ((g:Int)+1)]).run prog (W.alloc (.cells (nv n A cp) 24))=.ok (.round l fn tmps assign body) (W.alloc (.cells (nv n A cp) 24)):=hy;have HN:=hid hN;have HW:=hid hw;have HV:=hid gs;have HH:=hid hY;have HI:=hid ih;have g4:=hid hJ;have gv:=hid ((yD.refl n₀ OB W).alloc hn (.cells (nv n A cp) 24));clear hy gs hv hC hN hw U hY ih hJ
  gi_wp2
  refine⟨gr _,hR.mono ?_⟩;rintro e W1(⟨rfl,gq,M⟩|⟨rfl,gi⟩)
  case inr=>
   have g1:=hid gi;clear gi
   gi_wp2
   go_ret;exact .inr ⟨rfl,_,g1.out⟩
  have c1:=M.blk b1 (by omega);obtain⟨x0,x1,x2,x3,_,_,_,_⟩:=ab c1;have g7:=hid gq;have g3:=hid (gv.out.trans M);have gy:=M.bel.size;simp at gy;clear hR gq M O gx b1 gv
  gi_wp2
  generalize hpre:pre++[((.agg (nv n A cp):Value),(⟨g+1,hg⟩:{ k:Nat // k<=1000 }))]=D at *;(have yk:D.length=pre.length+1:=by rw[<-hpre];simp);have gu:=hid hpre;clear hpre;have g9:=HW.out.1.1
  gi_loopw [8,19] (fun _ u19 wr=>∃(i:Nat)(ys:List YV),i<=n.kids.length/\u19=.int .i64 (i:Int)/\ys.map (·.2.1)=(n.kids.take i).flatMap (aP g)/\J (D++ys) wr/\yD n₀ OB W wr) (fun _ u19 _=>n.kids.length-(RowKit.intOf u19).toNat)
  case atStart=>exact⟨0,[],gP _,rfl,rfl,by simpa using g7.out,g3.out⟩
  case round=>
   clear x0 x1 x2 x3 c1;obtain⟨i,ys,hi,rfl,ge,U,hk⟩:=hrel;have ga:=hid ge;have gw:=hid U;clear ge U;by_cases I:i<n.kids.length
   ·(have gj:(i:Int)<(n.kids.length:Int):=by omega);(have h0:(0:Int)<=(i:Int):=by omega);obtain⟨b,off,A1,gt,rfl,ha,hc,k0,k1,k2,k3,gm⟩:=(HV.out.keep (fun b hb _=>hk.bel.block b hb)).kidsV.kid i I;have HM:=hid (gX I);have gb:=hid (show(n.kids.take (i+1)).flatMap (aP g)=(n.kids.take i).flatMap (aP g)++aP g n.kids[i]by rw[gZ I,kJ];simp);(have gl:((n.kids.take (i+1)).flatMap (aP g)).length<=(n.kids.flatMap (aP g)).length:=by(conv=>rhs;rw[<-va (i+1) n.kids,kJ]);rw[gL];omega);generalize n.kids[i]=x at *;(have gg:ys.length=((n.kids.take i).flatMap (aP g)).length:=by rw[<-ga.out,jT]);have g8:=hk.bel.size;have HC:=hid (HI.out (k-1) _ x (D++ys) _ (by omega) (gm.keep (w':=wr.alloc (.cells (nv x A1 gt) 24)) (fun b _ I=>jF wr _ b I)) (HW.out.2 x HM.out) (g4.out _ _ (.cells (nv x A1 gt) 24) gw.out) (by simp;omega) (by simp;omega) (by have:=HN.out;rw[gb.out,gL]at gl;rw[gL,yk,gg];omega));clear gm gl gg
    gi_wp2
    refine⟨trivial,gr _,HC.out.mono ?_⟩;rintro e W2(⟨rfl,⟨zs,gd,gp⟩,gn⟩|⟨rfl,q,gh⟩)
    case inr=>
     have g0:=hid gh;clear gh
     gi_wp2
     go_ret;exact .inr ⟨rfl,_,g0.out⟩
    have HZ:=hid (show(ys++zs).map (·.2.1)=(n.kids.take (i+1)).flatMap (aP g)by rw[kT,ga.out,gd,gb.out]);have g6:Hid (J (D++(ys++zs)) W2):=hid (by rw[<-gO];exact gp);have g2:=hid ((hk.alloc (by omega) _).trans gn);clear HC gd gp gn gb k0 k1 k2 k3
    gi_wp2
    go_roundw
    case rel=>exact⟨i+1,ys++zs,by omega,by go_num,HZ.out,g6.out,g2.out⟩
    case measure=>simp[RowKit.intOf];omega
   ·(have gj:¬ (i:Int)<(n.kids.length:Int):=by omega);have ht:n.kids.take i=n.kids:=jA (by omega);have gz:=hid (show(((.agg (nv n A cp):Value),(⟨g+1,hg⟩:{ k:Nat // k<=1000 }))::ys).map (·.2.1)=aP (g+1) n by rw[aP,kE,ga.out,ht]);have g5:Hid (J (pre++((.agg (nv n A cp):Value),(⟨g+1,hg⟩:{ k:Nat // k<=1000 }))::ys) wr):=hid (by have:=gw.out;rw[<-gu.out,gO]at this;simpa using this);clear ht
    gi_wp2
    go_ret;exact .inl ⟨rfl,⟨_,gz.out,g5.out⟩,hk⟩
theorem yF(l n₀ OB k g:Nat)(v:Value)(n:Nd)(J Jx:List YV->World->Prop)(hJ:∀s W o,J s W->J s (W.alloc o))
  (hY:∀pre x W,J pre W->pre.length<(aP g n).length->YieldAt Fence.wide (k-1) prog l (yE x) W fun e W'=>(e=.returned (.bool true)/\J (pre++[x]) W'/\yD n₀ OB W W')\/(e=.returned (.bool false)/\Jx (pre++[x]) W'))
  (W:World)(bn bd:Nat)(A:Option Addr)(cp:Nat)(he:v=.agg (nv n A cp))(hg:g<=1000)(I:an W bn 24 (nv n A cp))(M:an W bd 3 #[(g:Int)])
  (hv:af (· < n₀) W v n)(hw:sF g n)(hn:n₀<=W.heap.size)(U:OB<W.heap.size)(h0:J [] W):
  CallsIn Fence.wide k prog 176 #[.func (.yield l) #[] #[],.pointer (some ⟨bn,0,none⟩),.pointer (some ⟨bd,0,none⟩)] W fun e W'=>(∃v,e=.returned v)/\((∃ys,ys.map (·.2.1)=aP g n/\J ys W')\/(∃q:List YV,True/\Jx q W')):=by
 (have ga:∀k:Nat,((Fence.wide).depth.isSome=true->1<=k):=fun k h=>by cases h);have O:=hid (O2 l n₀ OB (aP g n).length J Jx hJ (fun m pre x W N hl=>by obtain⟨fn,tmps,assign,body,hy,hR⟩:=hY pre x W N hl;exact⟨fn,tmps,assign,body,hy,⟨hR.1,fun c cs _=>hR.2 c cs (fun d h=>by cases h)⟩⟩) g (k-1) v n [] W hg hv hw h0 hn U (by simp));obtain⟨x0,x1,x2,x3,_,_,_,_⟩:=ab I;have hd:=a7 M;subst he;clear hv hY hJ I M hw;refine callsIn_of_wp func176 rfl trivial ?_ rfl;simp only[ntmps176,vg,gS,qa,Nat.reduceAdd,Nat.reduceSub,qM,qN,vh,qR,vb,jP]
 gi_wp2
 refine⟨trivial,ga _,O.out.mono ?_⟩;rintro e W1(⟨rfl,⟨ys,D,N⟩,hk⟩|⟨rfl,q,hx⟩)
 ·have gb:=hid D;have gd:=hid N;clear D N O
  gi_wp2
  go_end0;exact⟨⟨_,rfl⟩,.inl ⟨ys,gb.out,by simpa using gd.out⟩⟩
 ·have HX:=hid hx;clear hx O
  gi_wp2
  go_end0;exact⟨⟨_,rfl⟩,.inr ⟨q,trivial,HX.out⟩⟩
theorem Co(k:Nat)(v:Value)(d:Int)(n:Nd)(w:World)(D:aF w v n):
  CallsIn Fence.wide k prog 125 #[v,d] w fun e w'=>e=.returned (.func (.func 176) #[] #[w,.pointer (some ⟨w.heap.size+1,0,none⟩)])/\w'=(w.alloc (.cells v.cells 24)).alloc (.cells #[d] 3):=by
 obtain⟨A,cp,rfl,I⟩:=D.toC;clear D I;refine callsIn_of_wp func125 rfl trivial ?_ rfl;simp only[ntmps125,vg,gS,qa,Nat.reduceAdd,Nat.reduceSub,qM,qN,vh,qR,vb,jP]
 gi_wp2
 go_ret;exact⟨rfl,rfl⟩
end
end Go.Proofs.YtiebcdeafofgdaaGreatDoor
