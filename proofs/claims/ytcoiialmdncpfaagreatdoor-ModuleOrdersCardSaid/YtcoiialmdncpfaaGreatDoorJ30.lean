/-
  Parts of the proof: Look Begin File Pix Pout Pfile Gord Gcmp RowK. By an AI agent.
-/
import Derived.Test.YtcoiialmdncpfaaGreatDoorJ06
import Derived.Test.YtcoiialmdncpfaaGreatDoorJ09
import Derived.Test.YtcoiialmdncpfaaGreatDoorJ29
import Derived.Test.YtcoiialmdncpfaaGreatDoorJ13
import Derived.Test.YtcoiialmdncpfaaGreatDoorJ26
import Derived.Test.YtcoiialmdncpfaaGreatDoorJ03
import Derived.Test.YtcoiialmdncpfaaGreatDoorJ02
import Derived.Test.YtcoiialmdncpfaaGreatDoorJ27
import Derived.Test.YtcoiialmdncpfaaGreatDoorProg
import Derived.Test.YtcoiialmdncpfaaGreatDoorJ00
import Derived.Deep.LoopGhost
import Derived.BigQuiet
import Derived.Sort.Walk0
import Derived.Shelf.SlSortCmp.Insertion
import Derived.Lib.SlicesCompact
import Derived.Laws.StructEq
import Derived.WalkKit
import Derived.WalkLawsBesides
import Derived.WalkSpells
import Derived.Lib.Hide
import Derived.Deep.RegionHeld3
import Derived.Deep.DrawnRows
import Derived.Sort.Grow
import Derived.Deep.DeepMust
import Derived.Shelf.SlSortCmp.KitK
import Derived.Shelf.SlicesQ.Reverse
import Derived.Laws.IdiomCopy
open Go.Proofs.Tryz
set_option maxRecDepth 100000
set_option maxHeartbeats 8000000
namespace Go.Proofs.YtcoiialmdncpfaaGreatDoor
section
open Go.RowKit Go.Lib Go.Proofs
attribute [local go_sem ↓] Go.wp_at_zero Go.wp_at_succ
attribute [local go_sem] aK aL aM
theorem vg:type_of% @List.find?_cons_of_pos:=@List.find?_cons_of_pos
theorem vh:type_of% @List.find?_cons_of_neg:=@List.find?_cons_of_neg
theorem vi:type_of% @getElem!_pos:=@getElem!_pos
theorem vj:type_of% @Nat.div_mul_self_eq_mod_sub_self:=@Nat.div_mul_self_eq_mod_sub_self
theorem xg:type_of% @Nat.div_lt_of_lt_mul:=@Nat.div_lt_of_lt_mul
def tZ:ByteArray:=(⟨#[32,60,60,61,32,62,62,61,32,38,94,61,32,46,46,46,32,43,61,32,45,61,32,42,61,32,47,61,32,37,61,32,38,61,32,124,61,32,94,61,32,60,60,32,62,62,32,38,94,32,60,45,32,38,32,94,32,58,32]⟩:BA)
def ow(t:cz):Bool:=decide (t.kind=3)||((decide (t.kind=6)&&Lib.contains tZ.data.toList ((⟨#[32]⟩++t.text++⟨#[32]⟩:ByteArray)).data.toList)||(decide (t.kind=2)&&(t.text.toList==[105,109,112,111,114,116])))
def Bc(o:Option ByteArray):Bool:=match o with
 |none=>true
 |some x=>decide (1000<x.size)
def nS(t:cz):Bool:=(decide (t.kind=4)&&(lX t.text).isNone)||(decide (t.kind=5)&&Bc (ed t.text))
def IX(a b:Option cz):Option (Int×Int):=match a with
 |some t=>some (t.pos,16)
 | none=>match b with
   |some t=>some (t.pos,4)
   |none=>none
def rM(l:List cz):Option (Int×Int):=IX (l.find? ow) (l.find? nS)
def IY(r:Option (Int×Int)):Value:=match r with
 |some q=>.tuple #[.int .i64 q.1,.int .i64 q.2]
 |none=>.tuple #[.int .i64 0,.int .i64 0]
theorem Eh(A:Option Addr)(c:Nat)(l:List cz)(w:World)(hr:aA w w.heap.size 3 A l.length (l.flatMap mc))(hl:l.length<=1000000)(hT:fQ w)(hz:∀t∈l,t.text.size<=65536):
  Calls prog 85 #[.slice A l.length c] w fun e w'=>e=.returned (IY (rM l))/\Below w w w':=by
 have HR:=hid hr;have HT:=hid hT;have HZ:=hid hz;obtain⟨R1,gq⟩:∃R1,l.find? ow=R1:=⟨_,rfl⟩;obtain⟨R2,gp⟩:∃R2,l.find? nS=R2:=⟨_,rfl⟩;have z:Hid (rM l=IX R1 R2):=hid (by rw[rM,gq,gp]);have gt:=hid gq;have gs:=hid gp;clear hr hT hz gq gp;(go_enter func85,ntmps85);go_wp2_with fail;go_loopg [5,12] l.length (fun g _ u12 wr=>∃i:Nat,i<=l.length/\l.length-i<=g/\u12=.int .i64 (i:Int)/\Below w w wr/\(l.drop i).find? ow=R1)
 case atStart=>exact⟨0,gT _,by omega,rfl,gC _ _,gt.out⟩
 case round=>
  clear gt;obtain⟨i,hi,hg,rfl,hB,hq⟩:=hrel;have h:=hid hq;clear hq;by_cases M:i<l.length
  ·(have gd:(i:Int)<(l.length:Int):=by omega);have gw:=hB.size;(have h0:(0:Int)<=(i:Int):=by omega);obtain⟨bk,off,gr,gu,ga⟩:=(HR.out.below hB).el dX (by omega) rfl M;subst gr;have k0:=ga i M 0 _ rfl;have k1:=ga i M 1 _ rfl;have k2:=ga i M 2 _ rfl;simp only[kF]at k0;have gi:=HZ.out _ (jF M);have q:=hid (jX M);clear ga;generalize l[i]=t at *;obtain⟨tk,tt,tp⟩:=t;simp only at k0 k1 k2 gi;by_cases h3:tk=3
   ·subst h3;have D:ow ⟨3,tt,tp⟩=true:=rfl;have y:=hid (show R1=some ⟨3,tt,tp⟩by rw[<-h.out,q.out,vg (by show _=true;rw[D])]);clear h;clear D;go_wp2_with fail;go_ret2;rw[z.out,y.out];exact⟨rfl,lh⟩
   (have e3:(tk==3)=false:=by rw[gD];exact h3);by_cases h6:tk=6
   ·subst h6;have gn:=hid (fun w'(hb:Below w w w')=>dz tZ (⟨#[32]⟩++tt++⟨#[32]⟩) w' (HT.out.below hb).tab (gM (show tZ.size<=100 by decide +kernel) (by omega)));clear h3 e3;cases gg:Lib.contains tZ.data.toList ((⟨#[32]⟩++tt++⟨#[32]⟩:ByteArray)).data.toList with
    |true=>(have D:ow ⟨6,tt,tp⟩=true:=by rw[ow];simp only;rw[gg];rfl);have y:=hid (show R1=some ⟨6,tt,tp⟩by rw[<-h.out,q.out,vg (by show _=true;rw[D])]);clear h;rw[gg]at gn;clear D gg;go_wp2_with fail;refine(gn.out _ lh).mono ?_;rintro e w2⟨rfl,rfl⟩;go_wp2_with fail;go_ret2;rw[z.out,y.out];exact⟨rfl,lh⟩
    |false=>
     (have D:ow ⟨6,tt,tp⟩=false:=by rw[ow];simp only;rw[gg];rfl);have y:=hid (show(l.drop (i+1)).find? ow=R1 by rw[<-h.out,q.out,vh (by show ¬ _=true;rw[D];decide)]);clear h;rw[gg]at gn;clear D gg;go_wp2_with fail;refine(gn.out _ lh).mono ?_;rintro e w2⟨rfl,rfl⟩;go_wp2_with fail;go_roundg (l.length-(i+1))
     case measure=>omega
     case rel=>exact⟨i+1,by omega,gA _,by go_num,lh,y.out⟩
   (have e6:(tk==6)=false:=by rw[gD];exact h6);by_cases h2:tk=2
   ·subst h2;clear h3 e3 h6 e6;cases gj:(tt.toList==[105,109,112,111,114,116])with
    |true=>(have D:ow ⟨2,tt,tp⟩=true:=by rw[ow];simp only;rw[gj];rfl);have y:=hid (show R1=some ⟨2,tt,tp⟩by rw[<-h.out,q.out,vg (by show _=true;rw[D])]);clear h;clear D;go_wp2_with fail;go_ret2;rw[z.out,y.out];exact⟨rfl,lh⟩
    |false=>
     (have D:ow ⟨2,tt,tp⟩=false:=by rw[ow];simp only;rw[gj];rfl);have y:=hid (show(l.drop (i+1)).find? ow=R1 by rw[<-h.out,q.out,vh (by show ¬ _=true;rw[D];decide)]);clear h;clear D;go_wp2_with fail;go_roundg (l.length-(i+1))
     case measure=>omega
     case rel=>exact⟨i+1,by omega,gA _,by go_num,lh,y.out⟩
   (have e2:(tk==2)=false:=by rw[gD];exact h2);(have D:ow ⟨tk,tt,tp⟩=false:=by rw[ow];simp only;rw[gV h3,gV h6,gV h2];rfl);have y:=hid (show(l.drop (i+1)).find? ow=R1 by rw[<-h.out,q.out,vh (by show ¬ _=true;rw[D];decide)]);clear h;clear D h3 h6 h2;go_wp2_with fail;go_roundg (l.length-(i+1))
   case measure=>omega
   case rel=>exact⟨i+1,by omega,gA _,by go_num,lh,y.out⟩
  ·(have gd:¬ (i:Int)<(l.length:Int):=by omega);have gl:Hid (R1=none):=hid (by rw[<-h.out,jZ (by omega)];rfl);clear hi M h;go_wp2_with fail;go_loopg [7,8,9,46] l.length (fun g _ _ _ u46 wy=>∃i:Nat,i<=l.length/\l.length-i<=g/\u46=.int .i64 (i:Int)/\Below w w wy/\(l.drop i).find? nS=R2)
   case atStart=>exact⟨0,gT _,by omega,rfl,hB,gs.out⟩
   case round=>
    clear gd hB gs;obtain⟨i,hi,hg,rfl,hB,hq⟩:=hrel;have h:=hid hq;clear hq;by_cases M:i<l.length
    ·(have gd:(i:Int)<(l.length:Int):=by omega);have gw:=hB.size;(have h0:(0:Int)<=(i:Int):=by omega);obtain⟨bk,off,gr,gu,ga⟩:=(HR.out.below hB).el dX (by omega) rfl M;subst gr;have k0:=ga i M 0 _ rfl;have k1:=ga i M 1 _ rfl;have k2:=ga i M 2 _ rfl;simp only[kF]at k0;have gi:=HZ.out _ (jF M);have q:=hid (jX M);clear ga;generalize l[i]=t at *;obtain⟨tk,tt,tp⟩:=t;simp only at k0 k1 k2 gi;by_cases h4:tk=4
     ·subst h4;have gm:=hid (fun w'=>we tt w' gi);cases J:lX tt with
      |some x=>
       (have D:nS ⟨4,tt,tp⟩=false:=by rw[nS];simp only;rw[J];rfl);have y:=hid (show(l.drop (i+1)).find? nS=R2 by rw[<-h.out,q.out,vh (by show ¬ _=true;rw[D];decide)]);clear h;rw[J]at gm;clear D J;go_wp2_with fail;refine(gm.out _).mono ?_;rintro e w2⟨I,rfl⟩;have O:Below w w w2:=Below.trans lh (I.mono (by simp;omega));have ge:=O.size;go_wp2_with fail;go_roundg (l.length-(i+1))
       case measure=>omega
       case rel=>exact⟨i+1,by omega,gA _,by go_num,O,y.out⟩
      |none=>(have D:nS ⟨4,tt,tp⟩=true:=by rw[nS];simp only;rw[J];rfl);have y:=hid (show R2=some ⟨4,tt,tp⟩by rw[<-h.out,q.out,vg (by show _=true;rw[D])]);clear h;rw[J]at gm;clear D J;go_wp2_with fail;refine(gm.out _).mono ?_;rintro e w2⟨I,n,hn,rfl⟩;have O:Below w w w2:=Below.trans lh (I.mono (by simp;omega));have ge:=O.size;have gb:=(aa.new wr 105 #[.int .i64 4,.string tt,.int .i64 tp]).below I (by simp);have z2:w2.cell? ⟨wr,2,none⟩=some (.int .i64 tp):=(gb.cell 2).trans rfl;(have gj:(n != 0)=true:=by rw[kE];exact hn);clear I gb hn;go_wp2_with fail;go_ret2;rw[z.out,gl.out,y.out];exact⟨rfl,O⟩
     (have e4:(tk==4)=false:=by rw[gD];exact h4);by_cases h5:tk=5
     ·subst h5;have gh:=hid (fun w'(gv:Below w w w')=>tj tt w' (HT.out.below gv) (by omega));clear h4;cases J:ed tt with
      | some x=>
       rw[J]at gh;by_cases yk:1000<x.size
       ·(have D:nS ⟨5,tt,tp⟩=true:=by rw[nS];simp only;rw[J,Bc];simp only[jK yk];rfl);(have hd:decide ((1000:Int)<(x.size:Int))=true:=by rw[jB];omega);have y:=hid (show R2=some ⟨5,tt,tp⟩by rw[<-h.out,q.out,vg (by show _=true;rw[D])]);clear h;clear D J yk;go_wp2_with fail;refine(gh.out _ lh).mono ?_;rintro e w2⟨I,rfl⟩;have O:Below w w w2:=Below.trans lh (I.mono (by simp;omega));have ge:=O.size;have gb:=(aa.new wr 105 #[.int .i64 5,.string tt,.int .i64 tp]).below I (by simp);have z2:w2.cell? ⟨wr,2,none⟩=some (.int .i64 tp):=(gb.cell 2).trans rfl;clear I gb;go_wp2_with fail;go_ret2;rw[z.out,gl.out,y.out];exact⟨rfl,O⟩
       ·(have D:nS ⟨5,tt,tp⟩=false:=by rw[nS];simp only;rw[J,Bc];simp only[gV yk];rfl);(have hd:decide ((1000:Int)<(x.size:Int))=false:=by rw[gH];omega);have y:=hid (show(l.drop (i+1)).find? nS=R2 by rw[<-h.out,q.out,vh (by show ¬ _=true;rw[D];decide)]);clear h;clear D J yk;go_wp2_with fail;refine(gh.out _ lh).mono ?_;rintro e w2⟨I,rfl⟩;have O:Below w w w2:=Below.trans lh (I.mono (by simp;omega));have ge:=O.size;clear I;go_wp2_with fail;go_roundg (l.length-(i+1))
        case measure=>omega
        case rel=>exact⟨i+1,by omega,gA _,by go_num,O,y.out⟩
      |none=>(have D:nS ⟨5,tt,tp⟩=true:=by rw[nS];simp only;rw[J];rfl);have y:=hid (show R2=some ⟨5,tt,tp⟩by rw[<-h.out,q.out,vg (by show _=true;rw[D])]);clear h;rw[J]at gh;clear D J;go_wp2_with fail;refine(gh.out _ lh).mono ?_;rintro e w2⟨I,n,hn,rfl⟩;have O:Below w w w2:=Below.trans lh (I.mono (by simp;omega));have ge:=O.size;have gb:=(aa.new wr 105 #[.int .i64 5,.string tt,.int .i64 tp]).below I (by simp);have z2:w2.cell? ⟨wr,2,none⟩=some (.int .i64 tp):=(gb.cell 2).trans rfl;(have gj:(n != 0)=true:=by rw[kE];exact hn);clear I gb hn;go_wp2_with fail;go_ret2;rw[z.out,gl.out,y.out];exact⟨rfl,O⟩
     (have e5:(tk==5)=false:=by rw[gD];exact h5);(have D:nS ⟨tk,tt,tp⟩=false:=by rw[nS];simp only;rw[gV h4,gV h5];rfl);have y:=hid (show(l.drop (i+1)).find? nS=R2 by rw[<-h.out,q.out,vh (by show ¬ _=true;rw[D];decide)]);clear h;clear D h4 h5;go_wp2_with fail;go_roundg (l.length-(i+1))
     case measure=>omega
     case rel=>exact⟨i+1,by omega,gA _,by go_num,lh,y.out⟩
    ·(have gd:¬ (i:Int)<(l.length:Int):=by omega);have y:Hid (R2=none):=hid (by rw[<-h.out,jZ (by omega)];rfl);go_wp2_with fail;go_ret2;rw[z.out,gl.out,y.out];exact⟨rfl,hB⟩
end
section
open Go.RowKit Go.Lib Go.Proofs
attribute [local go_sem ↓] Go.wp_at_zero Go.wp_at_succ
def db(s:ByteArray):tb:=match ex s with
 | .err p n=>.err p n
 | .toks L=>match rM L with
   |some q=>.err q.1 q.2
   |none=>.toks L
structure EY(E:bC)(w:World)(s:ByteArray)(L:List cz):Prop where
 c:E.c=⟨L,(s.size:Int)⟩
 at_:aH E w ⟨0,false,-1⟩
 base:E.w0.heap.size<=E.R
 tab:fQ E.w0
 small:∀t∈E.c.toks,t.text.size<=65536
 few:L.length<=65537
def Ge(s:ByteArray)(w:World)(r:tb)(e:Ending)(w':World):Prop:=match r with
 | .err p n=>e=.returned (.tuple #[.pointer none,.int .i64 p,.int .i64 n])/\Below w w w'
 | .toks L=>∃E:bC,e=.returned (.tuple #[E.R,.int .i64 0,.int .i64 0])/\EY E w' s L/\w.heap.size<=E.R/\Below w w w'
theorem CI{L:List cz}{q:Int×Int}(h:rM L=some q):q.2≠0:=by
 unfold rM IX at h;split at h
 ·injection h with h;subst h;exact(by decide:(16:Int)≠0)
 ·split at h
  ·injection h with h;subst h;exact(by decide:(4:Int)≠0)
  ·cases h
theorem Gf(A0:Option Addr)(c:Nat)(s:ByteArray)(w:World)(hv:bR w A0 c s)(hT:fQ w)(ga:s.size<=10000000000000000):
  Calls prog 49 #[.slice A0 s.size c] w (Ge s w (db s)):=by
 have HS:=hid (td A0 c s w hv hT ga);have HT:=hid hT;obtain⟨O,hO⟩:∃O,db s=O:=⟨_,rfl⟩;rw[hO];have HO:=hid hO;clear hT hv hO;cases M:ex s with
 |err p n=>have x:Hid (O=.err p n):=hid (by rw[<-HO.out,db,M]);have hn:=mJ M;(have y:(n != 0)=true:=by rw[kE];omega);rw[M]at HS;clear HO M hn;(go_enter func49,ntmps49);go_wp2_with fail;refine HS.out.mono ?_;rintro e w1⟨rfl,hB⟩;go_wp2_with fail;go_ret3;rw[x.out];exact⟨rfl,hB⟩
 | toks L=>
  have HZ:Hid (∀t∈L,t.text.size<=65536):=hid (fun t h=>((fz M).2.2 t h).1);have HL:=hid (show(match rM L with
   |some q=>tb.err q.1 q.2
   |none=>.toks L)=O by rw[<-HO.out,db,M])
  rw[M]at HS;clear HO M;(go_enter func49,ntmps49);go_wp2_with fail;refine HS.out.mono ?_;rintro e w1⟨A,cp,rfl,gd,z,hr,hB⟩;have gb:=hid (Eh A cp L w1 hr (by omega) (HT.out.below hB) HZ.out);have HR:=hid hr;clear HS hr;go_wp2_with fail;refine gb.out.mono ?_;rintro e w2⟨rfl,J⟩;have I:=aE hB J;have gg:=hid (HR.out.below J);clear gb HR;cases D:rM L with
  |some q=>have x:Hid (O=.err q.1 q.2):=hid (by rw[<-HL.out,D]);have hq:=CI D;(have y:(q.2 != 0)=true:=by rw[kE];exact hq);obtain⟨q1,q2⟩:=q;simp only at y x;clear hq D HL;unfold IY;simp only;go_wp2_with fail;go_ret3;rw[x.out];exact⟨rfl,I⟩
  |none=>have x:Hid (O=.toks L):=hid (by rw[<-HL.out,D]);have ge:=hid (HT.out.below I);clear D HL;unfold IY;simp only;go_wp2_with fail;go_ret3;rw[x.out];refine⟨⟨w2.heap.size,A,cp,⟨L,(s.size:Int)⟩,w2⟩,rfl,⟨rfl,⟨aa.new _ _ _,?_,gT _,by show L.length<=1000000;omega,gd,fun b hb=>gS w2 _ b hb⟩,gA _,ge.out,HZ.out,z⟩,I.size,I.alloc I.size _⟩;exact FX (gg.out.below ((gC w1.heap.size w2).alloc J.size _)) J.size
end
section
open Go.RowKit Go.Lib Go.Proofs
attribute [local go_sem ↓] Go.wp_at_zero Go.wp_at_succ
attribute [local go_sem] aZ a6 a7 a8
theorem po{fn:Func}{q r1 r2:Tmp}(I:fn.results = #[.cell q 41,.tmp r1,.tmp r2])(tmps:Array Value){w:World}{g:Nat}{a b c d v1 v2:Value}(O:tmps.getD q undef=.pointer (some ⟨g,0,none⟩))(x:tmps.getD r1 undef=v1)(h:tmps.getD r2 undef=v2)(hb:aa w g 41 #[a,b,c,d]):
  (results fn tmps).run prog w=.ok (.tuple #[.agg #[a,b,c,d],v1,v2]) w:=by obtain⟨d0,d1,z,y,-,-,-,-⟩:=ah hb;unfold results;rw[I];(have D:tmps[q]?.getD undef=.pointer (some ⟨g,0,none⟩):=by simpa using O);(have M:tmps[r1]?.getD undef=v1:=by simpa using x);(have J:tmps[r2]?.getD undef=v2:=by simpa using h);simp[D,M,J,go_sem,d0,d1,z,y]
theorem pT(a:Array Value)(w:World):(callFunc 51 a).run prog w=.ok (.enter 51 a) w:=by kernel_rfl
inductive E9 where
 |tree (n:Nd)
 |bad (p e:Int)
 |out
def lB(c:Cx):d5 Nd->E9
 | .out=>.out
 | .fail p=>.bad p 5
 | .ok n s1=>if s1.at_<c.toks.length then .bad (ar c s1) 5 else if cB n=true then .tree n else .bad 0 11
def dD(F:eQ)(s:ByteArray):E9:=match db s with
 | .err p n=>.bad p n
 | .toks L=>lB ⟨L,(s.size:Int)⟩ (fu F ⟨L,(s.size:Int)⟩ ⟨0,false,-1⟩)
def CP(w:World)(r:E9)(e:Ending)(w':World):Prop:=match r with
 | .tree n=>∃v,e=.returned (.tuple #[v,.int .i64 0,.int .i64 0])/\aq (fun b=>w.heap.size<b) w' v n/\Below w w w'
 | .bad p k=>e=.returned (.tuple #[.agg bg,.int .i64 p,.int .i64 k])/\Below w w w'
 | .out=>True
theorem tu{s:ByteArray}{p n:Int}(h:db s=.err p n):n≠0:=by
 unfold db at h;cases D:ex s with
 |err a b=>rw[D]at h;injection h with _ h;have:=mJ D;omega
 |toks L=>
  rw[D]at h;cases I:rM L with
  |some q=>simp only[I]at h;injection h with _ h;have:=CI I;omega
  |none=>simp only[I]at h;cases h
theorem Bf(A0:Option Addr)(c:Nat)(s:ByteArray)(w:World)(hv:bR w A0 c s)(hT:fQ w)(g3:s.size<=1000000000)(F:eQ)
  (hF:∀L E w',db s=.toks L->EY E w' s L->mC E F)(gj:dD F s≠.out)
  (gq:∀L n s1,db s=.toks L->fu F ⟨L,(s.size:Int)⟩ ⟨0,false,-1⟩=.ok n s1->s1.at_<=L.length/\tQ 101 n/\(bi 100 n).length<=1000000000):
  Calls prog 25 #[.slice A0 s.size c] w (CP w (dD F s)):=by
 have g6:∀(fn:Fn)(first cap:Array Value)(w:World),(Instr.makeFunc fn first cap).run prog w=.ok (.func fn first cap) w:=fun _ _ _ _=>rfl;have z:Below w w (w.alloc (.cells bg 41)):=(gC _ _).alloc (gA _) _;have gm:aa (w.alloc (.cells bg 41)) w.heap.size 41 bg:=aa.new w _ _;have gv:bR (w.alloc (.cells bg 41)) A0 c s:=hv.below z;have ga:=hid (Gf A0 c s (w.alloc (.cells bg 41)) gv (hT.below z) (by omega));(have g5:0<w.heap.size:=by obtain⟨m,h⟩:=hT.tab;exact gU w _ h);have HT:=hid hT;obtain⟨O,hO⟩:∃O,dD F s=O:=⟨_,rfl⟩;rw[hO]at gj |-;clear hv gv hT;cases ht:db s
 case' err p n=>have HX:Hid (O=.bad p n):=hid (by rw[<-hO,dD,ht]);have hn:=tu ht;(have g4:(n != 0)=true:=by rw[kE];exact hn);rw[ht]at ga;clear hO gj gq hF ht hn;go_in;go_wp2_with fail;refine ga.out.mono ?_;rintro e w2⟨rfl,J⟩;have gn:=aE z J;have y:=gm.bl J;clear ga gm z J
 case' toks L=>
  have g0:Hid (lB ⟨L,(s.size:Int)⟩ (fu F ⟨L,(s.size:Int)⟩ ⟨0,false,-1⟩)=O):=hid (by rw[<-hO,dD,ht]);have HF:=hid (fun E w'(h:EY E w' s L)=>hF L E w' ht h);have gz:=hid fun n s1 h=>gq L n s1 ht h;have g1:=hid gj;rw[ht]at ga;clear hO gq hF ht gj;go_in;go_wp2_with fail;refine ga.out.mono ?_;rintro e w1⟨E,rfl,gk,gx,J⟩;(have gp:(w.alloc (.cells bg 41)).heap.size=w.heap.size+1:=by simp);rw[gp]at gx;have gi:=aE z J;have gl:=gm.bl J;have gw:=J.size;rw[gp]at gw;have gt:Hid (eu E 51 (#[.pointer (some ⟨E.R,0,none⟩)] ++ #[]) (fu F) w1):=hid (by simpa using(IZ E F (HF.out E w1 gk)).part w1);have g2:=hid gk.c;have gs:=hid gk.at_;have gy:=hid (HT.out.below gi).tab;clear ga gm z gp J gk;go_wp2_with fail;have M:=g2.out;have D:=g0.out;cases hP:fu F ⟨L,(s.size:Int)⟩ ⟨0,false,-1⟩
  case out=>rw[hP]at D;exact absurd D.symm g1.out
  case' fail p=>have HX:Hid (O=.bad p 5):=hid (by rw[<-D,hP];rfl);refine(I3 E _ _ #[] (fu F) ⟨0,false,-1⟩ p ⟨#[102,105,108,101]⟩ w1 gs.out pT gt.out (by rw[M];exact hP)).mono ?_
  case' ok n s1=>
   obtain⟨gr,gb,I⟩:=gz.out n s1 hP;rw[hP,lB]at D;by_cases x:s1.at_<L.length
   case' pos=>have HX:Hid (O=.bad (ar ⟨L,(s.size:Int)⟩ s1) 5):=hid (by rw[<-D,gL x]);have q:=I4 E 51 #[E.R] #[] (fu F) ⟨0,false,-1⟩ s1 n ⟨#[102,105,108,101]⟩ w1 gs.out pT gt.out (by rw[M];exact hP) (by rw[M];exact x);rw[M]at q;refine q.mono ?_;clear q gr x
   case' neg=>
    (have ge:s1.at_=L.length:=by omega);rw[gE x]at D;(have q:=fun b(hb:cB n=b)=>Nr E 51 #[E.R] #[] (fu F) ⟨0,false,-1⟩ s1 n w1 gs.out pT gt.out (by rw[M];exact hP) (by rw[M];exact ge) gy.out (by omega) ⟨#[102,105,108,101]⟩ b fun w v hT hv=>by rw[<-hb];exact Ac v n w hT hv gb I);cases hr:cB n
    case true=>have HX:Hid (O=.tree n):=hid (by rw[<-D,hr];rfl);refine(q true hr).mono ?_;rintro e w2⟨⟨v,rfl,hv⟩,gd⟩;have gn:=gi.trans (pb gd (B:=w.heap.size) (by omega) (by omega));have y:=gl.grown gd;obtain⟨A,cp,rfl,hC⟩:=hv.toC;obtain⟨d0,d1,d2,d3,e0,e1,e2,e3⟩:=ah y;clear gl gi q hC D M hP gr gb I x ge hr;go_wp2_with fail;have gg:=cJ y (.int .i64 n.kind) (.string n.text) (.slice A n.kids.length cp) (.int .i64 n.pos);have gu:=hv.kept (cA (X:=fun b=>w1.heap.size<=b) (wk:=w2) (g:=w.heap.size) (fun b hb=>by have hb:w1.heap.size<=b:=hb;omega) (.int .i64 n.kind) (.string n.text) (.slice A n.kids.length cp) (.int .i64 n.pos));(have gh:Below w w (cM w2 w.heap.size (.int .i64 n.kind) (.string n.text) (.slice A n.kids.length cp) (.int .i64 n.pos)):=by unfold cM;exact(((gn.setCell (gA _) _).setCell (gA _) _).setCell (gA _) _).setCell (gA _) _);unfold cM at gg gu gh;refine jD (po rfl _ (by rfl) (by rfl) (by rfl) gg) rfl ?_;rw[HX.out];exact⟨_,rfl,gu.mono fun b hb _=>by have hb:w1.heap.size<=b:=hb;omega,gh⟩
    case' false=>have HX:Hid (O=.bad 0 11):=hid (by rw[<-D,hr];rfl);refine(q false hr).mono ?_;clear q gr x ge hr
   clear gb I
  all_goals rintro e w2⟨rfl,gd⟩;have gn:=gi.trans (pb gd (B:=w.heap.size) (by omega) (by omega));have y:=gl.grown gd;unfold bg;clear D M hP gl gi
 all_goals obtain⟨d0,d1,d2,d3,e0,e1,e2,e3⟩:=ah y;go_wp2_with fail;have gg:=cJ y (.int .i64 0) (.string ⟨#[]⟩) (.slice none 0 0) (.int .i64 0);(have gh:Below w w (cM w2 w.heap.size (.int .i64 0) (.string ⟨#[]⟩) (.slice none 0 0) (.int .i64 0)):=by unfold cM;exact(((gn.setCell (gA _) _).setCell (gA _) _).setCell (gA _) _).setCell (gA _) _);unfold cM at gg gh;refine jD (po rfl _ (by rfl) (by rfl) (by rfl) gg) rfl ?_;rw[HX.out];exact⟨rfl,gh⟩
end
section
section
variable {c:Cx}
theorem Nz{n:Nd}(h:o6 n):Ix n:=by obtain⟨k,t,l,a⟩:=n;obtain⟨D,-,-,I⟩:=h;have D:l=[]:=D;have I:k=0\/k=6:=I;subst D;unfold Ix;exact⟨fun h=>by omega,by simp,by unfold tY;trivial⟩
mutual
theorem N4{i j:Nat}:∀n:Nd,aN c i j n->fc n<=1000000->Ix n
 | .mk k t l a,h,M=>by obtain⟨h1,q,m,h3,z,y,O⟩:=ez.1 h;rw[aG]at M;have:=wz l;unfold Ix;refine⟨fun J=>?_,by omega,LF l O (by omega)⟩;obtain⟨x,r,e,I,D,-⟩:=q J;exact⟨x,r,e,I,D⟩
theorem LF{i j:Nat}:∀l:List Nd,an c i j l->fZ l<=1000000->tY l
 |[],_,_=>by unfold tY;trivial
 |x::r,h,D=>by rw[bH]at h;rw[ap]at D;unfold tY;exact⟨h.1.elim Nz fun h=>N4 x h (by omega),LF r h.2 (by omega)⟩
end
theorem C1:∀{l:List Nd}{n:Nd},n∈l->fc n<=fZ l
 |m::l,n,h=>by
  rw[ap];rcases List.mem_cons.1 h with rfl|h
  ·omega
  ·have:=C1 h;omega
theorem an.mem{i j:Nat}:∀{l:List Nd}{n:Nd},an c i j l->n∈l->o6 n\/aN c i j n
 |m::l,n,h,D=>by
  rw[bH]at h;rcases List.mem_cons.1 D with rfl|D
  ·exact h.1
  ·exact h.2.mem D
theorem Ao:∀(g:Nat)(n:Nd),(bi g n).length<=fc n
 |0,n=>by simp[bi]
 | g+1,n=>by
  have key:∀l:List Nd,(l.flatMap (bi g)).length<=fZ l:=by
   intro l;induction l with
   |nil=>rw[aB];simp
   |cons m l ih=>have:=Ao g m;rw[qR,gJ,ap];omega
  have:=key n.kids;obtain⟨k,t,l,a⟩:=n;unfold bi;rw[gI,aG];exact Nat.succ_le_succ this
theorem Et:∀(g:Nat){i j:Nat}(n:Nd),(o6 n\/aN c i j n)->fc n<=1000000000->tQ g n
 |0,_,_,_,_,_=>by unfold tQ;trivial
 |g+1,i,j,.mk k t l a,h,M=>by
  rw[aG]at M;have:=wz l;unfold tQ;rcases h with⟨I,-,J,-⟩|h
  ·have I:l=[]:=I;have J:t.size=0:=J;subst I;exact⟨⟨by simp,by show t.size<=_;omega⟩,fun k D=>by simp at D⟩
  ·obtain⟨I,y,m,J,x,q,O⟩:=ez.1 h;refine⟨⟨by show l.length<=_;omega,I⟩,fun k D=>?_⟩;have D:k∈l:=D;exact Et g k (O.mem D) (by have:=C1 D;omega)
theorem LG:∀(g:Nat)(s:St)(n:Nd)(s1:St),c.toks.length<=s.at_->(tI g).expr c s≠.ok n s1
 |0,_,_,_,_=>nofun
 | g+1,s,n,s1,hs=>by
  have z:=rP hs;(have D:∀(x:ByteArray)(s':St),s'.at_=s.at_->aR c s' x=false:=fun x s' he=>by unfold aR NV;rw[he,z];simp);have O:∀b,dW (tI g) c s≠b\/∀x s',b≠.ok x s':=fun b=>by
   unfold dW;rw[z];simp only;rw[gE (by decide),gE (by decide),gE (by decide),gE (by rw[D _ { s with part :=-1 } rfl];decide),gE (by rw[D _ { s with part :=-1 } rfl];decide),gE (by unfold dG;rw[D _ { s with part :=-1 } rfl,vw];exact Bool.false_ne_true)];by_cases hb:(d5.fail c.fin:d5 (Nd×Bool))=b
   ·right;subst hb;exact nofun
   ·left;exact hb
  have M:∀x s',eY (tI g) c s≠.ok x s':=fun x s'=>by
   unfold eY;cases q:dW (tI g) c s with
   |out=>exact nofun
   |fail p=>exact nofun
   |ok y s2=>exact absurd ((O _).resolve_left (fun h=>h q) y s2) (fun h=>h rfl)
  (have J:∀x s',lI (tI g) c s≠.ok x s':=fun x s'=>by unfold lI;rw[D _ _ rfl,D _ _ rfl];exact M x s');have I:∀k x s',lg (tI g) k c s≠.ok x s':=by
   intro k;induction k with
   |zero=>exact J
   |succ k ih=>
    intro x s';unfold lg;cases q:lg (tI g) k c s with
    |out=>exact nofun
    |fail p=>exact nofun
    |ok y s2=>exact absurd q (ih y s2)
  exact I 5 n s1
end
theorem Gw(m:Nat):(fE m).length<=2:=by
 unfold fE;split
 ·simp
 ·split<;>simp
theorem Ap(f:Nat):∀(l:List Nat)(m:Nat),(dR f l m).length<=l.length+2
 |[],m=>by unfold dR;have:=Gw m;simpa using this
 |x::r,m=>by unfold dR;have:=Ap f r ((x*f+m)/10);simp only[gI];omega
theorem wK(radix:Nat):∀(l:List UInt8)(v:List Nat)(line:Bool)(many:Nat)(v':List Nat)(p:Bool×Nat),eX radix l v line many=some (v',p)->v'.length<=v.length+2*l.length
 |[],v,line,many,v',p,h=>by unfold eX at h;injection h with h;injection h with h _;subst h;simp
 | c::r,v,line,many,v',p,h=>by
  unfold eX at h;simp only[gI];split at h
  ·have:=wK radix r v true many v' p h;omega
  ·split at h
   ·cases h
   ·rename_i d _;split at h
    ·have:=wK radix r _ false (many+1) v' p h;have:=Ap radix v d;omega
    ·cases h
theorem LH(l:List UInt8):(ug l).2.length<=l.length:=by
 unfold ug;split
 ·simp
 ·simp
 ·split
  ·split
   ·simp only[gI];omega
   ·split
    ·simp only[gI];omega
    ·split<;>simp only[gI]<;>omega
  ·simp
theorem Gx(s:ByteArray):(mU s).size<=1000000000:=by
 unfold mU lX;split
 ·exact gT _
 ·rename_i I;simp only;split
  ·exact gT _
  ·split
   ·exact gT _
   ·rename_i v line many hn;split
    ·exact gT _
    ·have D:=wK _ _ _ _ _ _ _ hn;have M:=LH s.data.toList;have J:s.data.toList.length=s.size:=rfl;show(lW v).size<=_;unfold lW;show((if v=[]then[0]else v.reverse).map fun d=>UInt8.ofNat (48+d)).toArray.size<=_;rw[jR,jN];simp only[jT]at D;split
     ·simp
     ·rw[p5];omega
theorem Aq(v:Int):(Utf8.encode v).data.toList.length<=4:=by unfold Utf8.encode;simp only;(repeat' split);all_goals simp
theorem LI{o:Option Nat}{b:Nat->Bool}{f:Nat->List UInt8}(I:∀v,(f v).length<=4){n:Nat}(D:1<=n){p:List UInt8×Nat}(h:(o.bind fun v=>if b v=true then some (f v,n)else none)=some p):p.1.length<=4/\1<=p.2:=by
 cases o with
 |none=>cases h
 |some v=>
  rw[qB]at h;split at h
  ·injection h with h;subst h;exact⟨I v,D⟩
  ·cases h
theorem OO{o:Option Nat}{p:List UInt8×Nat}(h:(o.bind fun v=>if v<=255 then some ([UInt8.ofNat v],3)else none)=some p):p.1.length<=4/\1<=p.2:=by
 cases o with
 |none=>cases h
 |some v=>
  rw[qB]at h;split at h
  ·injection h with h;subst h;simp
  ·cases h
theorem LJ(l:List UInt8)(p:List UInt8×Nat)(h:i7 l=some p):p.1.length<=4/\1<=p.2:=by
 cases l with
 |nil=>cases h
 | cons c r=>
  rw[i7]at h;split at h
  ·injection h with h;subst h;simp
  ·split at h
   ·cases hd:bS r 2 16 with
    |none=>rw[hd]at h;cases h
    |some v=>rw[hd]at h;injection h with h;subst h;simp
   ·split at h
    ·exact LI (b:=fun v=>Utf8.valid (v:Int)) (f:=fun v=>(Utf8.encode (v:Int)).data.toList) (fun v=>Aq (v:Int)) (by omega) h
    ·split at h
     ·exact LI (b:=fun v=>Utf8.valid (v:Int)) (f:=fun v=>(Utf8.encode (v:Int)).data.toList) (fun v=>Aq (v:Int)) (by omega) h
     ·exact OO h
theorem pU:∀(g:Nat)(l t:List UInt8),cY g l=some t->t.length<=4*l.length
 |0,_,_,h=>by simp[cY]at h
 |_+1,[],t,h=>by unfold cY at h;injection h with h;subst h;simp
 | g+1,c::r,t,h=>by
  unfold cY at h;simp only[gI];split at h
  ·rw[Option.bind_eq_some_iff]at h;obtain⟨p,J,h⟩:=h;rw[Option.map_eq_some_iff]at h;obtain⟨u,D,rfl⟩:=h;have M:=LJ _ _ J;have I:=pU g _ _ D;rw[jE]at I;rw[gJ];omega
  ·split at h
   ·cases h
   ·rw[Option.map_eq_some_iff]at h;obtain⟨u,D,rfl⟩:=h;have I:=pU g _ _ D;simp only[gI];omega
theorem Eu(s:ByteArray):(lf s).size<=1000000000:=by
 unfold lf ed;(have I:(s.data.toList.extract 1 (s.size-1)).length<=s.size:=by rw[vm,qO,jE];show min _ (s.size-1)<=s.size;omega);split
 ·exact gT _
 ·split
  ·exact gT _
  ·split
   ·exact gT _
   ·split
    ·cases D:cY (s.size+1) (s.data.toList.extract 1 (s.size-1))with
     |none=>exact gT _
     |some t=>have:=pU _ _ _ D;have e:(t.toArray).size=t.length:=jR;exact gM (vA e) (by omega)
    ·split
     ·split
      ·exact gT _
      ·have e:(((s.data.toList.extract 1 (s.size-1)).filter fun c=>c.toNat != 13).toArray).size=_:=jR;have:=List.length_filter_le (fun c:UInt8=>c.toNat != 13) (s.data.toList.extract 1 (s.size-1));exact gM (vA e) (by omega)
     ·exact gT _
theorem Pi{b d e:List UInt8}(hb:b.length<=3\/∀x r,b=x::r->bG (x.toNat:Int)=true)(D:e.length<=3\/∀x r,e=x::r->bG (x.toNat:Int)=true)(h:b++32::(d++32::e)=44::32::(d++[32,58,61,32,114,97,110,103,101])):False:=by
 match b with
 |[]=>simp at h
 |[x]=>
  simp at h;obtain⟨rfl,rfl⟩:=h;rcases D with D|D
  ·simp at D
  ·exact absurd (D _ _ rfl) (by decide)
 |[x,y]=>have:=qD (·[d.length+3]?) h;simp at this
 |[x,y,z]=>have:=qD (·[d.length+4]?) h;simp at this
 |x::y::z::u::b=>
  rcases hb with hb|hb
  ·simp at hb
  ·have:=hb _ _ rfl;injection h with h;subst h;exact absurd this (by decide)
theorem OP{b d:List UInt8}(hb:b.length<=3\/∀x r,b=x::r->bG (x.toNat:Int)=true)(h:b++32::d=44::32::(d++[32,58,61,32,114,97,110,103,101])):False:=by
 rcases hb with hb|hb
 ·have:=qD List.length h;simp at this;omega
 ·cases b with
  |nil=>simp at h
  |cons x b=>have:=hb _ _ rfl;injection h with h;subst h;exact absurd this (by decide)
theorem Pj{c:Cx}(h:∀t∈c.toks,Ou t):∀s x s',cO c s=some (x,s')->s'.at_<=c.toks.length:=by
 intro s x s' I;unfold cO at I;simp only at I;split at I
 ·rename_i O;injection I with I;injection I with _ I;subst I;exact ny O
 ·split at I
  ·rename_i a b d r hl;(have J:(c.toks.drop s.at_).length=r.length+3:=by rw[hl];simp);rw[jE]at J;split at I
   ·injection I with I;injection I with _ I;subst I;show s.at_+3<=_;omega
   ·split at I
    ·rename_i y;injection I with I;injection I with _ I;subst I;show s.at_+5<=_;have D:=qD (·.data.toList) y.2.2.2;have q:∀t,t∈a::b::d::r->Ou t:=fun t ht=>h t (vL (i:=s.at_) (by rw[hl];exact ht));have hb:=(q b (by simp)).2;rw[hl]at D
     match r with
     |[]=>
      exfalso;unfold dU at D;split at D
      ·simp at D
      ·rename_i M;simp at M D;exact OP (hb.resolve_left M.2.1) D
     |[e]=>
      exfalso;have O:=(q e (by simp)).2;unfold dU at D;split at D
      ·simp at D
      ·rename_i M;simp at M D;exact Pi (hb.resolve_left M.2.1) (O.resolve_left M.2.2.2) D
     |_::_::_=>simp only[gI]at J;omega
    ·cases I
  ·cases I
theorem NA{c:Cx}(h:∀t∈c.toks,Ou t):wB c:=⟨fun t ht=>(h t ht).1,fun _ _=>Gx _,fun _ _=>Eu _,Pj h⟩
end
section
open Go.RowKit Go.Lib Go.Proofs
def fG:eQ:=tI 200000
theorem oS{s:ByteArray}{L:List cz}(h:db s=.toks L):ex s=.toks L:=by
 unfold db at h;cases D:ex s with
 |err p n=>rw[D]at h;cases h
 |toks L'=>
  rw[D]at h;simp only at h;split at h
  ·cases h
  ·injection h with h;rw[h]
theorem Ar{s:ByteArray}{L:List cz}(h:ex s=.toks L)(e:Int):wB ⟨L,e⟩:=NA (fz h).2.2
theorem t7{b:Prop}{Q:Nd->St->Prop}{n:Nd}{s1:St}{r:d5 Nd}(h:bF b Q r)(e:r=.ok n s1):Q n s1:=by rw[e]at h;exact h
theorem Pk{s:ByteArray}{L:List cz}(q:db s=.toks L)(E:bC)(w:World)(D:EY E w s L):mC E fG:=by
 (have O:wB E.c:=by rw[D.c];exact Ar (oS q) _);(have M:E.c.toks.length<=65537:=by rw[D.c];exact D.few);refine PG E (Gd E D.tab D.base D.small) (fun g _ s x s1 hs h=>?_) (fun g s x s1 h=>?_) (Gs D.small) O.rg 200000 (by omega)
 ·have J:=(t7 ((wJ O g).expr s hs) h).1;have I:=J.cnt;have y:=J.le;exact⟨N4 x J.ok (by omega),y⟩
 ·rcases kN s.at_ E.c.toks.length with I|I
  ·exact I
  ·exact absurd h (LG g s x s1 I)
theorem oT{s:ByteArray}{L:List cz}(D:db s=.toks L):bF True (fun n s1=>bJ ⟨L,(s.size:Int)⟩ 0 0 0 n s1.at_) (fu fG ⟨L,(s.size:Int)⟩ ⟨0,false,-1⟩):=by have I:wB ⟨L,(s.size:Int)⟩:=Ar (oS D) _;have J:=(fz (oS D)).2.1;exact(LE (wJ I 200000) I ⟨0,false,-1⟩ (gT _)).mono (fun _=>by show 3*(L.length-0)<=_;omega) fun _ _ h=>h
theorem C2(s:ByteArray):dD fG s≠.out:=by
 unfold dD;cases I:db s with
 |err p n=>exact nofun
 | toks L=>
  have D:=oT I;show lB _ _≠_;cases J:fu fG ⟨L,(s.size:Int)⟩ ⟨0,false,-1⟩with
  |out=>rw[J]at D;exact absurd trivial D
  |fail p=>exact nofun
  |ok n s1=>
   unfold lB;simp only;split
   ·exact nofun
   ·split<;>exact nofun
theorem C3{c:Cx}{n:Nd}{i0 i sl j:Nat}(h:bJ c i0 i sl n j)(I:c.toks.length<=65537):j<=c.toks.length/\tQ 101 n/\(bi 100 n).length<=1000000000:=by have M:=h.cnt;have D:=h.le;have J:=Ao 100 n;exact⟨D,Et 101 n (.inr h.ok) (by omega),by omega⟩
theorem LK(A0:Option Addr)(c:Nat)(s:ByteArray)(w:World)(I:bR w A0 c s)(hT:fQ w)(D:s.size<=1000000000):
  Calls prog 25 #[.slice A0 s.size c] w (CP w (dD fG s)):=by refine Bf A0 c s w I hT D fG (fun L E w' ht hfr=>Pk ht E w' hfr) (C2 s) (fun L n s1 ht h=>?_);exact C3 (c:=⟨L,(s.size:Int)⟩) (t7 (oT ht) h) (fz (oS ht)).2.1
end
section
open Go.Sort Go.Lib
def sL(a b:Int):Int:=if a<b then -1 else if b<a then 1 else 0
abbrev fe:=Int×Int
def tO(x y:fe):Int:=if sL x.2 y.2≠0 then sL x.2 y.2 else sL x.1 y.1
def GV(x y:fe):Prop:=x.2<y.2\/(x.2=y.2/\x.1<y.1)
theorem wM(a b:Int):(a<b/\sL a b = -1)\/(a=b/\sL a b=0)\/(b<a/\sL a b=1):=by
 unfold sL;by_cases D:a<b
 ·exact .inl ⟨D,by simp[D]⟩
 ·by_cases I:b<a
  ·exact .inr (.inr ⟨I,by simp[D,I]⟩)
  ·exact .inr (.inl ⟨by omega,by simp[D,I]⟩)
theorem C6(x y:fe):ltOf tO x y=true↔GV x y:=by
 unfold ltOf GV tO;rcases wM x.2 y.2 with⟨g,I⟩|⟨g,I⟩|⟨g,I⟩
 ·simp[I,g]
 ·rw[I];(have M:¬ x.2<y.2:=by omega);rcases wM x.1 y.1 with⟨k,D⟩|⟨k,D⟩|⟨k,D⟩
  ·simp[D,g,k]
  ·rw[D];simp[g,k]
  ·(have:¬ x.1<y.1:=by omega);simp[D,g,this]
 ·(have M:¬ x.2<y.2:=by omega);(have J:¬ x.2=y.2:=by omega);simp[I,M,J]
theorem Ev(x:fe):¬ GV x x:=by unfold GV;omega
theorem As{x y z:fe}(h:GV x y)(k:GV y z):GV x z:=by unfold GV at *;omega
theorem Fb(x y:fe):GV x y\/x=y\/GV y x:=by obtain⟨xm,xa⟩:=x;obtain⟨ym,ya⟩:=y;unfold GV;simp only[Prod.mk.injEq];omega
theorem pV(x y:fe):ltOf tO x y=false↔¬ GV x y:=by rw[<-C6];simp
theorem PB:SWO (ltOf tO) where
 irrefl x:=by rw[pV];exact Ev x
 trans x y z h k:=by rw[C6]at *;exact As h k
 ntrans x y z h k:=by
  rw[pV]at *;intro g;rcases Fb x y with a|a|a
  ·exact h a
  ·subst a;exact k g
  ·exact k (As a g)
theorem PC(x y:fe)(h:ltOf tO x y=false)(k:ltOf tO y x=false):x=y:=by
 rw[pV]at *;rcases Fb x y with a|a|a
 ·exact absurd a h
 ·exact a
 ·exact absurd a k
def N6(l:List fe):List fe:=l.mergeSort fun x y =>!(ltOf tO) y x
def sd(l:List fe):List fe:=compactUpTo (N6 l).toArray (N6 l).length
theorem oU(l:List fe):(N6 l).length=l.length:=by simp[N6]
theorem Bl(l:List fe):(sd l).length<=l.length:=by unfold sd compactUpTo;rw[jN];refine gM (List.length_filter_le _ _) ?_;rw[List.length_range,oU];exact gA _
end
section
open Go.RowKit Go.Sort
attribute [local go_sem ↓] Go.wp_at_zero Go.wp_at_succ
theorem NB(a:Int)(w:World):Calls prog 148 #[a] w fun e w'=>e=.returned (.bool false)/\w=w':=by(go_enter func148,ntmps148);go_wp2;go_ret;exact⟨by simp,rfl⟩
theorem Gy(a b:Int)(w:World):Calls prog 100 #[a,b] w fun e w'=>e=.returned (.int .i64 (sL a b))/\w=w':=by(go_enter func100,ntmps100);go_wp2_with (go_at_call 148;refine(NB _ _).mono ?_;rintro e w'⟨rfl,rfl⟩);(all_goals(go_ret;refine⟨?_,rfl⟩;unfold sL;congr 2;repeat' split));all_goals first|rfl|omega
def PD(x y r:Int):Prop:=(if x≠0 then x else y)=r
theorem PL(b:Nat)(x y r:Int)(w:World)(D:PD x y r)(O:w.cell? ⟨b,0,none⟩=some (.int .i64 x))(M:w.cell? ⟨b,1,none⟩=some (.int .i64 y)):
  Calls prog 99 #[.slice (some ⟨b,0,none⟩) 2 2] w fun e w'=>e=.returned (.int .i64 r)/\w=w':=by
 unfold PD at D;by_cases I:x=0
 ·by_cases J:y=0
  ·subst I J;(obtain rfl:0=r:=by simpa using D);clear D;(go_enter func99,ntmps99);go_wp2;refine kG 3 ?_;rw[jH];go_wp2;rw[jH];go_wp2;rw[jH];go_wp2;go_ret;exact⟨rfl,rfl⟩
  ·subst I;(obtain rfl:y=r:=by simpa[J]using D);clear D;(have H:(y != 0)=true:=by simpa using J);clear J;(go_enter func99,ntmps99);go_wp2;refine kG 3 ?_;rw[jH];go_wp2;rw[jH];go_wp2;go_ret;exact⟨rfl,rfl⟩
 ·(obtain rfl:x=r:=by simpa[I]using D);clear D;(have H:(x != 0)=true:=by simpa using I);clear I;(go_enter func99,ntmps99);go_wp2;refine kG 3 ?_;rw[jH];go_wp2;go_ret;exact⟨rfl,rfl⟩
theorem LN(x y:fe)(w:World):Calls prog 98 #[.agg #[.int .i64 x.1,.int .i64 x.2],.agg #[.int .i64 y.1,.int .i64 y.2]] w fun e w'=>e=.returned (.int .i64 (tO x y))/\∃q os',w'=Go.Sort.grow (w.drewN q) os':=by
 obtain⟨xm,xa⟩:=x;obtain⟨ym,ya⟩:=y;have D:PD (sL xa ya) (sL xm ym) (tO (xm,xa) (ym,ya)):=rfl;generalize tO (xm,xa) (ym,ya)=r at D |-;(go_enter func98,ntmps98);go_wp2_with fail;go_region_held3 (fun w'=>w'.cell? ⟨w,0,none⟩=some (.int .i64 xm)/\w'.cell? ⟨w,1,none⟩=some (.int .i64 xa)/\w'.cell? ⟨w.heap.size+1,0,none⟩=some (.int .i64 ym)/\w'.cell? ⟨w.heap.size+1,1,none⟩=some (.int .i64 ya)) (go_keep)
  (first|(go_at_call 100;refine(Gy _ _ _).mono ?_;rintro e w'⟨rfl,rfl⟩)|(go_at_call 99;refine(PL _ (sL xa ya) (sL xm ym) r _ D ?h0 ?h1).mono ?hm;(case h0=>go_simp);(case h1=>go_simp);rintro e w'⟨rfl,rfl⟩))
 go_wp2;go_ret;exact⟨rfl,1,_,by rw[alloc_eq_grow,alloc_eq_grow,alloc_eq_grow,grow_grow,grow_grow];rfl⟩
theorem C7(x y:fe)(w:World):Calls prog 102 #[.agg #[.int .i64 x.1,.int .i64 x.2],.agg #[.int .i64 y.1,.int .i64 y.2]] w fun e w'=>e=.returned (.bool (decide (x=y)))/\∃os',w'=Go.Sort.grow w os':=by obtain⟨xm,xa⟩:=x;obtain⟨ym,ya⟩:=y;(have D:decide (((xm,xa):fe)=(ym,ya))=(xm==ym&&xa==ya):=by rw[jW];simp);generalize decide (((xm,xa):fe)=(ym,ya))=r at D |-;(go_enter func102,ntmps102);go_wp2_with fail;all_goals(go_ret;refine⟨by simp[*],_,by rw[alloc_eq_grow,alloc_eq_grow,grow_grow]⟩)
end
section
open Go.RowKit Go.Sort Go.Proofs
section
variable {α:Type} [Inhabited α] {enc:α->List Value} {k:Nat}
theorem C8 (J:∀ x,(enc x).length=k)(d:Array α)(i:Nat)(y:α)(M:i<d.size):
  setMany (flatK enc k d) (i*k) (enc y)=flatK enc k (d.setIfInBounds i y):=by
 refine ext_get! (by simp) fun t ht=>?_;(have D:t<d.size*k:=by simpa using ht);have I:0<k:=by rcases qH k with h|h;(subst h;simp at D);exact h
 have hb:t/k<d.size:=xg (by rw[Nat.mul_comm];exact D);rw[get_setMany _ _ _ t (by simpa using D),get_flatK _ _ _ t D,get_flatK _ _ _ t (by simpa using D),J];by_cases a:t/k=i
 ·rw[gL ((blk_iff k i t I).2 a)];(have e:t-i*k=t%k:=by subst a;rw[Nat.mod_eq_sub_div_mul]);rw[e,a];congr 1;rw[vi (d.setIfInBounds i y) i (by simpa using M)];simp
 ·rw[gE (fun h=>a ((blk_iff k i t I).1 h))];congr 2;rw[vi (d.setIfInBounds i y) (t/k) (by simpa using hb),vi d (t/k) hb];rw[Array.getElem_setIfInBounds]
  ·simp[Ne.symm a]
  ·exact hb
theorem SWK.set{w0 W:World}{blk off:Nat}{dk:Array α}(h:SWK enc k w0 blk off dk W)(I:∀x,(enc x).length=k)(D:blk<w0.heap.size)(i:Nat)(J:i<dk.size)(y:α):
  SWK enc k w0 blk off (dk.setIfInBounds i y) (W.setCells blk (off+i*k) (enc y)):=by obtain⟨n,os,rfl⟩:=h;refine⟨n,os,?_⟩;unfold sortWorldK;rw[<-putRowK_grow enc k (Sort.ahead w0 n) os blk off dk D,<-putRowK_grow enc k (Sort.ahead w0 n) os blk off _ D];unfold putRowK;rw[setCells_putRow _ _ _ _ _ _ (by rw[I,size_flatK];exact rowK_bnd dk k i J),C8 I dk i y J]
theorem nM(w:World)(b:Nat):∀(xs ys:List Value)(o:Nat),w.setCells b o (xs++ys)=(w.setCells b o xs).setCells b (o+xs.length) ys
 |[],_,_=>rfl
 |x::xs,ys,o=>by rw[kV,World.setCells,nM _ b xs ys (o+1),World.setCells,gI,show o+1+xs.length=o+(xs.length+1)by omega]
theorem SWK.fill{w0:World}{blk off:Nat}(I:∀x,(enc x).length=k)(D:blk<w0.heap.size)(z:α):∀(m i:Nat)(dk:Array α)(W:World),SWK enc k w0 blk off dk W->i+m<=dk.size ->
  ∃d',d'.size=dk.size/\(∀j,j<i->d'[j]! = dk[j]!)/\SWK enc k w0 blk off d' (W.setCells blk (off+i*k) ((List.replicate m z).flatMap enc))
 |0,i,dk,W,h,_=>⟨dk,rfl,fun _ _=>rfl,h⟩
 | m+1,i,dk,W,h,y=>by
  have q:=SWK.set h I D i (by omega) z;obtain⟨d',M,O,J⟩:=SWK.fill I D z m (i+1) _ _ q (by simp;omega);refine⟨d',by simpa using M,fun j hji=>?_,?_⟩
  ·rw[O j (by omega),vi (dk.setIfInBounds i z) j (by simp;omega),vi dk j (by omega),Array.getElem_setIfInBounds]
   ·simp[show i≠j by omega]
   ·omega
  ·rw[List.replicate_succ,qR,nM,I];rw[vS,xr,<-Nat.add_assoc]at J;exact J
end
section
variable {α:Type} {enc:α->List Value} {k:Nat}
theorem wN(z:α)(I:(enc z).length=k)(J:0<k):∀n:Nat,(Builtin.zeroCells (enc z).toArray n).toList=(List.replicate n z).flatMap enc:=by
 intro n;apply List.ext_getElem?;intro t;simp only[Builtin.zeroCells,jR,I];by_cases M:t<n*k
 ·have O:t/k<n:=xg (by rw[Nat.mul_comm];exact M);have D:t%k<k:=Nat.mod_lt _ J;have q:∀(n i:Nat),i<n->((List.replicate n z).flatMap enc)[i*k+t%k]? = (enc z)[t%k]? :=by
   intro n;induction n with
   |zero=>intro i h;omega
   |succ n ih=>
    intro i h;rw[List.replicate_succ,qR];cases i with
    |zero=>rw[vC,kL,List.getElem?_append_left (by omega)]
    |succ i=>rw[vd (by rw[I,vS];omega),I,vS,xr,show i*k+k+t%k-k=i*k+t%k by omega];exact ih i (by omega)
  have e:=q n (t/k) O;rw[vj,Nat.sub_add_cancel (Nat.mod_le t k)]at e;rw[e,gO (by simpa using M),gO (by omega)];simp[D,I]
 ·rw[vo (by simp;omega),vo];have:∀n:Nat,((List.replicate n z).flatMap enc).length=n*k:=by
   intro n;induction n with
   |zero=>simp
   |succ n ih=>rw[List.replicate_succ,qR,gJ,ih,I,vS];omega
  rw[this];omega
end
section
variable {α:Type} [Inhabited α] {enc:α->List Value} {k:Nat}
theorem SWK.below{w0 W:World}{blk off:Nat}{dk:Array α}(h:SWK enc k w0 blk off dk W){B:Nat}(J:B<=blk)(I:B<=w0.heap.size):Below B w0 W:=by have D:=h.le;obtain⟨n,os,rfl⟩:=h;refine⟨rfl,rfl,rfl,D,fun j hj=>?_⟩;unfold sortWorldK;rw[heap_grow_old _ _ (by rw[size_putRowK];show j<w0.heap.size;omega)];unfold putRowK putRow mapBlock;simp only[Array.getElem?_modify,heap_ahead];rw[gE (by omega)]
theorem pq{w:World}{base g n cap:Nat}{e:TypeId}{xs:List α}(J:∀x,(enc x).length=k)(M:xs.length=n)
  (h:w.ownsRow base e k (.slice (some ⟨g,0,none⟩) n cap) n (xs.flatMap enc)):HoldsK enc k w g 0 xs.toArray:=by
 intro j hj;rw [size_flatK]at hj;(have D:j<n*k:=by simpa[M]using hj);have O:0<k:=by rcases qH k with h|h;(subst h;simp at D);exact h
 (have hb:j/k<xs.length:=by rw[M];exact xg (by rw[Nat.mul_comm];exact D));have I:j%k<k:=Nat.mod_lt _ O;rw[kL,h.cellAt j D,h.frozenAt j,get_flatK _ _ _ _ hj];refine⟨?_,rfl⟩;have e:=eB J xs (j/k) (j%k) hb I;rw[vj,Nat.sub_add_cancel (Nat.mod_le j k)]at e;rw[e,vi xs.toArray (j/k) (by simpa using hb),List.getElem_toArray,gO (by rw[J];exact I)];congr 1;rw[vi _ (j%k) (by rw[J];exact I)];rfl
theorem oA{w:World}{blk off m:Nat}{d:Array α}{xs:List α}(I:∀x,(enc x).length=k)(H:HoldsK enc k w blk off d)(q:xs.length=m)(hd:∀j,j<m->xs[j]? = some d[j]!)(hs:m<=d.size)(hb:blk<w.heap.size):
  aA w w.heap.size k (some ⟨blk,off,none⟩) m (xs.flatMap enc):=by
 refine⟨by rw[iF I,q],fun O=>⟨_,rfl,hb,fun j u hu=>?_⟩⟩;have y:j<m*k:=by
  have:=(List.getElem?_eq_some_iff.1 hu).1
  rwa [iF I,q]at this
 have z:0<k:=by rcases qH k with h|h;(subst h;simp at y);exact h
 have M:j/k<m:=xg (by rw[Nat.mul_comm];exact y);have D:j%k<k:=Nat.mod_lt _ z;have e:=eB I xs (j/k) (j%k) (by omega) D;rw[vj,Nat.sub_add_cancel (Nat.mod_le j k)]at e;have c:=(H.cell (i:=j/k) (c:=j%k) (by omega) D).1;rw[iU,show off+j=off+(j/k)*k+j%k by rw[Nat.add_assoc,vj,Nat.sub_add_cancel (Nat.mod_le j k)],c];have J:=hd (j/k) M;rw[gO (by omega)]at J;injection J with J;rw[hu,gO (by rw[I];exact D)]at e;injection e with e;rw[e,vi _ (j%k) (by rw[I];exact D)];simp only[J]
end
end
end Go.Proofs.YtcoiialmdncpfaaGreatDoor
