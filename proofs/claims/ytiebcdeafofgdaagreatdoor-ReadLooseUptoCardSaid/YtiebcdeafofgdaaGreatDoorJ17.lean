/-
  Parts of the proof: Squot Snext. By an AI agent.
-/
import Derived.Test.YtiebcdeafofgdaaGreatDoorJ16
import Derived.Test.YtiebcdeafofgdaaGreatDoorJ15
open Go.Proofs.Tryz
set_option maxRecDepth 100000
set_option maxHeartbeats 8000000
namespace Go.Proofs.YtiebcdeafofgdaaGreatDoor
section
open Go.RowKit Go.Lib Go.Proofs
attribute [local go_sem ↓] Go.wp_at_zero Go.wp_at_succ
theorem qb:type_of% @List.drop_zero:=@List.drop_zero
theorem qw:type_of% @Go.IntWalk.i32_in:=@Go.IntWalk.i32_in
theorem vC:type_of% @List.drop_drop:=@List.drop_drop
def rN(s:ByteArray)(i:Nat)(l:List cO):RO:=
 match bi (ac s i) (s.data.toList.drop (i+1)) false 0 with
 |some k=>.go (i+k+2) (l++[⟨5,s.extract i (i+k+2),i⟩])
 |none=>.bad i
theorem lZ(t:ByteArray)(j:Nat)(h:j<t.size):∃c r,t.data.toList.drop j=c::r/\c.toNat=ac t j/\r=t.data.toList.drop (j+1):=by have h':j<t.data.toList.length:=h;refine⟨t.data.toList[j],t.data.toList.drop (j+1),jX h',?_,rfl⟩;unfold ac;rw[gR,gN h'];rfl
theorem rO(en:Nat):∀(l:List UInt8)(b:Bool)(k m:Nat),bi en l b k=some m->m<k+l.length
 |[],b,k,m,h=>by cases b<;>simp[bi]at h
 |c::r,true,k,m,h=>by
  rw[bi]at h;split at h
  ·cases h
  ·have:=rO en r false (k+1) m h;simp only[gS];omega
 | c::r,false,k,m,h=>by
  rw[bi]at h;simp only[gS];split at h
  ·have:=rO en r true (k+1) m h;omega
  ·split at h
   ·injection h with h;omega
   ·split at h
    ·cases h
    ·have:=rO en r false (k+1) m h;omega
theorem DB(X:Nat)(s:ByteArray)(i:Nat)(l:List cO)(w:World)(h:f6 w X s i l)(hi:i<s.size)(hl:l.length+1<=65537)(en:Nat)(hk:en=34\/en=96)(gq:ac s i=en):
  Calls prog 104 #[X] w (fU X s w (rN s i l) (.tuple #[])):=by
 obtain⟨lv,nv,ns,g7⟩:=h.out;have hb:=g7.blk;have hp:=h.le;have ho:=h.most;have gj:=hb.lt;have HH:=hid h;obtain⟨x0,x1,x2,x3,-,-,-,-⟩:=ab hb;(have p0:(0:Int)<=(i:Int):=by omega);(have p2:(i:Int)<(s.size:Int):=by omega);(have p3:(i:Int)+1<=(s.size:Int):=by omega);have q1:IntKind.i64.wrap ((i:Int)+1)=(i:Int)+1:=gQ _ (by omega);have gl:=fun W=>dL s i hi W;rw[gq]at gl;have hR:∀R,bi en (s.data.toList.drop (i+1)) false 0=R->rN s i l=match R with
   |some k=>.go (i+k+2) (l++[⟨5,s.extract i (i+k+2),i⟩])
   |none=>.bad i:=by rintro R rfl;unfold rN;rw[gq]
 have HQ:=hid hR;have g4:=rO en (s.data.toList.drop (i+1)) false 0;generalize hQ:bi en (s.data.toList.drop (i+1)) false 0=R at *;have HR:=hid (HQ.out R rfl);have ha:Hid (∀m,R=some m->i+m+2<=s.size):=hid (by intro m hm;have:=g4 m hm;rw[gY]at this;have hn:s.data.toList.length=s.size:=rfl;omega);have g5:=fa s (i+1);have g6:=eZ s (i+1);rw[<-g6]at hQ;have hu:=hid g5;have g9:=hid hQ;clear g5 g6 hQ g4 HQ hR hb g7 h gq hi;rcases hk with rfl|rfl
 ·(go_enter func104,ntmps104);go_wp2_with fail;have gd:=qE w (s.extract (i+1) s.size) 0;have gt:Below w w (w.iter (s.extract (i+1) s.size) 0):=(gG _ w).alloc (gA _) _;generalize s.extract (i+1) s.size=t at *;clear x0 x1 x2 x3 gl;go_loopg [4,5,6,25,26] t.size (fun g u4 _ _ _ _ wr=>∃(j:Nat)(sl:Bool),j<=t.size/\t.size-j<=g/\u4=.bool sl/\wr.heap[w.heap.size]? = some (.stringIter t j)/\Below w w wr/\bi 34 (t.data.toList.drop j) sl j=R)
  case atStart=>exact⟨0,false,gP _,by omega,rfl,gd,gt,by rw[qb];exact g9.out⟩
  case round=>
   clear gd gt;obtain⟨j,sl,hj,hg,rfl,hit,hB,hq⟩:=hrel;have ga:=hid hit;have HQ:=hid hq;clear hit hq;by_cases M:j<t.size
   ·have I:=fun ty=>qP (P:=prog) wr w.heap.size t j ty ga.out M;by_cases gb:ac t j<128
    ·obtain⟨c,rr,gr,gs,gp⟩:=lZ t j M;have hd:=ld t j gb;rw[hd]at I;rw[gr]at HQ;have gh:=hid gp;have J:=hid gs;have j1:=qT wr w.heap.size t j (j+1) ga.out;have O:Below w w (wr.iterAt w.heap.size t (j+1)):=cF hB (gA _);generalize wr.iterAt w.heap.size t (j+1)=W1 at I j1 O;have J1:=hid j1;clear hd gr gs gp j1;generalize ac t j=bb at *;cases sl with
     | true=>
      by_cases D:bb=10
      ·subst D;have N:Hid (R=none):=hid (by rw[<-HQ.out,bi,gF J.out]);go_wp2_with fail;refine(fI X i _).mono ?_;rintro e w2⟨rfl,rfl⟩;unfold fb;refine⟨rfl,?_⟩;rw[HR.out,N.out];exact⟨rfl,O.mono (jR gj)⟩
      ·(have gu:((bb:Int) != 10)=true:=by rw[kZ];omega);have N:Hid (bi 34 rr false (j+1)=R):=hid (by rw[<-HQ.out,bi,d5 (by rw[J.out];exact D)]);clear D;go_wp2_with fail;refine(lg X _ _).mono ?_;rintro e w2⟨rfl,rfl⟩;go_wp2_with fail;go_roundg (t.size-(j+1))
       case measure=>omega
       case rel=>exact⟨j+1,false,by omega,gA _,rfl,J1.out,O,by rw[<-gh.out];exact N.out⟩
     | false=>
      by_cases gn:bb=34
      ·subst gn;have N:Hid (R=some j):=hid (by rw[<-HQ.out,bi,d5 (by rw[J.out];omega),gF J.out]);have g0:=ha.out j N.out;have gi:=HH.out.below O;obtain⟨hf,hc,he,gg⟩:=gi.out;obtain⟨x0,x1,x2,x3,f0,f1,f2,f3⟩:=ab gg.blk;have q2:IntKind.i64.wrap ((i:Int)+(j:Int))=(i:Int)+(j:Int):=gQ _ (by omega);have q3:IntKind.i64.wrap ((i:Int)+(j:Int)+2)=(i:Int)+(j:Int)+2:=gQ _ (by omega);have U:=gi.set (i+j+2) (by omega) g0;rw[show((i+j+2:Nat):Int)=(i:Int)+(j:Int)+2 by omega]at U;have gv:=hid U;clear U gg gi;go_wp2_with fail;refine(lu X s (i+j+2) l 5 i (by omega) hl _ gv.out).mono ?_;rintro e w4⟨rfl,gx,g1⟩;go_wp2_with fail;refine jV (qj rfl _ _ _) rfl ?_;rw[HR.out,N.out];exact⟨rfl,gx,((O.mono (jR gj)).setCell (gA _) _).trans g1⟩
      ·by_cases ge:bb=92
       ·subst ge;have N:Hid (bi 34 rr true (j+1)=R):=hid (by rw[<-HQ.out,bi,gF ⟨J.out,rfl⟩]);go_wp2_with fail;go_roundg (t.size-(j+1))
        case measure=>omega
        case rel=>exact⟨j+1,true,by omega,gA _,rfl,J1.out,O,by rw[<-gh.out];exact N.out⟩
       ·by_cases D:bb=10
        ·subst D;have N:Hid (R=none):=hid (by rw[<-HQ.out,bi,d5 (by rw[J.out];omega),d5 (by rw[J.out];omega),gF ⟨J.out,by omega⟩]);go_wp2_with fail;refine(fI X i _).mono ?_;rintro e w2⟨rfl,rfl⟩;unfold fb;refine⟨rfl,?_⟩;rw[HR.out,N.out];exact⟨rfl,O.mono (jR gj)⟩
        ·have N:Hid (bi 34 rr false (j+1)=R):=hid (by rw[<-HQ.out,bi,d5 (by rw[J.out];omega),d5 (by rw[J.out];omega),d5 (by rw[J.out];omega)]);(have g2:((bb:Int)==92)=false:=by rw[gC];omega);(have ht:((bb:Int)==34)=false:=by rw[gC];omega);(have gu:((bb:Int)==10)=false:=by rw[gC];omega);clear gn ge D;go_wp2_with fail;go_roundg (t.size-(j+1))
         case measure=>omega
         case rel=>exact⟨j+1,false,by omega,gA _,rfl,J1.out,O,by rw[<-gh.out];exact N.out⟩
    ·have hh:=iy t j M (by omega);have gm:=hid (fun b=>oO 34 (by omega) (Utf8.decode t j).2 (t.data.toList.drop j) b j (by rw[gY];have:t.data.toList.length=t.size:=rfl;omega) (fun m hm=>by have:=hh.2.2.2 m hm;unfold ac at this;rw[gR,qH,<-gR];exact this));have gz:=hh.1;have gy:=hh.2.1;have yk:=hh.2.2.1;clear hh gb;generalize Utf8.decode t j=q at *;obtain⟨r,k⟩:=q;simp only at gz gy yk I gm;have gw:Hid (bi 34 (t.data.toList.drop (j+k)) false (j+k)=R):=hid (by have:=gm.out sl;rw[HQ.out,vC]at this;rw[this,show(k==0)=false by rw[gC];omega,jU]);clear gm;have j1:=qT wr w.heap.size t j (j+k) ga.out;have O:Below w w (wr.iterAt w.heap.size t (j+k)):=cF hB (gA _);generalize wr.iterAt w.heap.size t (j+k)=W1 at I j1 O;have J1:=hid j1;clear j1;(have g8:((r:Int) != 10)=true:=by rw[kZ];omega);(have gu:((r:Int)==10)=false:=by rw[gC];omega);(have g2:((r:Int)==92)=false:=by rw[gC];omega);(have een:((r:Int)==34)=false:=by rw[gC];omega);cases sl with
     |true=>
      go_wp2_with fail;refine(lg X _ _).mono ?_;rintro e w2⟨rfl,rfl⟩;go_wp2_with fail;go_roundg (t.size-(j+k))
      case measure=>omega
      case rel=>exact⟨j+k,false,yk,gA _,rfl,J1.out,O,gw.out⟩
     |false=>
      go_wp2_with fail;go_roundg (t.size-(j+k))
      case measure=>omega
      case rel=>exact⟨j+k,false,yk,gA _,rfl,J1.out,O,gw.out⟩
   ·have g3:=fun ty=>qF (P:=prog) wr w.heap.size t j ty ga.out M;have N:Hid (R=none):=hid (by rw[<-HQ.out,jS (by have:t.data.toList.length=t.size:=rfl;omega)];cases sl<;>rfl);go_wp2_with fail;refine(fI X i _).mono ?_;rintro e w2⟨rfl,rfl⟩;unfold fb;refine⟨rfl,?_⟩;rw[HR.out,N.out];exact⟨rfl,hB.mono (jR gj)⟩
 ·(go_enter func104,ntmps104);go_wp2_with fail;have gd:=qE w (s.extract (i+1) s.size) 0;have gt:Below w w (w.iter (s.extract (i+1) s.size) 0):=(gG _ w).alloc (gA _) _;generalize s.extract (i+1) s.size=t at *;clear x0 x1 x2 x3 gl;go_loopg [4,5,6,25,26] t.size (fun g u4 _ _ _ _ wr=>∃(j:Nat)(sl:Bool),j<=t.size/\t.size-j<=g/\u4=.bool sl/\wr.heap[w.heap.size]? = some (.stringIter t j)/\Below w w wr/\bi 96 (t.data.toList.drop j) sl j=R)
  case atStart=>exact⟨0,false,gP _,by omega,rfl,gd,gt,by rw[qb];exact g9.out⟩
  case round=>
   clear gd gt;obtain⟨j,sl,hj,hg,rfl,hit,hB,hq⟩:=hrel;have ga:=hid hit;have HQ:=hid hq;clear hit hq;by_cases M:j<t.size
   ·have I:=fun ty=>qP (P:=prog) wr w.heap.size t j ty ga.out M;by_cases gb:ac t j<128
    ·obtain⟨c,rr,gr,gs,gp⟩:=lZ t j M;have hd:=ld t j gb;rw[hd]at I;rw[gr]at HQ;have gh:=hid gp;have J:=hid gs;have j1:=qT wr w.heap.size t j (j+1) ga.out;have O:Below w w (wr.iterAt w.heap.size t (j+1)):=cF hB (gA _);generalize wr.iterAt w.heap.size t (j+1)=W1 at I j1 O;have J1:=hid j1;clear hd gr gs gp j1;generalize ac t j=bb at *;cases sl with
     | true=>
      by_cases D:bb=10
      ·subst D;have N:Hid (R=none):=hid (by rw[<-HQ.out,bi,gF J.out]);go_wp2_with fail;refine(fI X i _).mono ?_;rintro e w2⟨rfl,rfl⟩;unfold fb;refine⟨rfl,?_⟩;rw[HR.out,N.out];exact⟨rfl,O.mono (jR gj)⟩
      ·(have gu:((bb:Int) != 10)=true:=by rw[kZ];omega);have N:Hid (bi 96 rr false (j+1)=R):=hid (by rw[<-HQ.out,bi,d5 (by rw[J.out];exact D)]);clear D;go_wp2_with fail;refine(lg X _ _).mono ?_;rintro e w2⟨rfl,rfl⟩;go_wp2_with fail;go_roundg (t.size-(j+1))
       case measure=>omega
       case rel=>exact⟨j+1,false,by omega,gA _,rfl,J1.out,O,by rw[<-gh.out];exact N.out⟩
     | false=>
      by_cases gn:bb=96
      ·subst gn;have N:Hid (R=some j):=hid (by rw[<-HQ.out,bi,d5 (by rw[J.out];omega),gF J.out]);have g0:=ha.out j N.out;have gi:=HH.out.below O;obtain⟨hf,hc,he,gg⟩:=gi.out;obtain⟨x0,x1,x2,x3,f0,f1,f2,f3⟩:=ab gg.blk;have q2:IntKind.i64.wrap ((i:Int)+(j:Int))=(i:Int)+(j:Int):=gQ _ (by omega);have q3:IntKind.i64.wrap ((i:Int)+(j:Int)+2)=(i:Int)+(j:Int)+2:=gQ _ (by omega);have U:=gi.set (i+j+2) (by omega) g0;rw[show((i+j+2:Nat):Int)=(i:Int)+(j:Int)+2 by omega]at U;have gv:=hid U;clear U gg gi;go_wp2_with fail;refine(lu X s (i+j+2) l 5 i (by omega) hl _ gv.out).mono ?_;rintro e w4⟨rfl,gx,g1⟩;go_wp2_with fail;refine jV (qj rfl _ _ _) rfl ?_;rw[HR.out,N.out];exact⟨rfl,gx,((O.mono (jR gj)).setCell (gA _) _).trans g1⟩
      ·by_cases D:bb=10
       ·subst D;have N:Hid (bi 96 rr false (j+1)=R):=hid (by rw[<-HQ.out,bi,d5 (by omega),d5 (by rw[J.out];omega),d5 (by omega)]);go_wp2_with fail;refine(lg X _ _).mono ?_;rintro e w2⟨rfl,rfl⟩;go_wp2_with fail;go_roundg (t.size-(j+1))
        case measure=>omega
        case rel=>exact⟨j+1,false,by omega,gA _,rfl,J1.out,O,by rw[<-gh.out];exact N.out⟩
       ·by_cases ge:bb=92
        ·subst ge;have N:Hid (bi 96 rr false (j+1)=R):=hid (by rw[<-HQ.out,bi,d5 (by omega),d5 (by rw[J.out];omega),d5 (by omega)]);clear gn D;go_wp2_with fail;go_roundg (t.size-(j+1))
         case measure=>omega
         case rel=>exact⟨j+1,false,by omega,gA _,rfl,J1.out,O,by rw[<-gh.out];exact N.out⟩
        ·have N:Hid (bi 96 rr false (j+1)=R):=hid (by rw[<-HQ.out,bi,d5 (by omega),d5 (by rw[J.out];omega),d5 (by omega)]);(have g2:((bb:Int)==92)=false:=by rw[gC];omega);(have hr:((bb:Int)==96)=false:=by rw[gC];omega);(have gu:((bb:Int)==10)=false:=by rw[gC];omega);clear gn ge D;go_wp2_with fail;go_roundg (t.size-(j+1))
         case measure=>omega
         case rel=>exact⟨j+1,false,by omega,gA _,rfl,J1.out,O,by rw[<-gh.out];exact N.out⟩
    ·have hh:=iy t j M (by omega);have gm:=hid (fun b=>oO 96 (by omega) (Utf8.decode t j).2 (t.data.toList.drop j) b j (by rw[gY];have:t.data.toList.length=t.size:=rfl;omega) (fun m hm=>by have:=hh.2.2.2 m hm;unfold ac at this;rw[gR,qH,<-gR];exact this));have gz:=hh.1;have gy:=hh.2.1;have yk:=hh.2.2.1;clear hh gb;generalize Utf8.decode t j=q at *;obtain⟨r,k⟩:=q;simp only at gz gy yk I gm;have gw:Hid (bi 96 (t.data.toList.drop (j+k)) false (j+k)=R):=hid (by have:=gm.out sl;rw[HQ.out,vC]at this;rw[this,show(k==0)=false by rw[gC];omega,jU]);clear gm;have j1:=qT wr w.heap.size t j (j+k) ga.out;have O:Below w w (wr.iterAt w.heap.size t (j+k)):=cF hB (gA _);generalize wr.iterAt w.heap.size t (j+k)=W1 at I j1 O;have J1:=hid j1;clear j1;(have g8:((r:Int) != 10)=true:=by rw[kZ];omega);(have gu:((r:Int)==10)=false:=by rw[gC];omega);(have g2:((r:Int)==92)=false:=by rw[gC];omega);(have een:((r:Int)==96)=false:=by rw[gC];omega);cases sl with
     |true=>
      go_wp2_with fail;refine(lg X _ _).mono ?_;rintro e w2⟨rfl,rfl⟩;go_wp2_with fail;go_roundg (t.size-(j+k))
      case measure=>omega
      case rel=>exact⟨j+k,false,yk,gA _,rfl,J1.out,O,gw.out⟩
     |false=>
      go_wp2_with fail;go_roundg (t.size-(j+k))
      case measure=>omega
      case rel=>exact⟨j+k,false,yk,gA _,rfl,J1.out,O,gw.out⟩
   ·have g3:=fun ty=>qF (P:=prog) wr w.heap.size t j ty ga.out M;have N:Hid (R=none):=hid (by rw[<-HQ.out,jS (by have:t.data.toList.length=t.size:=rfl;omega)];cases sl<;>rfl);go_wp2_with fail;refine(fI X i _).mono ?_;rintro e w2⟨rfl,rfl⟩;unfold fb;refine⟨rfl,?_⟩;rw[HR.out,N.out];exact⟨rfl,hB.mono (jR gj)⟩
theorem I6(k:Int)(D:k=0\/k=1\/k=2)(w:World):(Instr.index 104 (.agg #[.int .i64 1,.int .i64 2,.int .i64 3]) (.int .i64 k)).run prog w=.ok (.int .i64 (k+1)) w:=by rcases D with rfl|rfl|rfl;all_goals simp[Instr.index,run_underlying underlying104,asIntOf,go_sem]
theorem BU(s:ByteArray):bM s=0\/bM s=1\/bM s=2:=by
 unfold bM;split
 ·exact .inr (.inl rfl)
 ·split
  ·exact .inr (.inr rfl)
  ·exact .inl rfl
theorem DC(l:List UInt8):bQ l<=l.length:=by unfold bQ;exact(List.takeWhile_sublist _).length_le
theorem Gh(X:Nat)(s:ByteArray)(i:Nat)(l:List cO)(w:World)(h:f6 w X s i l)(hi:i<s.size)(U:i=0)(D:Lib.hasPrefix s.data.toList [239,187,191]=true):
  Calls prog 73 #[X] w (rK X s w 3 l (.tuple #[])):=by
 obtain⟨lv,nv,ns,I⟩:=h.out;have hb:=I.blk;have ga:=h.most;have gb:=hb.lt;obtain⟨x0,x1,x2,x3,f0,f1,f2,f3⟩:=ab hb;have N:=fun W=>dL s i hi W;subst U;have O:=hid (fun w=>cR s ⟨#[239,187,191]⟩ w);rw[show(⟨#[239,187,191]⟩:BA).data.toList=[239,187,191]from rfl,D]at O;have h3:3<=s.size:=by
  show 3<=s.data.toList.length;cases M:s.data.toList with
  |nil=>rw[M]at D;simp[Lib.hasPrefix]at D
  | cons a r=>cases r with
    |nil=>rw[M]at D;simp[Lib.hasPrefix]at D
    | cons b r=>cases r with
      |nil=>rw[M]at D;simp[Lib.hasPrefix]at D
      |cons c r=>simp
 have J:=hid (h.set 3 (by omega) h3);clear D I hb h;(go_enter func73,ntmps73);go_wp2_with fail;refine(O.out _).mono ?_;rintro e w2⟨rfl,rfl⟩;go_wp2_with fail;go_end0;exact⟨rfl,J.out,(gG X w).setCell (by exact gA X) _⟩
theorem DD(X:Nat)(s:ByteArray)(i:Nat)(l:List cO)(w:World)(h:f6 w X s i l)(hi:i<s.size)(hm:i=0->Lib.hasPrefix s.data.toList [239,187,191]=false)(c:Nat)(O:c=32\/c=9\/c=13)(hc:ac s i=c):
  Calls prog 73 #[X] w (rK X s w (i+1) l (.tuple #[])):=by
 obtain⟨lv,nv,ns,M⟩:=h.out;have hb:=M.blk;have ga:=h.most;have gb:=hb.lt;obtain⟨x0,x1,x2,x3,f0,f1,f2,f3⟩:=ab hb;have I:=fun W=>dL s i hi W;rw[hc]at I;have HM:=hid (fun(J:i=0)w=>cR s ⟨#[239,187,191]⟩ w);have U:=hid (fun(J:i=0)w=>show Calls prog 95 #[.string s,.string ⟨#[239,187,191]⟩] w (fun e w'=>e=.returned (.bool false)/\w=w')by have:=HM.out J w;rw[show(⟨#[239,187,191]⟩:BA).data.toList=[239,187,191]from rfl,hm J]at this;exact this);clear hm HM;have D:=h.set (i+1) (by omega) (by omega);rw[show((i+1:Nat):Int)=(i:Int)+1 by omega]at D;have N:=hid D;have q1:IntKind.i64.wrap ((i:Int)+1)=(i:Int)+1:=gQ _ (by omega);clear D hc M hb;rcases O with rfl|rfl|rfl;all_goals
  cases J:((i:Int)==0);all_goals
   (go_enter func73,ntmps73);go_wp2_with fail;try
    refine(U.out (by have:=beq_iff_eq.1 J;omega) _).mono ?_
    rintro e w2⟨rfl,rfl⟩
    go_wp2_with fail
   go_end0;exact⟨rfl,N.out,(gG X w).setCell (by exact gA X) _⟩
theorem OJ(X:Nat)(s:ByteArray)(i:Nat)(l:List cO)(w:World)(h:f6 w X s i l)(hi:i<s.size)(hm:i=0->Lib.hasPrefix s.data.toList [239,187,191]=false)(hc:ac s i=10)(hl:l.length+1<=65537)(hT:cP w)(M:∀t∈l,t.text.size<=65536):
  Calls prog 73 #[X] w (rK X s w (i+1) (dY l i) (.tuple #[])):=by
 obtain⟨lv,nv,ns,U⟩:=h.out;have hb:=U.blk;have gi:=h.most;have gj:=hb.lt;obtain⟨x0,x1,x2,x3,f0,f1,f2,f3⟩:=ab hb;have I:=fun W=>dL s i hi W;rw[hc]at I;have HM:=hid (fun(J:i=0)w=>cR s ⟨#[239,187,191]⟩ w);have gd:=hid (fun(J:i=0)w=>show Calls prog 95 #[.string s,.string ⟨#[239,187,191]⟩] w (fun e w'=>e=.returned (.bool false)/\w=w')by have:=HM.out J w;rw[show(⟨#[239,187,191]⟩:BA).data.toList=[239,187,191]from rfl,hm J]at this;exact this);clear hm HM;have q1:IntKind.i64.wrap ((i:Int)+1)=(i:Int)+1:=gQ _ (by omega);have HL:=hid (uq X s i l (i:Int) hl w h hT M);clear hc U hb h hT M;cases J:((i:Int)==0);all_goals
  (go_enter func73,ntmps73);go_wp2_with fail;try
   refine(gd.out (by have:=beq_iff_eq.1 J;omega) _).mono ?_
   rintro e w2⟨rfl,rfl⟩
   go_wp2_with fail
  refine HL.out.mono ?_;rintro e w2⟨rfl,N,gb⟩;have D:=N.set (i+1) (by omega) (by omega);rw[show((i+1:Nat):Int)=(i:Int)+1 by omega]at D;have ga:=hid D;obtain⟨gh,ge,gg,O⟩:=N.out;clear x0 x1 x2 x3 f0 f1 f2 f3 D HL;obtain⟨x0,x1,x2,x3,f0,f1,f2,f3⟩:=ab O.blk;go_wp2_with fail;go_end0;exact⟨rfl,ga.out,gb.setCell (by exact gA X) _⟩
theorem Gi(X:Nat)(s:ByteArray)(i:Nat)(l:List cO)(w:World)(h:f6 w X s i l)(hi:i<s.size)(hm:i=0->Lib.hasPrefix s.data.toList [239,187,191]=false)(hn:ac s i≠10/\ac s i≠32/\ac s i≠9/\ac s i≠13)(hl:l.length+1<=65537)(hT:cP w)(J:∀t∈l,t.text.size<=65536)(r:RO)(hr:fR s i l=some r):
  Calls prog 73 #[X] w (fU X s w r (.tuple #[])):=by
 obtain⟨lv,nv,ns,M⟩:=h.out;have hb:=M.blk;have ga:=h.most;have gb:=hb.lt;obtain⟨x0,x1,x2,x3,f0,f1,f2,f3⟩:=ab hb;have U:=fun W=>dL s i hi W;have HM:=hid (fun(D:i=0)w=>cR s ⟨#[239,187,191]⟩ w);have N:=hid (fun(D:i=0)w=>show Calls prog 95 #[.string s,.string ⟨#[239,187,191]⟩] w (fun e w'=>e=.returned (.bool false)/\w=w')by have:=HM.out D w;rw[show(⟨#[239,187,191]⟩:BA).data.toList=[239,187,191]from rfl,hm D]at this;exact this);clear hm HM;have HN:=hid (oQ X s i l w h hT hl J);have gd:=ed s i;generalize ac s i=c at *;obtain⟨m1,m2,m3,m4⟩:=hn;(have gh:((c:Int)==10)=false:=by rw[gC];omega);(have ge:((c:Int)==32)=false:=by rw[gC];omega);(have e9:((c:Int)==9)=false:=by rw[gC];omega);(have gg:((c:Int)==13)=false:=by rw[gC];omega);have qc:IntKind.i32.wrap (c:Int)=(c:Int):=qw _ (by omega);clear m1 m2 m3 m4;rw[hr]at HN;clear hr M hb h hT J;cases r with
 | go i2 l2=>
  cases D:((i:Int)==0);all_goals
   (go_enter func73,ntmps73);go_wp2_with fail;try
    refine(N.out (by have:=beq_iff_eq.1 D;omega) _).mono ?_
    rintro e w2⟨rfl,rfl⟩
    go_wp2_with fail
   refine HN.out.mono ?_;rintro e w2⟨rfl,O,I⟩;go_wp2_with fail;go_end0;exact⟨rfl,O,I⟩
 | bad p=>
  cases D:((i:Int)==0);all_goals
   (go_enter func73,ntmps73);go_wp2_with fail;try
    refine(N.out (by have:=beq_iff_eq.1 D;omega) _).mono ?_
    rintro e w2⟨rfl,rfl⟩
    go_wp2_with fail
   refine HN.out.mono ?_;rintro e w2⟨rfl,I⟩;unfold fb;exact⟨rfl,rfl,I⟩
theorem BV(X:Nat)(s:ByteArray)(i:Nat)(l:List cO)(w:World)(h:f6 w X s i l)(hi:i<s.size)(hm:i=0->Lib.hasPrefix s.data.toList [239,187,191]=false)(hn:ac s i≠10/\ac s i≠32/\ac s i≠9/\ac s i≠13)(hl:l.length+1<=65537)(hT:cP w)(N:∀t∈l,t.text.size<=65536)(hr:fR s i l=none)(hc:aJ (ac s i:Int)=true):
  Calls prog 73 #[X] w (rK X s w (i+bQ (s.data.toList.drop i)) (l++[⟨bM (s.extract i (i+bQ (s.data.toList.drop i)))+1,s.extract i (i+bQ (s.data.toList.drop i)),i⟩]) (.tuple #[])):=by
 obtain⟨lv,nv,ns,ge⟩:=h.out;have hb:=ge.blk;have g0:=h.most;have gi:=hb.lt;obtain⟨x0,x1,x2,x3,f0,f1,f2,f3⟩:=ab hb;have I:=fun W=>dL s i hi W;have HW:=hid (fun w'(hb:Below w w w')=>yv 99 RI RK X s i l w' (h.below hb));have HM:=hid (fun(M:i=0)w=>cR s ⟨#[239,187,191]⟩ w);have gh:=hid (fun(M:i=0)w=>show Calls prog 95 #[.string s,.string ⟨#[239,187,191]⟩] w (fun e w'=>e=.returned (.bool false)/\w=w')by have:=HM.out M w;rw[show(⟨#[239,187,191]⟩:BA).data.toList=[239,187,191]from rfl,hm M]at this;exact this);clear hm HM;have J:=hid (fun w=>ew (ac s i:Int) w);rw[hc]at J;clear hc;have HN:=hid (oQ X s i l w h hT hl N);have g3:=ed s i;generalize ac s i=c at *;obtain⟨m1,m2,m3,m4⟩:=hn;(have gq:((c:Int)==10)=false:=by rw[gC];omega);(have gn:((c:Int)==32)=false:=by rw[gC];omega);(have e9:((c:Int)==9)=false:=by rw[gC];omega);(have gp:((c:Int)==13)=false:=by rw[gC];omega);have qc:IntKind.i32.wrap (c:Int)=(c:Int):=qw _ (by omega);clear m1 m2 m3 m4;rw[hr]at HN;generalize hwl:i+bQ (s.data.toList.drop i)=e at *;(have g2:i<=e:=by omega);clear hr ge hb h hT N hwl;have gj:(e:Int)=(e:Int):=rfl;clear gj;cases M:((i:Int)==0);all_goals
  (go_enter func73,ntmps73);go_wp2_with fail;try
   refine(gh.out (by have:=beq_iff_eq.1 M;omega) _).mono ?_
   rintro e w2⟨rfl,rfl⟩
   go_wp2_with fail
  refine HN.out.mono ?_;rintro e2 w2⟨rfl,ga⟩;go_wp2_with fail;refine(J.out _).mono ?_;rintro e2 w3⟨rfl,rfl⟩;go_wp2_with fail;refine(HW.out _ ga).mono ?_;rintro e2 w4⟨rfl,D,gm⟩;obtain⟨gz,gv,gx,gd⟩:=D.out;have U:=gd.blk;have gt:=D.le;clear x0 x1 x2 x3 f0 f1 f2 f3;obtain⟨x0,x1,x2,x3,f0,f1,f2,f3⟩:=ab U;(have p0:(0:Int)<=(i:Int):=by omega);(have p1:(i:Int)<=(e:Int):=by omega);(have p2:(e:Int)<=(s.size:Int):=by omega);have hk:=BU (s.extract i e);have gr:=hid (fun w=>BK (s.extract i e) w);have gg:=fun(w':World)(hb:Below w4 w4 w')=>lu X s e l (bM (s.extract i e)+1) i (by omega) hl w' (D.below hb);have gs:=hid gg;clear gg;have g1:=fun W=>I6 (bM (s.extract i e)) hk W;generalize bM (s.extract i e)=kw at *;clear I gh J HN HW gq gn e9 gp qc x2 x3 f0 f1 f2 f3 U;(go_upto_region 13 with fail);go_region_held3 (fun w'=>w'.cell? ⟨X,0,none⟩=some (.string s)/\w'.cell? ⟨X,1,none⟩=some (.int .i64 (e:Int)))
   (first|exact⟨z0,z1⟩|go_keep)
   (first
    |(go_at_call 102;refine(gr.out _).mono ?_;rintro e3 w5⟨rfl,rfl⟩)
    |(go_at_call 101;refine(gs.out _ (gG _ _).drew).mono ?_;rintro e3 w6⟨rfl,O,gl⟩;obtain⟨gy,gu,gw,gb⟩:=O.out;have gk:=gb.blk;obtain⟨z0,z1,-,-,-,-,-,-⟩:=ab gk))
  all_goals(go_wp2_with fail);go_end0;exact⟨rfl,O,((ga.mono (jR gi)).trans gm).drew.trans gl⟩
theorem BW(X:Nat)(s:ByteArray)(i:Nat)(l:List cO)(w:World)(h:f6 w X s i l)(hi:i<s.size)(hm:i=0->Lib.hasPrefix s.data.toList [239,187,191]=false)(hn:ac s i≠10/\ac s i≠32/\ac s i≠9/\ac s i≠13)(hl:l.length+1<=65537)(hT:cP w)(J:∀t∈l,t.text.size<=65536)(hr:fR s i l=none)(M:aJ (ac s i:Int)=false)(hc:av (ac s i:Int)=true):
  Calls prog 73 #[X] w (rK X s w (i+bQ (s.data.toList.drop i)) (l++[⟨4,s.extract i (i+bQ (s.data.toList.drop i)),i⟩]) (.tuple #[])):=by
 obtain⟨lv,nv,ns,U⟩:=h.out;have hb:=U.blk;have gs:=h.most;have ge:=hb.lt;obtain⟨x0,x1,x2,x3,f0,f1,f2,f3⟩:=ab hb;have gh:=fun W=>dL s i hi W;have HW:=hid (fun w'(hb:Below w w w')=>yv 103 RJ RL X s i l w' (h.below hb));have HM:=hid (fun(I:i=0)w=>cR s ⟨#[239,187,191]⟩ w);have gl:=hid (fun(I:i=0)w=>show Calls prog 95 #[.string s,.string ⟨#[239,187,191]⟩] w (fun e w'=>e=.returned (.bool false)/\w=w')by have:=HM.out I w;rw[show(⟨#[239,187,191]⟩:BA).data.toList=[239,187,191]from rfl,hm I]at this;exact this);clear hm HM;have ga:=hid (fun w=>ew (ac s i:Int) w);have gb:=hid (fun w=>ip (ac s i:Int) w);rw[M]at ga;rw[hc]at gb;clear hc M;have HN:=hid (oQ X s i l w h hT hl J);have gu:=ed s i;generalize ac s i=c at *;obtain⟨m1,m2,m3,m4⟩:=hn;(have gx:((c:Int)==10)=false:=by rw[gC];omega);(have gv:((c:Int)==32)=false:=by rw[gC];omega);(have e9:((c:Int)==9)=false:=by rw[gC];omega);(have gw:((c:Int)==13)=false:=by rw[gC];omega);have qc:IntKind.i32.wrap (c:Int)=(c:Int):=qw _ (by omega);clear m1 m2 m3 m4;rw[hr]at HN;generalize hwl:i+bQ (s.data.toList.drop i)=e at *;(have gt:i<=e:=by omega);clear hr U hb h hT J hwl;have gg:(e:Int)=(e:Int):=rfl;clear gg;cases I:((i:Int)==0);all_goals
  (go_enter func73,ntmps73);go_wp2_with fail;try
   refine(gl.out (by have:=beq_iff_eq.1 I;omega) _).mono ?_
   rintro e w2⟨rfl,rfl⟩
   go_wp2_with fail
  refine HN.out.mono ?_;rintro e2 w2⟨rfl,N⟩;go_wp2_with fail;refine(ga.out _).mono ?_;rintro e2 w3⟨rfl,rfl⟩;go_wp2_with fail;refine(gb.out _).mono ?_;rintro e2 w3⟨rfl,rfl⟩;go_wp2_with fail;refine(HW.out _ N).mono ?_;rintro e2 w4⟨rfl,D,gk⟩;obtain⟨gr,gp,gq,O⟩:=D.out;have gj:=O.blk;have gn:=D.le;clear x0 x1 x2 x3 f0 f1 f2 f3;obtain⟨x0,x1,x2,x3,f0,f1,f2,f3⟩:=ab gj;(have p0:(0:Int)<=(i:Int):=by omega);(have p1:(i:Int)<=(e:Int):=by omega);(have p2:(e:Int)<=(s.size:Int):=by omega);have gm:=hid (lu X s e l 4 i (by omega) hl w4 D);go_wp2_with fail;refine gm.out.mono ?_;rintro e3 w6⟨rfl,gd,gi⟩;go_wp2_with fail;go_end0;exact⟨rfl,gd,((N.mono (jR ge)).trans gk).trans gi⟩
theorem DE(X:Nat)(s:ByteArray)(i:Nat)(l:List cO)(w:World)(h:f6 w X s i l)(hi:i<s.size)(hm:i=0->Lib.hasPrefix s.data.toList [239,187,191]=false)(hn:ac s i≠10/\ac s i≠32/\ac s i≠9/\ac s i≠13)(hl:l.length+1<=65537)(hT:cP w)(gd:∀t∈l,t.text.size<=65536)(hr:fR s i l=none)(gh:aJ (ac s i:Int)=false)(gg:av (ac s i:Int)=false)(en:Nat)(N:en=34\/en=96)(he:ac s i=en):
  Calls prog 73 #[X] w (fU X s w (rN s i l) (.tuple #[])):=by
 obtain⟨lv,nv,ns,gi⟩:=h.out;have hb:=gi.blk;have gn:=h.most;have ge:=hb.lt;obtain⟨x0,x1,x2,x3,f0,f1,f2,f3⟩:=ab hb;have gl:=fun W=>dL s i hi W;have J:=hid (fun w'(hb:Below w w w')=>DB X s i l w' (h.below hb) hi hl en N he);have HM:=hid (fun(M:i=0)w=>cR s ⟨#[239,187,191]⟩ w);have gj:=hid (fun(M:i=0)w=>show Calls prog 95 #[.string s,.string ⟨#[239,187,191]⟩] w (fun e w'=>e=.returned (.bool false)/\w=w')by have:=HM.out M w;rw[show(⟨#[239,187,191]⟩:BA).data.toList=[239,187,191]from rfl,hm M]at this;exact this);clear hm HM;have ga:=hid (fun w=>ew (ac s i:Int) w);have gb:=hid (fun w=>ip (ac s i:Int) w);rw[gh]at ga;rw[gg]at gb;clear gh gg;have HN:=hid (oQ X s i l w h hT hl gd);have gp:=ed s i;generalize ac s i=c at *;obtain⟨m1,m2,m3,m4⟩:=hn;(have gs:((c:Int)==10)=false:=by rw[gC];omega);(have gq:((c:Int)==32)=false:=by rw[gC];omega);(have e9:((c:Int)==9)=false:=by rw[gC];omega);(have gr:((c:Int)==13)=false:=by rw[gC];omega);have qc:IntKind.i32.wrap (c:Int)=(c:Int):=qw _ (by omega);clear m1 m2 m3 m4;rw[hr]at HN;subst he;have gm:=hid N;clear hr gi hb h hT gd N;rcases gm.out with rfl|rfl;all_goals
  cases I:rN s i l with
  | go i2 l2=>
   rw[I]at J;clear I;cases M:((i:Int)==0);all_goals
    (go_enter func73,ntmps73);go_wp2_with fail;try
     refine(gj.out (by have:=beq_iff_eq.1 M;omega) _).mono ?_
     rintro e w2⟨rfl,rfl⟩
     go_wp2_with fail
    refine HN.out.mono ?_;rintro U w2⟨rfl,D⟩;go_wp2_with fail;refine(ga.out _).mono ?_;rintro U w3⟨rfl,rfl⟩;go_wp2_with fail;refine(gb.out _).mono ?_;rintro U w3⟨rfl,rfl⟩;go_wp2_with fail;refine(J.out _ D).mono ?_;rintro U w3⟨rfl,gk,O⟩;go_wp2_with fail;go_end0;exact⟨rfl,gk,(D.mono (jR ge)).trans O⟩
  | bad p=>
   rw[I]at J;clear I;cases M:((i:Int)==0);all_goals
    (go_enter func73,ntmps73);go_wp2_with fail;try
     refine(gj.out (by have:=beq_iff_eq.1 M;omega) _).mono ?_
     rintro e w2⟨rfl,rfl⟩
     go_wp2_with fail
    refine HN.out.mono ?_;rintro U w2⟨rfl,D⟩;go_wp2_with fail;refine(ga.out _).mono ?_;rintro U w3⟨rfl,rfl⟩;go_wp2_with fail;refine(gb.out _).mono ?_;rintro U w3⟨rfl,rfl⟩;go_wp2_with fail;refine(J.out _ D).mono ?_;rintro U w3⟨rfl,O⟩;unfold fb;exact⟨rfl,rfl,(D.mono (jR ge)).trans O⟩
theorem Gj(X:Nat)(s:ByteArray)(i:Nat)(l:List cO)(w:World)(h:f6 w X s i l)(hi:i<s.size)(hm:i=0->Lib.hasPrefix s.data.toList [239,187,191]=false)(hn:ac s i≠10/\ac s i≠32/\ac s i≠9/\ac s i≠13)(hl:l.length+1<=65537)(hT:cP w)(gb:∀t∈l,t.text.size<=65536)(hr:fR s i l=none)(gg:aJ (ac s i:Int)=false)(ge:av (ac s i:Int)=false)(hq:ac s i≠34/\ac s i≠96):
  Calls prog 73 #[X] w (fU X s w (lQ s i l) (.tuple #[])):=by
 obtain⟨lv,nv,ns,gh⟩:=h.out;have hb:=gh.blk;have gl:=h.most;have gd:=hb.lt;obtain⟨x0,x1,x2,x3,f0,f1,f2,f3⟩:=ab hb;have gk:=fun W=>dL s i hi W;have J:=hid (fun w'(hb:Below w w w')=>I4 X s i l w' (h.below hb) (hT.below hb) hl hi);have HM:=hid (fun(M:i=0)w=>cR s ⟨#[239,187,191]⟩ w);have gi:=hid (fun(M:i=0)w=>show Calls prog 95 #[.string s,.string ⟨#[239,187,191]⟩] w (fun e w'=>e=.returned (.bool false)/\w=w')by have:=HM.out M w;rw[show(⟨#[239,187,191]⟩:BA).data.toList=[239,187,191]from rfl,hm M]at this;exact this);clear hm HM;have U:=hid (fun w=>ew (ac s i:Int) w);have ga:=hid (fun w=>ip (ac s i:Int) w);rw[gg]at U;rw[ge]at ga;clear gg ge;have HN:=hid (oQ X s i l w h hT hl gb);have gm:=ed s i;generalize ac s i=c at *;obtain⟨m1,m2,m3,m4⟩:=hn;(have gs:((c:Int)==10)=false:=by rw[gC];omega);(have gq:((c:Int)==32)=false:=by rw[gC];omega);(have e9:((c:Int)==9)=false:=by rw[gC];omega);(have gr:((c:Int)==13)=false:=by rw[gC];omega);have qc:IntKind.i32.wrap (c:Int)=(c:Int):=qw _ (by omega);clear m1 m2 m3 m4;rw[hr]at HN;(have gp:((c:Int)==34)=false:=by rw[gC];omega);(have gn:((c:Int)==96)=false:=by rw[gC];omega);clear hr gh hb h hT gb hq;cases I:lQ s i l with
 | go i2 l2=>
  rw[I]at J;clear I;cases M:((i:Int)==0);all_goals
   (go_enter func73,ntmps73);go_wp2_with fail;try
    refine(gi.out (by have:=beq_iff_eq.1 M;omega) _).mono ?_
    rintro e w2⟨rfl,rfl⟩
    go_wp2_with fail
   refine HN.out.mono ?_;rintro O w2⟨rfl,D⟩;go_wp2_with fail;refine(U.out _).mono ?_;rintro O w3⟨rfl,rfl⟩;go_wp2_with fail;refine(ga.out _).mono ?_;rintro O w3⟨rfl,rfl⟩;go_wp2_with fail;refine(J.out _ D).mono ?_;rintro O w3⟨rfl,gj,N⟩;go_wp2_with fail;go_end0;exact⟨rfl,gj,(D.mono (jR gd)).trans N⟩
 | bad p=>
  rw[I]at J;clear I;cases M:((i:Int)==0);all_goals
   (go_enter func73,ntmps73);go_wp2_with fail;try
    refine(gi.out (by have:=beq_iff_eq.1 M;omega) _).mono ?_
    rintro e w2⟨rfl,rfl⟩
    go_wp2_with fail
   refine HN.out.mono ?_;rintro O w2⟨rfl,D⟩;go_wp2_with fail;refine(U.out _).mono ?_;rintro O w3⟨rfl,rfl⟩;go_wp2_with fail;refine(ga.out _).mono ?_;rintro O w3⟨rfl,rfl⟩;go_wp2_with fail;refine(J.out _ D).mono ?_;rintro O w3⟨rfl,N⟩;unfold fb;exact⟨rfl,rfl,(D.mono (jR gd)).trans N⟩
end
end Go.Proofs.YtiebcdeafofgdaaGreatDoor
