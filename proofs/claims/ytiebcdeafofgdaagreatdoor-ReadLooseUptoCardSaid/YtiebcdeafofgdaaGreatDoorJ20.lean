/-
  Parts of the proof: Ldigits Lnum. By an AI agent.
-/
import Derived.Test.YtiebcdeafofgdaaGreatDoorJ19
import Derived.Test.YtiebcdeafofgdaaGreatDoorJ18
import Derived.Test.YtiebcdeafofgdaaGreatDoorJ17
import Derived.Maps.Own
import Derived.Maps.OwnSet
import Derived.Maps.Views
open Go.Proofs.Tryz
set_option maxRecDepth 100000
set_option maxHeartbeats 8000000
namespace Go.Proofs.YtiebcdeafofgdaaGreatDoor
section
open Go.RowKit Go.Lib Go.Proofs
attribute [local go_sem ↓] Go.wp_at_zero Go.wp_at_succ
def bO:Ending:=.panicked [{ v:=.iface 112 (.agg #[]),recovered:=false }]
theorem cZ(w:World):Calls prog 113 #[.bool true] w fun e w'=>e=.returned (.tuple #[])/\w=w':=by(go_enter func113,ntmps113);go_wp2_with fail;go_end0;exact⟨rfl,rfl⟩
theorem cv(w:World):Calls prog 113 #[.bool false] w fun e w'=>e=bO/\w=w':=by(go_enter func113,ntmps113);go_wp2_with fail;exact⟨rfl,rfl,rfl⟩
def ON(w:World)(r:Option Nat)(e:Ending)(w':World):Prop:=
 Below w w w'/\match r with
 |some v=>e=.returned (.int .i64 (v:Int))
 |none=>e=bO
def tS(radix:Nat)(r:List UInt8)(v:Nat):Option Nat->Option Nat
 |none=>none
 |some d=>if d<radix then fo radix r (v*radix+d)else none
theorem rS(radix:Nat)(c:UInt8)(r:List UInt8)(v:Nat):fo radix (c::r) v=tS radix r v (dD c.toNat):=by rw[fo];cases dD c.toNat<;>rfl
theorem Gp(c d:Nat)(D:dD c=some d):d<=15:=by
 unfold dD at D;split at D
 ·injection D with D;omega
 ·split at D
  ·injection D with D;omega
  ·split at D
   ·injection D with D;omega
   ·cases D
theorem rT(c:Nat)(h:128<=c):dD c=none:=by unfold dD;rw[d5 (by omega),d5 (by omega),d5 (by omega)]
theorem DK(s:ByteArray)(i:Nat):(Utf8.decode s i).1<2000000:=by
 have I:=ed s i;rw[l9,Gb];split
 ·simp only;omega
 ·split
  ·split<;>simp only<;>omega
  ·split
   ·split<;>simp only<;>omega
   ·split
    ·split
     ·rename_i D;have:=D.2;unfold Utf8.valid at this;simp at this;simp only;omega
     ·simp only;omega
    ·simp only;omega
theorem Au(s:ByteArray)(n:Nat):(s.extract 0 n).data.toList=s.data.toList.take n:=by rw[vA];simp
theorem nT(s:ByteArray)(n radix:Nat)(hn:n<=8)(hr:radix<=16)(w:World):
  Calls prog 195 #[s,(n:Int),(radix:Int)] w (ON w (cw s.data.toList n radix)):=by
 obtain⟨R,hR⟩:∃R,R=cw s.data.toList n radix:=⟨_,rfl⟩;rw[<-hR];have HR:=hid hR;clear hR;have h:s.data.toList.length=s.size:=rfl;by_cases O:n<=s.size
 rotate_left
 ·have U:Hid (R=none):=hid (by rw[HR.out,cw,d5 (by rw[h];exact O)]);(have hd:decide (n<=s.size)=false:=by rw[gJ];exact O);(have gr:decide ((n:Int)<=(s.size:Int))=false:=by rw[gJ];omega);clear O HR h;(go_enter func195,ntmps195);go_wp2_with fail;refine(cv _).mono ?_;rintro e w2⟨rfl,rfl⟩;unfold bO;refine⟨rfl,?_⟩;rw[U.out];exact⟨gG _ _,rfl⟩
 have gn:Hid (fo radix ((s.extract 0 n).data.toList) 0=R):=hid (by rw[HR.out,cw,gF (by rw[h];exact O),Au]);have gs:=hid (show(s.extract 0 n).size=n by rw[jW];omega);(have hd:decide (n<=s.size)=true:=by rw[gK];exact O);(have gr:decide ((n:Int)<=(s.size:Int))=true:=by rw[gK];omega);(have p0:(0:Int)<=(n:Int):=by omega);clear HR h;(go_enter func195,ntmps195);go_wp2_with fail;refine(cZ _).mono ?_;rintro e w2⟨rfl,rfl⟩;go_wp2_with fail;have gd:=qE w (s.extract 0 n) 0;have gm:Below w w (w.iter (s.extract 0 n) 0):=(gG _ w).alloc (gA _) _;generalize s.extract 0 n=t at *;(have gx:t.size<=8:=by have:=gs.out;omega);go_loopg [7,9,10,20,21] t.size (fun g u7 _ _ _ _ wr=>∃j v:Nat,j<=t.size/\t.size-j<=g/\wr.heap[w.heap.size]? = some (.stringIter t j)/\Below w w wr/\u7=.int .i64 (v:Int)/\v<16^j/\fo radix (t.data.toList.drop j) v=R)
 case atStart=>exact⟨0,0,gP _,by omega,gd,gm,rfl,by decide,by rw[qb];exact gn.out⟩
 case round=>
  clear gd gm gn;obtain⟨j,v,hj,gy,hit,hB,rfl,gv,hq⟩:=hrel;have gh:=hid hit;have HQ:=hid hq;clear hit hq;(have gw:v<4294967296:=by have h1:(16:Nat)^j<=16^8:=Nat.pow_le_pow_right (by omega) (by omega);(have h2:(16:Nat)^8=4294967296:=by decide);omega);by_cases J:j<t.size
  ·have D:=fun ty=>qP (P:=prog) wr w.heap.size t j ty gh.out J;obtain⟨c,rr,ga,gg,ge⟩:=lZ t j J;by_cases gb:ac t j<128
   ·have gl:=ld t j gb;rw[gl]at D;have N:Hid (tS radix rr v (dD (ac t j))=R):=hid (by rw[<-HQ.out,ga,rS,gg]);have gt:=hid ge;have j1:=qT wr w.heap.size t j (j+1) gh.out;have j2:Below w w (wr.iterAt w.heap.size t (j+1)):=cF hB (gA _);generalize wr.iterAt w.heap.size t (j+1)=W1 at D j1 j2;have J1:=hid j1;clear gl ga gg ge j1 HQ;generalize ac t j=bb at *;cases I:dD bb with
    |none=>have U:Hid (R=none):=hid (by rw[<-N.out,I];rfl);(have M:mW bb = -1:=by unfold mW;rw[I]);clear N I;go_wp2_with fail;refine(fJ bb (by omega) _).mono ?_;rw[M];rintro e w3⟨rfl,rfl⟩;go_wp2_with fail;refine(cv _).mono ?_;rintro e w3⟨rfl,rfl⟩;unfold bO;refine⟨rfl,?_⟩;rw[U.out];exact⟨j2,rfl⟩
    | some d=>
     (have M:mW bb=(d:Int):=by unfold mW;rw[I]);have gu:=Gp bb d I;(have e0:decide ((0:Int)<=(d:Int))=true:=by rw[gK];omega);by_cases yk:d<radix
     ·have U:Hid (fo radix rr (v*radix+d)=R):=hid (by rw[<-N.out,I,tS,gF yk]);(have e1:decide ((d:Int)<(radix:Int))=true:=by rw[gK];omega);have hp:v*radix<=4294967295*16:=Nat.mul_le_mul (by omega) hr;(have gp:v*radix+d<16^(j+1):=by have h1:v*radix<=v*16:=Nat.mul_le_mul_left _ hr;rw[Nat.pow_succ];omega);(have q1:IntKind.i64.wrap ((v:Int)*(radix:Int))=((v*radix:Nat):Int):=by rw[show(v:Int)*(radix:Int)=((v*radix:Nat):Int)by simp];exact gQ _ (by omega));clear N I;generalize v*radix=p at *;have q2:IntKind.i64.wrap ((p:Int)+(d:Int))=(p:Int)+(d:Int):=gQ _ (by omega);go_wp2_with fail;refine(fJ bb (by omega) _).mono ?_;rw[M];rintro e w3⟨rfl,rfl⟩;go_wp2_with fail;refine(cZ _).mono ?_;rintro e w3⟨rfl,rfl⟩;go_wp2_with fail;go_roundg (t.size-(j+1))
      case measure=>omega
      case rel=>exact⟨j+1,p+d,by omega,gA _,J1.out,j2,by go_num,gp,by rw[<-gt.out];exact U.out⟩
     ·have U:Hid (R=none):=hid (by rw[<-N.out,I,tS,d5 yk]);(have e1:decide ((d:Int)<(radix:Int))=false:=by rw[gJ];omega);clear N I;go_wp2_with fail;refine(fJ bb (by omega) _).mono ?_;rw[M];rintro e w3⟨rfl,rfl⟩;go_wp2_with fail;refine(cv _).mono ?_;rintro e w3⟨rfl,rfl⟩;unfold bO;refine⟨rfl,?_⟩;rw[U.out];exact⟨j2,rfl⟩
   ·have hh:=iy t j J (by omega);have gi:=DK t j;have U:Hid (R=none):=hid (by rw[<-HQ.out,ga,rS,rT _ (by omega)];rfl);have gj:=hh.1;clear hh gb ga gg ge;generalize Utf8.decode t j=q at *;obtain⟨r,k⟩:=q;simp only at gj D gi;have j2:Below w w (wr.iterAt w.heap.size t (j+k)):=cF hB (gA _);generalize wr.iterAt w.heap.size t (j+k)=W1 at D j2;(have M:mW r = -1:=by unfold mW;rw[rT r gj]);go_wp2_with fail;refine(fJ r gi _).mono ?_;rw[M];rintro e w3⟨rfl,rfl⟩;go_wp2_with fail;refine(cv _).mono ?_;rintro e w3⟨rfl,rfl⟩;unfold bO;refine⟨rfl,?_⟩;rw[U.out];exact⟨j2,rfl⟩
  ·have gq:=fun ty=>qF (P:=prog) wr w.heap.size t j ty gh.out J;have U:Hid (R=some v):=hid (by rw[<-HQ.out,jS (by have:t.data.toList.length=t.size:=rfl;omega),fo]);go_wp2_with fail;go_ret;rw[U.out];exact⟨hB,rfl⟩
def ER:List (Int×Int):=[(97,7),(98,8),(102,12),(110,10),(114,13),(116,9),(118,11),(92,92),(34,34)]
def DL{H:Type}(D:DataW H):List (Int×Int)->DataW H
 |[]=>D
 |p::r=>DL (D.put (.int .u8 p.1) (.lit (.int .u8 p.2))) r
theorem rU{H:Type}(w:World){ops:Array Oper}{rest:List Oper}{o:Oper}{a:Act}{Q:Exit->Act->World->Prop}
  (hg:o.guard=none)(m:Operand)(kk vv:Int)(O:o.op=Op.insert 156 m (.const (.int .u8 kk)) (.const (.int .u8 vv)))(hk:0<=kk/\kk<=255)(ga:0<=vv/\vv<=255)(b n:Nat)(D:DataW H)
  (hm:a.eval m=.map (some b))(J:w.ownsMap prog 5 (plainElem prog 5) b n D)(hn:n<100)
  (hK:∀w',w'.ownsMap prog 5 (plainElem prog 5) b (n+1) (D.put (.int .u8 kk) (.lit (.int .u8 vv)))->w.grownBy w' (some b)->wpList prog ops Q rest (a.put o.dst undef) w'):
  wpList prog ops Q (o::rest) a w:=by refine vy hg fun K' hK'=>?_;(have N:(Lit.int .u8 kk).wf=true:=by simp[Lit.wf,IntKind.min,IntKind.max,IntKind.signed,IntKind.bits];omega);(have M:(Lit.int .u8 vv).wf=true:=by simp[Lit.wf,IntKind.min,IntKind.max,IntKind.signed,IntKind.bits];omega);obtain⟨w',I,h,U⟩:=J.update (Maps.int_keyed underlying5) underlying156 (by unfold maxLen;omega) (Maps.keyOf_int_mk underlying5 N) (plainElem_int underlying5 M);unfold Oper.wp;have e1:a.eval (.const (.int .u8 kk))=.int .u8 kk:=rfl;have e2:a.eval (.const (.int .u8 vv))=.int .u8 vv:=rfl;simp[execOp,O,hm,e1,e2,I,Result.andThen];exact hK' _ _ (hK w' h U)
def cz(s:ByteArray):Nat×ByteArray:=
 if s.size<2\/ac s 0≠48 then(10,s)
 else if ac s 1=120\/ac s 1=88 then(16,s.extract 2 s.size)
 else if ac s 1=98\/ac s 1=66 then(2,s.extract 2 s.size)
 else if ac s 1=111\/ac s 1=79 then(8,s.extract 2 s.size)
 else(8,s.extract 1 s.size)
theorem B3(l:List UInt8)(t:ByteArray)(h:t.data.toList=l):t=⟨l.toArray⟩:=by subst h;rfl
theorem OO(s:ByteArray):uj s.data.toList=((cz s).1,(cz s).2.data.toList):=by
 unfold cz ac;have D:s.size=s.data.toList.length:=rfl;cases I:s.data.toList with
 |nil=>(have h0:s.size=0:=by rw[D,I];rfl);rw[gF (Or.inl (show s.size<2 by omega))];simp[uj,I]
 | cons a r=>
  cases J:r with
  |nil=>(have h0:s.size=1:=by rw[D,I,J];rfl);rw[gF (Or.inl (show s.size<2 by omega))];simp[uj,I,J]
  | cons b q=>
   rw[I,J]at D;simp at D;simp only[uj,List.getD_cons_zero,List.getD_cons_succ];by_cases O:a.toNat=48
   ·(have N:¬ (s.size<2\/a.toNat≠48):=by omega);(have h:(s.extract 2 s.size).data.toList=q:=by rw[eZ,I,J];rfl);(have e1:(s.extract 1 s.size).data.toList=b::q:=by rw[eZ,I,J];rfl);simp only[gF O,d5 N];by_cases M:b.toNat=120\/b.toNat=88
    ·simp only[gF M,h]
    ·by_cases U:b.toNat=98\/b.toNat=66
     ·simp only[d5 M,gF U,h]
     ·by_cases h3:b.toNat=111\/b.toNat=79
      ·simp only[d5 M,d5 U,gF h3,h]
      ·simp only[d5 M,d5 U,d5 h3,e1]
   ·have hy:s.size<2\/a.toNat≠48:=.inr O;simp only[d5 O,gF hy,I,J]
theorem La(s:ByteArray)(w:World)(hs:s.size<=1000):Calls prog 109 #[s] w fun e w'=>e=.returned (.tuple #[.int .i64 ((cz s).1:Int),.string (cz s).2])/\Below w w w':=by
 by_cases O:s.size<2
 ·have I:=hid (show cz s=(10,s)by unfold cz;rw[gF (.inl O)]);(have e2:decide ((s.size:Int)<2)=true:=by rw[gK];omega);clear O;(go_enter func109,ntmps109);go_wp2_with fail;go_ret2;exact⟨by rw[I.out];rfl,gG _ _⟩
 (have e2:decide ((s.size:Int)<2)=false:=by rw[gJ];omega);have gb:∀W,(Instr.index 9 (.string s) (.int .i64 0)).run prog W=.ok (.int .u8 (ac s 0:Int)) W:=fun W=>dL s 0 (by omega) W;have ga:∀W,(Instr.index 9 (.string s) (.int .i64 1)).run prog W=.ok (.int .u8 (ac s 1:Int)) W:=fun W=>dL s 1 (by omega) W;(have p2:(2:Int)<=(s.size:Int):=by omega);(have p1:(1:Int)<=(s.size:Int):=by omega);have hB:cz s=if ac s 0≠48 then(10,s)else if ac s 1=120\/ac s 1=88 then(16,s.extract 2 s.size)
  else if ac s 1=98\/ac s 1=66 then(2,s.extract 2 s.size)else if ac s 1=111\/ac s 1=79 then(8,s.extract 2 s.size)else(8,s.extract 1 s.size):=by
  unfold cz
  by_cases N:ac s 0≠48
  ·rw[gF (.inr N),gF N]
  ·rw[d5 (by omega),d5 N]
 have I:=hid hB;clear hB;generalize ac s 0=a at *;generalize ac s 1=b at *;by_cases M:a=48
 rotate_left
 ·have D:=hid (show cz s=(10,s)by rw[I.out,gF M]);(have ea:((a:Int) != 48)=true:=by rw[kZ];omega);clear M I;(go_enter func109,ntmps109);go_wp2_with fail;go_ret2;exact⟨by rw[D.out];rfl,gG _ _⟩
 subst M;by_cases hb:b=120\/b=88\/b=98\/b=66\/b=111\/b=79
 ·rcases hb with rfl|rfl|rfl|rfl|rfl|rfl;all_goals have D:=I.out;simp at D;have D:=hid D;clear I;(go_enter func109,ntmps109);go_wp2_with fail;go_quiet (fail);have J:=bg (gG w.heap.size w) nq;go_wp2_with fail;go_ret2;exact⟨by rw[D.out];rfl,J⟩
 have D:=hid (show cz s=(8,s.extract 1 s.size)by rw[I.out,d5 (by omega),d5 (by omega),d5 (by omega),d5 (by omega)]);(have U:((b:Int)==120)=false:=by rw[gC];omega);(have ge:((b:Int)==88)=false:=by rw[gC];omega);(have gd:((b:Int)==98)=false:=by rw[gC];omega);(have gh:((b:Int)==66)=false:=by rw[gC];omega);(have h:((b:Int)==111)=false:=by rw[gC];omega);(have gg:((b:Int)==79)=false:=by rw[gC];omega);clear hb;clear I;(go_enter func109,ntmps109);go_wp2_with fail;go_quiet (fail);have J:=bg (gG w.heap.size w) nq;go_wp2_with fail;go_ret2;exact⟨by rw[D.out];rfl,J⟩
def tT(radix:Nat)(r:List UInt8)(v:List Nat)(many:Nat):Option Nat->Option (List Nat×Bool×Nat)
 |none=>none
 |some d=>if d<radix then fP radix r (ec radix v d) false (many+1)else none
theorem DM(radix:Nat)(c:UInt8)(r:List UInt8)(v:List Nat)(line:Bool)(many:Nat):
  fP radix (c::r) v line many=if c.toNat=95/\line=false then fP radix r v true many else tT radix r v many (dD c.toNat):=by
 rw[fP];split
 ·rfl
 ·cases dD c.toNat<;>rfl
theorem RP(w7:World)(g7 c7:Nat)(h:w7.cell? ⟨g7,0,none⟩=some (.int .u8 48)):(convert 27 9 (.slice (some ⟨g7,0,none⟩) 1 c7)).run prog w7=.ok (.string ⟨#[48]⟩) w7:=
 run_convert_bytes_back (P:=prog) w7 27 9 5 ⟨g7,0,none⟩ c7 [48] underlying27 underlying5 underlying9 (fun j hj=>by(obtain rfl:j=0:=by simpa using hj);exact h)
theorem yw{B:Nat}{w w':World}{e:TypeId}{n:Nat}{v:Value}{xs:List Value}(h:w.ownsRow B e 1 v n xs)(D:∀g,v.ownBlock=some g->w'.heap[g]? = w.heap[g]?):w'.ownsRow B e 1 v n xs:=by
 refine⟨h.1,?_⟩;rcases h.2 with M|⟨g,cap,cur,e,J,I,r⟩
 ·exact .inl M
 ·exact .inr ⟨g,cap,cur,e,J,(D g (by rw[e];rfl)).trans I,r⟩
theorem OP(s:ByteArray):(cz s).1<=16/\2<=(cz s).1/\(cz s).2.size<=s.size:=by
 unfold cz;have D:=fa s 2;have I:=fa s 1;split
 ·exact⟨by omega,by omega,gA _⟩
 ·split
  ·exact⟨by omega,by omega,by simp only;omega⟩
  ·split
   ·exact⟨by omega,by omega,by simp only;omega⟩
   ·split
    ·exact⟨by omega,by omega,by simp only;omega⟩
    ·exact⟨by omega,by omega,by simp only;omega⟩
theorem tA(c:Nat)(h:128<=c):dD c=none:=by unfold dD;rw[d5 (by omega),d5 (by omega),d5 (by omega)]
def iM(w:World)(r:Option ByteArray)(e:Ending)(w':World):Prop:=
 Below w w w'/\match r with
 |some t=>e=.returned (.tuple #[.string t,.int .i64 0])
 |none=>∃n:Int,n≠0/\e=.returned (.tuple #[.string ⟨#[]⟩,.int .i64 n])
def mX(radix:Nat)(h0:Nat)(R:Option (List Nat×Bool×Nat)):Option ByteArray:=
 match R with
 |none=>none
 |some (v,line,many)=>if line=true\/many=0\/(radix=10/\1<many/\h0=48)then none else some (po v)
theorem DN(t:ByteArray):(t.data.toList.headD 0).toNat=ac t 0:=by unfold ac;cases t.data.toList<;>rfl
theorem Gq(s:ByteArray):lp s=if 200<s.size then none else if(cz s).1=10/\((cz s).2=⟨#[]⟩\/ac (cz s).2 0=95)then none
  else mX (cz s).1 (ac (cz s).2 0) (fP (cz s).1 (cz s).2.data.toList [] false 0):=by
 unfold lp;rw[OO];simp only[DN];have M:((cz s).2.data.toList=[])=((cz s).2=⟨#[]⟩):=by
  rw[eq_iff_iff];constructor
  ·intro h;have:=B3 [] _ h;exact this
  ·intro h;rw[h]
 (have I:((cz s).1=10/\((cz s).2.data.toList=[]\/ac (cz s).2 0=95))↔((cz s).1=10/\((cz s).2=⟨#[]⟩\/ac (cz s).2 0=95)):=by rw[M]);by_cases D:200<s.size
 ·rw[gF D,gF D]
 ·rw[d5 D,d5 D];by_cases J:(cz s).1=10/\((cz s).2.data.toList=[]\/ac (cz s).2 0=95)
  ·rw[gF J,gF (I.1 J)]
  ·rw[d5 J,d5 (fun h=>J (I.2 h))];unfold mX;cases fP (cz s).1 (cz s).2.data.toList [] false 0<;>rfl
theorem Gr(s:ByteArray)(i:Nat):(Utf8.decode s i).1<2000000:=by
 have I:=ed s i;rw[l9,Gb];split
 ·simp only;omega
 ·split
  ·split<;>simp only<;>omega
  ·split
   ·split<;>simp only<;>omega
   ·split
    ·split
     ·rename_i D;have:=D.2;unfold Utf8.valid at this;simp at this;simp only;omega
     ·simp only;omega
    ·simp only;omega
theorem ux (s:ByteArray)(w:World)(hs:s.size<=65536):Calls prog 79 #[s] w (iM w (lp s)):=by
 rw[Gq];by_cases gs:200<s.size
 ·have HR:=hid (gF gs:(if 200<s.size then none else if(cz s).1=10/\((cz s).2=⟨#[]⟩\/ac (cz s).2 0=95)then none
   else mX (cz s).1 (ac (cz s).2 0) (fP (cz s).1 (cz s).2.data.toList [] false 0))=none)
  rw[HR.out];(have jy:(200:Int)<(s.size:Int):=by omega);clear HR gs;(go_enter func79,ntmps79);go_wp2_with fail;go_ret2;exact⟨gG _ _,12,by decide,rfl⟩
 rw[d5 gs];(have jy:¬ (200:Int)<(s.size:Int):=by omega);have gx:=hid (fun w=>La s w (by omega));obtain⟨gr,j8,j7⟩:=OP s;(have jv:(cz s).2.size<=200:=by omega);generalize cz s=bt at *;obtain⟨radix,t⟩:=bt;simp only at gr j8 j7 jv gx;simp only;obtain⟨O,hO⟩:∃O,O=(if radix=10/\(t=⟨#[]⟩\/ac t 0=95)then none else mX radix (ac t 0) (fP radix t.data.toList [] false 0)):=⟨_,rfl⟩
 rw[<-hO];have HO:=hid hO;clear hO;have he:∀v line many,mX radix (ac t 0) (some (v,line,many))=if line=true\/many=0\/(radix=10/\1<many/\ac t 0=48)then none else some (po v):=fun _ _ _=>rfl;have gw:=hid he;clear he;have hu:0<t.size->∀W,(Instr.index 9 (.string t) (.int .i64 0)).run prog W=.ok (.int .u8 (ac t 0:Int)) W:=fun h W=>dL t 0 h W;have gt:=hid hu;clear hu;have g5:=hid (show t.size=0->t=⟨#[]⟩from fun h=>B3 [] t (jQ h));by_cases I:radix=10/\(t=⟨#[]⟩\/ac t 0=95)
 ·have jm:Hid (O=none):=hid (by rw[HO.out,gF I]);obtain⟨rfl,I⟩:=I;by_cases ge:t=⟨#[]⟩
  ·subst ge;clear I HO gw gt g5;(go_enter func79,ntmps79);go_wp2_with fail;refine(gx.out _).mono ?_;rintro e w1⟨rfl,U⟩;go_wp2_with fail;go_ret2;rw[jm.out];exact⟨U,4,by decide,rfl⟩
  ·have g2:=I.resolve_left ge;have gm:=gt.out (Nat.pos_of_ne_zero fun h=>ge (g5.out h));rw[g2]at gm;(have gj:t.toList.isEmpty=false:=by rw[aq];exact gM ge);(have g9:(t.toList==[])=false:=by rw[<-ck];exact gM ge);clear I HO gw gt g5 ge g2;(go_enter func79,ntmps79);go_wp2_with fail;refine(gx.out _).mono ?_;rintro e w1⟨rfl,U⟩;go_wp2_with fail;go_ret2;rw[jm.out];exact⟨U,4,by decide,rfl⟩
 have jl:Hid (mX radix (ac t 0) (fP radix t.data.toList [] false 0)=O):=hid (by rw[HO.out,d5 I]);have gq:(radix==10)=false\/((radix==10)=true/\t≠⟨#[]⟩/\ac t 0≠95):=by
  by_cases h:radix=10
  ·exact .inr ⟨beq_iff_eq.2 h,fun h2=>I ⟨h,.inl h2⟩,fun h2=>I ⟨h,.inr h2⟩⟩
  ·exact .inl (beq_eq_false_iff_ne.2 h)
 have ht:=hid gq;clear I gq;rcases ht.out with hr|⟨hr,gj,g2⟩;(have er:((radix:Int)==10)=false:=by rw[gC];have:=beq_eq_false_iff_ne.1 hr;omega);clear hr
 rotate_left
 (have er:((radix:Int)==10)=true:=by rw[kF];have:=beq_iff_eq.1 hr;omega);(have h4:t.toList.isEmpty=false:=by rw[aq];exact gM gj);(have g9:(t.toList==[])=false:=by rw[<-ck];exact gM gj);have gm:=gt.out (Nat.pos_of_ne_zero fun h=>gj (g5.out h));(have jg:((ac t 0:Int)==95)=false:=by rw[gC];omega);clear hr gj g2
 rotate_left
 all_goals
  (go_enter func79,ntmps79);go_wp2_with fail;refine(gx.out _).mono ?_;rintro e w1⟨rfl,U⟩;go_wp2_with fail;have hc:=qE w1 t 0;have jf:Below w w (w1.iter t 0):=U.trans (((gG _ w1).alloc (gA _) _).mono U.size);have jc:=U.size;clear U;generalize w1.heap.size=b at *;generalize w1.iter t 0=w2 at *;(try clear h4 g9 jg gm);go_loopg [6,7,8,10,11,35,36] t.size (fun g u6 u7 u8 _ _ _ _ wr=>∃(j:Nat)(vl:List Nat)(line:Bool)(many:Nat),j<=t.size/\t.size-j<=g/\wr.heap[b]? = some (.stringIter t j)/\pK (b+1) wr u6 vl/\(∀x∈vl,x<=9)/\vl.length<=2*j/\u7=.bool line/\u8=.int .i64 (many:Int)/\many<=j/\Below w w wr/\mX radix (ac t 0) (fP radix (t.data.toList.drop j) vl line many)=O)
  case atStart=>exact⟨0,[],false,0,gP _,by omega,hc,vc _ _ _ _,(fun x hx=>by cases hx),gP _,rfl,rfl,gA _,jf,by rw[qb];exact jl.out⟩
  case round=>
   clear hc jf jl gx;obtain⟨j,vl,line,many,hj,kp,hit,hO,h9,kl,rfl,rfl,km,hB,hq⟩:=hrel;have g4:=hid hit;have g3:=hid hO;have H9:=hid h9;have HQ:=hid hq;have kj:b<wr.heap.size:=by
    rcases kN b wr.heap.size with h|h
    ·exact h
    ·rw[kO h]at hit;cases hit
   clear hit hO h9 hq;by_cases N:j<t.size
   ·have M:=fun ty=>qP (P:=prog) wr b t j ty g4.out N;by_cases ha:ac t j<128
    ·obtain ⟨c,rr,gn,g0,gz⟩:=lZ t j N;have hd:=ld t j ha;rw[hd]at M;rw[gn]at HQ;have jk:=hid gz;have jo:=hid g0;have j1:=qT wr b t j (j+1) g4.out;have j2:Below w w (wr.iterAt b t (j+1)):=cF hB jc;have j3:pK (b+1) (wr.iterAt b t (j+1)) u6 vl:=B1 g3.out fun k hk _=>iterAt_other wr _ _ t _ (by omega);have ji:Hid (b<(wr.iterAt b t (j+1)).heap.size):=hid (by
      have h1:=qT wr b t j (j+1) g4.out;rcases kN b (wr.iterAt b t (j+1)).heap.size with h|h
      ·exact h
      ·rw[kO h]at h1;cases h1)
     generalize wr.iterAt b t (j+1)=W1 at M j1 j2 j3 ji;have J1:=hid j1;have J3:=hid j3;clear hd gn g0 gz j1 j3;generalize hbb:ac t j=bb at *;clear hbb;by_cases h_:bb=95/\line=false
     ·obtain⟨rfl,rfl⟩:=h_;have J:Hid (mX radix (ac t 0) (fP radix rr vl true many)=O):=hid (by rw[<-HQ.out,fP,gF ⟨jo.out,rfl⟩]);go_wp2_with fail;refine(fJ 95 (by omega) _).mono ?_;rintro e w3⟨rfl,rfl⟩;go_wp2_with fail;go_roundg (t.size-(j+1))
      case measure=>omega
      case rel=>exact⟨j+1,vl,true,many,by omega,gA _,J1.out,J3.out,H9.out,by omega,rfl,rfl,by omega,j2,by rw[<-jk.out];exact J.out⟩
     ·have gi:Hid (mX radix (ac t 0) (tT radix rr vl many (dD bb))=O):=hid (by rw[<-HQ.out,DM,jo.out,d5 h_]);have e_:(((bb:Int)==95) && !line)=false:=by
       cases hl:line with
       |true=>simp
       |false=>rw[beq_eq_false_iff_ne.2 (by intro h;exact h_ ⟨by omega,hl⟩)];rfl
      have E_:=hid e_;clear h_ e_ HQ;cases D:dD bb with
      | none=>
       have J:Hid (O=none):=hid (by rw[<-gi.out,D];rfl);(have gh:mW bb = -1:=by unfold mW;rw[D]);clear gi D;cases e1:((bb:Int)==95)<;>cases line;all_goals
        first
         |(exfalso;have:=E_.out;rw[e1]at this;cases this;done)
         |(go_wp2_with fail;refine(fJ bb (by omega) _).mono ?_;rw[gh];rintro e w3⟨rfl,rfl⟩;go_wp2_with fail;go_ret2;rw[J.out];exact⟨j2,4,by decide,rfl⟩)
      | some d=>
       (have gh:mW bb=(d:Int):=by unfold mW;rw[D]);have h7:d<=15:=by
        unfold dD at D;split at D
        ·injection D with D;omega
        ·split at D
         ·injection D with D;omega
         ·split at D
          ·injection D with D;omega
          ·cases D
       by_cases h6:d<radix
       ·have J:Hid (mX radix (ac t 0) (fP radix rr (ec radix vl d) false (many+1))=O):=hid (by rw[<-gi.out,D,tT,gF h6]);(have j6:decide ((radix:Int)<=(d:Int))=false:=by rw[gJ];omega);(have j5:decide ((d:Int)<0)=false:=by rw[gJ];omega);have qm:IntKind.i64.wrap ((many:Int)+1)=(many:Int)+1:=gQ _ (by omega);clear gi D;cases e1:((bb:Int)==95)<;>cases line;all_goals
         first
          |(exfalso;have:=E_.out;rw[e1]at this;cases this;done)
          | (go_wp2_with fail;refine(fJ bb (by omega) _).mono ?_;rw[gh];rintro e w3⟨rfl,rfl⟩;go_wp2_with fail;refine(Gn (b+1) _ vl radix d W1 J3.out (by have:=ji.out;omega) H9.out gr h7 (by omega)).mono ?_;rintro e w4⟨v4,rfl,je,hn⟩;have kc:=hid je;have J4:=hid ((hn.block b (qr _)).trans J1.out);have kg:=hid (j2.trans (hn.mono (by omega)));clear je hn;go_wp2_with fail;go_roundg (t.size-(j+1))
             case measure=>omega
             case rel=>exact⟨j+1,ec radix vl d,false,many+1,by omega,gA _,J4.out,kc.out,B2 radix gr vl d H9.out h7,(by have:=sP radix vl d;omega),rfl,by go_num,by omega,kg.out,by rw[<-jk.out];exact J.out⟩)
       ·have J:Hid (O=none):=hid (by rw[<-gi.out,D,tT,d5 h6];rfl);(have j6:decide ((radix:Int)<=(d:Int))=true:=by rw[gK];omega);(have j5:decide ((d:Int)<0)=false:=by rw[gJ];omega);clear gi D;cases e1:((bb:Int)==95)<;>cases line;all_goals
         first
          |(exfalso;have:=E_.out;rw[e1]at this;cases this;done)
          |(go_wp2_with fail;refine(fJ bb (by omega) _).mono ?_;rw[gh];rintro e w3⟨rfl,rfl⟩;go_wp2_with fail;go_ret2;rw[J.out];exact⟨j2,4,by decide,rfl⟩)
    ·obtain⟨c,rr,gn,g0,gz⟩:=lZ t j N;have hh:=iy t j N (by omega);have hw:=Gr t j;have J:Hid (O=none):=hid (by rw[<-HQ.out,gn,fP,d5 (by omega),tA _ (by omega)];rfl);have h5:=hh.1;clear hh ha gn g0 gz;generalize Utf8.decode t j=q at *;obtain⟨r,k⟩:=q;simp only at h5 M hw;have j2:Below w w (wr.iterAt b t (j+k)):=cF hB jc;generalize wr.iterAt b t (j+k)=W1 at M j2;(have jg:((r:Int)==95)=false:=by rw[gC];omega);(have gh:mW r = -1:=by unfold mW;rw[tA r h5]);go_wp2_with fail;refine(fJ r hw _).mono ?_;rw[gh];rintro e w3⟨rfl,rfl⟩;go_wp2_with fail;go_ret2;rw[J.out];exact⟨j2,4,by decide,rfl⟩
   ·have j4:=fun ty=>qF (P:=prog) wr b t j ty g4.out N;have ga:=hid (show(if line=true\/many=0\/(radix=10/\1<many/\ac t 0=48)then none else some (po vl))=O by rw[<-HQ.out,jS (by have:t.data.toList.length=t.size:=rfl;omega),fP];exact(gw.out _ _ _).symm);clear HQ;cases line with
    |true=>have J:Hid (O=none):=hid (by rw[<-ga.out,gF (.inl rfl)]);clear ga;go_wp2_with fail;go_ret2;rw[J.out];exact⟨hB,4,by decide,rfl⟩
    | false=>
     by_cases yk:many=0
     ·have J:Hid (O=none):=hid (by rw[<-ga.out,gF (.inr (.inl yk))]);subst yk;clear ga;go_wp2_with fail;go_ret2;rw[J.out];exact⟨hB,4,by decide,rfl⟩
     ·(have ks:((many:Int)==0)=false:=by rw[gC];omega);(have jw:0<t.size:=by omega);have gm:=gt.out jw;by_cases hz:radix=10/\1<many/\ac t 0=48
      ·have J:Hid (O=none):=hid (by rw[<-ga.out,gF (.inr (.inr hz))]);(have kb:((radix:Int)==10)=true:=by rw[kF];omega);(have kr:decide ((1:Int)<(many:Int))=true:=by rw[gK];omega);rw[hz.2.2]at gm;clear ga hz yk;first
        |(exfalso;rw[kb]at er;cases er;done)
        |(go_wp2_with fail;go_ret2;rw[J.out];exact⟨hB,4,by decide,rfl⟩)
      ·have J:=hid (show O=some (po vl)by rw[<-ga.out,d5 (fun h=>by rcases h with h|h|h;(cases h);(exact yk h);(exact hz h))]);have HZ:=hid hz;clear ga hz yk;have ja:((((radix:Int)==10)&&decide ((1:Int)<(many:Int)))&&((ac t 0:Int)==48))=false:=by
        cases h1:((radix:Int)==10)with
        |false=>rfl
        |true=>
         cases h2:decide ((1:Int)<(many:Int))with
         |false=>rfl
         |true=>have h1:=beq_iff_eq.1 h1;have h2:=of_decide_eq_true h2;show((ac t 0:Int)==48)=false;rw[gC];intro h3;exact HZ.out ⟨by omega,by omega,by omega⟩
       have kf:=hid ja;clear ja;obtain⟨A6,c6,ju,kq⟩:=py g3.out;subst ju;obtain⟨i0,hi,js,jr,jq⟩:=qO infoByte;(have jx:vl.length<=400:=by omega);have q1:IntKind.i64.wrap ((vl.length:Int)+1)=(vl.length:Int)+1:=gQ _ (by omega);have q2:IntKind.i64.wrap ((vl.length:Int)-1)=(vl.length:Int)-1:=gQ _ (by omega);generalize hb0:ac t 0=h0 at *;cases e1:((radix:Int)==10)<;>cases e2:decide ((1:Int)<(many:Int))<;>cases e3:((h0:Int)==48);all_goals
        first
         |(exfalso;have:=kf.out;rw[e1,e2,e3]at this;cases this;done)
         |(exfalso;rw[e1]at er;cases er;done)
         | (go_wp2_with (at_make;refine wpList_make_own _ rfl (.const (.int .i64 0)) (.tmp 81) 27 rfl wr.heap.size 5 i0 _ 1 underlying27 hi js jr .i64 .i64 _ (vl.length+1) rfl rfl (by rfl) (by rw[jq];omega) (by unfold maxLen;omega) (gA _) ?_;intro w5 hown5 gb);have jn:=hid (show DH wr.heap.size w5 (.slice (some ⟨wr,0,none⟩) 0 (vl.length+1)) []from hown5);have jj:Hid (pK (b+1) w5 (.slice A6 vl.length c6) vl):=hid (B1 g3.out fun k _ hk=>gb.block k hk (by simp));have g6:Below wr wr w5:=⟨gb.os,gb.tape,gb.output,gb.size,fun k hk=>gb.block k hk (by simp)⟩;have ku:=aD hB g6;clear hown5 gb;go_wp2_with fail;have ka:=g6.size;have kh:=H9.out;go_loopg [12,13] vl.length (fun gg u12 u13 wx=>∃k:Nat,k<=vl.length/\k<=gg/\u13=.int .i64 ((k:Int)-1)/\DH wr.heap.size wx u12 ((vl.drop k).reverse.map fun d=>UInt8.ofNat (48+d))/\pK (b+1) wx (.slice A6 vl.length c6) vl/\Below wr wr wx)
            case atStart=>exact⟨vl.length,gA _,gA _,rfl,by rw[List.drop_length];exact jn.out,jj.out,g6⟩
            case round=>
             rename World=>wx;clear jn jj g6 ka;obtain⟨k,hk,ko,rfl,hg,jd,hm⟩:=hrel;have gu:=hid hg;have ho:=hid jd;have kk:=hm.size;obtain⟨ki,jh,g8,jb⟩:=py hg;rw[jT,List.length_reverse,gY]at g8 jb;clear hg jd;subst g8;cases k with
             |succ k1=>
              rw[show((k1+1:Nat):Int)-1=(k1:Int)by omega];(have hf:k1<vl.length:=by omega);obtain⟨g,c',hv,j0,jz⟩:=qY ho.out (by omega);injection hv with e1 e2 e3;subst e1 e3;clear e2;have gp:=ve ho.out k1 (by omega);rw[List.getElem?_map,gN hf]at gp;have jt:=kh _ (gX hf);have ke:=hid (jX hf);simp only[qf]at gp;generalize vl[k1]=x at *;(have p0:(0:Int)<=(k1:Int):=by omega);(have p1:(k1:Int)<(vl.length:Int):=by omega);have q3:IntKind.i64.wrap (48+(x:Int))=48+(x:Int):=gQ _ (by omega);have q4:IntKind.u8.wrap (48+(x:Int))=48+(x:Int):=IntWalk.u8_in _ (by omega);have q5:IntKind.i64.wrap ((k1:Int)-1)=(k1:Int)-1:=gQ _ (by omega);have HU:=hid (show(48+(x:Int))=((UInt8.ofNat (48+x)).toNat:Int)by rw[UInt8.toNat_ofNat'];omega);have gv:=hid (show((vl.drop (k1+1)).reverse.map fun d=>UInt8.ofNat (48+d)).length=vl.length-(k1+1)by rw[jT,List.length_reverse,gY]);have HE:=hid (show((vl.drop (k1+1)).reverse.map fun d=>UInt8.ofNat (48+d))++[UInt8.ofNat (48+x)]=(vl.drop k1).reverse.map fun d=>UInt8.ofNat (48+d)by rw[ke.out,List.reverse_cons,kT];rfl);clear jt;generalize hLL:((vl.drop (k1+1)).reverse.map fun d=>UInt8.ofNat (48+d))=LL at *;go_wp2_with (at_builtin;refine rR rfl (.tmp 90) (.tmp 97) rfl wr.heap.size _ _ LL (UInt8.ofNat (48+x)) _ (by rw[<-gv.out];rfl) _ rfl rfl HU.out gu.out (by omega) (by rw[gv.out];omega) ?_;intro g7 c7 w7 hO7 g1);have j9:pK (b+1) w7 (.slice (some ⟨g,0,none⟩) vl.length c6) vl:=yw ho.out fun q hq=>g1.block q (vo g3.out q hq).2;go_roundg k1
              case measure=>omega
              case rel=>exact⟨k1,by omega,gA _,rfl,by rw[<-HE.out];exact hO7,j9,hm.trans g1⟩
             |zero=>
              rw[show((0:Nat):Int)-1 = -1 by omega];have gv:=hid (show((vl.drop 0).reverse.map fun d=>UInt8.ofNat (48+d)).length=vl.length by rw[jT,List.length_reverse,gY];omega);have jp:=hid (aD hB hm);by_cases gy:vl=[]
              ·subst gy;have hp:=hid (show O=some ⟨#[48]⟩from J.out);have gd:=gu.out;clear J gv;go_wp2_with (at_builtin;refine rR rfl (.tmp 102) (.tmp 103) rfl wr.heap.size _ _ [] 48 _ rfl _ rfl rfl rfl gd (by omega) (by simp) ?_;intro g7 c7 w7 hO7 g1;have h8:=RP w7 g7 c7 (ve hO7 0 (by decide)));go_ret2;rw[hp.out];exact⟨jp.out.trans (g1.mono (by have:=hB.size;omega)),rfl⟩
              ·have hp:=hid (show O=some ⟨(vl.reverse.map fun d=>UInt8.ofNat (48+d)).toArray⟩by rw[J.out,po,d5 gy]);rw[Nat.sub_zero]at gu |-;have hy:0<vl.length:=Nat.pos_of_ne_zero fun h=>gy (jQ h);(have kt:((vl.length:Int)==0)=false:=by rw[gC];omega);have kd:=hid (show DH wr.heap.size wx (.slice ki vl.length jh) (vl.reverse.map fun d=>UInt8.ofNat (48+d))from gu.out);(have gl:(vl.reverse.map fun d=>UInt8.ofNat (48+d)).length=vl.length:=by rw[jT,List.length_reverse]);have gd:=kd.out;unfold DH at gd;rw[gl]at gd;obtain⟨g7,c7,hv,j0,jz⟩:=qY gd hy;injection hv with e1 e2 e3;subst e1 e3;clear e2;have h8:=run_convert_bytes_back (P:=prog) wx 27 9 5 ⟨g7,0,none⟩ jh (vl.reverse.map fun d=>UInt8.ofNat (48+d)) underlying27 underlying5 underlying9 (fun j hj=>by rw[oI,kS,ve gd j (by omega),List.getElem?_map,gN hj];rfl);rw[gl]at h8;generalize(⟨(vl.reverse.map fun d=>UInt8.ofNat (48+d)).toArray⟩:ByteArray)=SS at *;clear gl gd J gv gu gy;go_wp2_with fail;go_ret2;rw[hp.out];exact⟨jp.out,rfl⟩)
end
end Go.Proofs.YtiebcdeafofgdaaGreatDoor
