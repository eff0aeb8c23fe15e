/-
  Parts of the proof: Otrow Oalone Oterms Ofac. By an AI agent.
-/
import Derived.Test.YtcoiialmdncpfaaGreatDoorJ23
import Derived.Test.YtcoiialmdncpfaaGreatDoorJ05
import Derived.Test.YtcoiialmdncpfaaGreatDoorJ21
import Derived.Test.YtcoiialmdncpfaaGreatDoorJ01
import Derived.Test.YtcoiialmdncpfaaGreatDoorJ08
import Derived.Test.YtcoiialmdncpfaaGreatDoorJ13
import Derived.Deep.LoopGhost
import Derived.Laws.OwnMore
open Go.Proofs.Tryz
set_option maxRecDepth 100000
set_option maxHeartbeats 8000000
namespace Go.Proofs.YtcoiialmdncpfaaGreatDoor
section
open Go.RowKit Go.Lib Go.Proofs
attribute [local go_sem ↓] Go.wp_at_zero Go.wp_at_succ
def dC:Ending:=.panicked [{ v:=.iface 134 (.agg #[]),recovered:=false }]
theorem og(w:World):Calls prog 72 #[.bool false] w fun e w'=>e=dC/\w=w':=by(go_enter func72,ntmps72);go_wp2_with fail;exact⟨rfl,rfl,rfl⟩
theorem uO(X:Nat)(s sign:ByteArray)(w:World)(M:Dr w X s):
  Calls prog 71 #[X,sign] w fun e w'=>e=.returned (.bool (aC s sign).1)/\Kx (fun k=>k=X) w w'/\Dr w' X (aC s sign).2:=by
 have h:=Iz X s sign _ _ _ w M rfl rfl rfl;refine h.mono fun e w'⟨J,I,hb⟩=>⟨?_,I,?_⟩
 ·rw[J];unfold aC;simp only;split
  ·rename_i D;rw[D]
  ·rename_i D;rw[Bool.not_eq_true _ |>.mp D]
 ·unfold aC;simp only;split
  ·rename_i D;rw[gL D]at hb;exact hb
  ·rename_i D;rw[gE D]at hb;exact hb
def Cb(X:Nat)(w:World)(r:fS)(e:Ending)(w':World):Prop:=match r with
 |some (x,s')=>(∃v,e=.returned v/\ni (fun b=>w.heap.size<=b) w' v x)/\Dr w' X s'/\Kx (fun k=>k=X) w w'
 |none=>e=dC/\Kx (fun k=>k=X) w w'
def Pd(X:Nat)(k:FuncId)(args:Array Value)(part:ByteArray->fS)(N:Nat)(w0:World):Prop:=
 ∀(w:World)(s:ByteArray),Kx (fun k=>k=X) w0 w->s.size<=N->Dr w X s->Calls prog k args w (Cb X w (part s))
theorem Cc(X:Nat)(k:FuncId)(first cap:Array Value)(part:ByteArray->fS)(sign:ByteArray)(N:Nat)(s:ByteArray)(w:World)(hB:Dr w X s)(hs:s.size<=N)(hN:N<=500000)(jr:0<sign.size)
  (hk:∀a w,(callFunc k a).run prog w=.ok (.enter k a) w)(hp:Pd X k (first++cap) part N w)(hm:pI part):
  Calls prog 123 #[X,sign,.func (.func k) first cap] w (Cb X w (nQ part sign s)):=by
 have I:=hB.lt;have h8:=hB.alloc (.cells #[.string ⟨#[]⟩,.string ⟨#[]⟩,.slice none 0 0] 73);have gp:Kx (fun k=>k=X) w (w.alloc (.cells #[.string ⟨#[]⟩,.string ⟨#[]⟩,.slice none 0 0] 73)):=Kx.below ((gC _ w).alloc (gA _) _);have h4:=aa.new w 73 #[.string ⟨#[]⟩,.string ⟨#[]⟩,.slice none 0 0];(have gh:w.heap.size≠X:=by omega);have H1:=hid (hp _ s gp hs h8);have HP:=hid hp;have HR:=hid (show nQ part sign s=(match part s with
  |none=>none
  | some (x,s1)=>match ew part sign (s1.size+1) [x] s1 with
    |none=>none
    |some (l,O)=>some (AO sign l,O))from rfl)
 generalize nQ part sign s=res at *;have jb:=hid hm;clear hB hp hm;(have hh:(w.alloc (.cells #[.string ⟨#[]⟩,.string ⟨#[]⟩,.slice none 0 0] 73)).heap.size=w.heap.size+1:=by simp);(go_enter func123,ntmps123);go_wp2_with fail;cases hP:part s with
 |none=>rw[hP]at HR H1;have hz:res=none:=HR.out;subst hz;refine H1.out.mono ?_;rintro e w1⟨rfl,gi⟩;unfold dC;exact⟨rfl,rfl,gp.trans gi⟩
 | some r1=>
  obtain⟨x,s1⟩:=r1;have jg:s1.size<=N:=gM (jb.out s x s1 hP) hs;rw[hP]at HR H1;refine H1.out.mono ?_;rintro e w1⟨⟨v,rfl,hv⟩,g0,gi⟩;obtain⟨A,cp,rfl,hC⟩:=hv.toC;have ht:=gp.trans gi;have hw:=gi.blk h4 gh;have gv:=gi.bel.size;rw[hh]at gv;rw[hh]at hC;have HC:=hid hC;have HM:=hid (show res=(match ew part sign (s1.size+1) [x] s1 with
   |none=>none
   |some (l,O)=>some (AO sign l,O))from HR.out)
  have hj:=g0.lt;(have hq:lQ (w.heap.size+1) (w1.alloc (.cells #[.string x.op,.string x.tag,.slice A x.kids.length cp] 73)) (.slice (some ⟨w1,0,none⟩) 1 1) [x]:=by refine⟨[.string x.op,.string x.tag,.slice A x.kids.length cp],World.ownsRow_lit w1 #[.string x.op,.string x.tag,.slice A x.kids.length cp] 1 (by omega) (by decide) rfl,?_⟩;refine bE.one (((hC.mono (Y:=fun b=>w.heap.size+1<=b/\b<w1.heap.size) fun b hb I=>⟨hb,I⟩).keep fun b hb I=>gS w1 _ b I).mono fun b hb _=>⟨hb.1,?_⟩);intro e;(have e:b=w1.heap.size:=by injection e);omega);have h7:=g0.alloc (.cells #[.string x.op,.string x.tag,.slice A x.kids.length cp] 73);have hu:=hw.alloc (.cells #[.string x.op,.string x.tag,.slice A x.kids.length cp] 73);have hr:=ht.trans (Kx.below ((gC _ w1).alloc (gA _) (.cells #[.string x.op,.string x.tag,.slice A x.kids.length cp] 73)));clear gp gi h8 h4 H1 ht hw g0 hC hv HR hP;go_wp2_with fail;obtain⟨M,hM⟩:∃M,M=ew part sign (s1.size+1) [x] s1:=⟨_,rfl⟩;rw[<-hM]at HM;have h9:=hid hM;clear hM;go_loopg [7] (s1.size+1) (fun g u7 wr=>∃(l:List Tx)(O:ByteArray),lQ (w.heap.size+1) wr u7 l/\1<=l.length/\l.length+g<=600000/\M=ew part sign g l O/\O.size<g/\O.size<=N/\Dr wr X O/\Kx (fun k=>k=X) w wr/\aa wr w.heap.size 73 #[.string ⟨#[]⟩,.string ⟨#[]⟩,.slice none 0 0])
  case atStart=>exact⟨[x],s1,hq,gA _,by show 1+(s1.size+1)<=600000;omega,h9.out,jO _,jg,h7,hr,hu⟩
  case round=>
   clear hq h7 hr hu h9 gv hj HC;obtain⟨l,O,hO,hn,ju,hM,jp,js,gt,gr,gs⟩:=hrel;cases gk with
   |zero=>omega
   | succ g1=>
    have gu:=hid hM;have HT:=hid (uO X O sign wr gt);have HO:=hid hO;have jw:=gt.lt;have ha:=eh O sign;have g3:=hid ha;clear hM hO ha;cases hb:(aC O sign).1 with
    | false=>
     have ja:Hid (M=some (l,(aC O sign).2)):=hid (by rw[gu.out,ew,hb];rfl);have HF:Hid (res=some (AO sign l,(aC O sign).2)):=hid (by rw[HM.out,ja.out]);rw[hb]at HT;generalize(aC O sign).2=s3 at *;clear hb HM gu ja g3;go_wp2_with fail;refine HT.out.mono ?_;rintro e w3⟨rfl,q,gm⟩;have gl:=gr.trans q;have D:=q.blk gs gh;have gd:lQ (w.heap.size+1) w3 u7 l:=HO.out.keep fun b hb I=>q.same b I (by omega);have c0:=(D.cell 0).trans rfl;have c1:=(D.cell 1).trans rfl;have c2:=(D.cell 2).trans rfl;have f0:=D.frozen 0;have f1:=D.frozen 1;have f2:=D.frozen 2;clear HT HO q gt gr gs;obtain⟨xs,J,gn⟩:=gd.out;obtain⟨g,z,jf⟩:∃g z,u7=.slice (some ⟨g,0,none⟩) l.length z:=by
      rcases J.2 with⟨_,h0⟩|⟨g,z,_,e,_⟩
      ·omega
      ·exact⟨g,z,e⟩
     subst jf;by_cases gw:l.length=1
     ·obtain⟨y,rfl⟩:∃y,l=[y]:=by
       match l,gw with
       |[y],_=>exact⟨y,rfl⟩
      have g9:=gn;unfold bE at gn;obtain⟨ys,zs,rfl,hy,gx⟩:=gn;unfold bE at gx;subst gx;obtain⟨A2,gg,je,rfl,h1,h2,h3⟩:=hy.toV;have l0:=qG J 0 (by simp);have l1:=qG J 1 (by simp);have l2:=qG J 2 (by simp);simp only[vy,List.getElem?_cons_zero,List.getElem?_cons_succ]at l0 l1 l2;have ho:ni (fun b=>w.heap.size+1<=b) w3 (.agg #[.string y.op,.string y.tag,.slice A2 y.kids.length gg]) y:=ni.mono (fun b hb _=>hb.1) ⟨A2,gg,je,rfl,h1,h2,h3⟩;have g2:=hid ho;clear ho h1 h2 h3 hy g9 J gd;have hn:[y].length=1:=rfl;rw[hn];go_wp2_with fail;obtain⟨ge,gz,gy⟩:=DK (gA _) gh D gm gl (.string y.op) (.string y.tag) (.slice A2 y.kids.length gg);have h:∀b,w.heap.size+1<=b->b<w3.heap.size->(((w3.setCell ⟨w,0,none⟩ (.string y.op)).setCell ⟨w,1,none⟩ (.string y.tag)).setCell ⟨w,2,none⟩ (.slice A2 y.kids.length gg)).heap[b]? = w3.heap[b]? :=fun b hb _=>(gF _ ⟨w,2,none⟩ _ b (by show b≠w.heap.size;omega)).trans ((gF _ ⟨w,1,none⟩ _ b (by show b≠w.heap.size;omega)).trans (gF _ ⟨w,0,none⟩ _ b (by show b≠w.heap.size;omega)));generalize((w3.setCell ⟨w,0,none⟩ (.string y.op)).setCell ⟨w,1,none⟩ (.string y.tag)).setCell ⟨w,2,none⟩ (.slice A2 y.kids.length gg)=ga at *;have z0:ga.cell? ⟨w,0,none⟩=some (.string y.op):=(ge.cell 0).trans rfl;have z1:ga.cell? ⟨w,1,none⟩=some (.string y.tag):=(ge.cell 1).trans rfl;have z2:ga.cell? ⟨w,2,none⟩=some (.slice A2 y.kids.length gg):=(ge.cell 2).trans rfl;rw[HF.out];refine jD (v:=.agg #[.string y.op,.string y.tag,.slice A2 y.kids.length gg]) ?_ rfl ⟨⟨_,rfl,(g2.out.keep h).mono fun b hb _=>by omega⟩,gz,gy⟩;simp[results,results123,go_sem,z0,z1,z2]
     ·(have jv:((l.length:Int)==1)=false:=by rw[gD];omega);have g2:=hid (gd.values);have hi:AO sign l=.mk sign ⟨#[]⟩ l:=by
       unfold AO;split
       ·exact absurd rfl gw
       ·rfl
      have jj:=hid hi;clear hi J gn gd;go_wp2_with fail;obtain⟨ge,gz,gy⟩:=DK (gA _) gh D gm gl (.string sign) (.string ⟨#[]⟩) (.slice (some ⟨g,0,none⟩) l.length z);have h:∀b,w.heap.size+1<=b->b<w3.heap.size->(((w3.setCell ⟨w,0,none⟩ (.string sign)).setCell ⟨w,1,none⟩ (.string ⟨#[]⟩)).setCell ⟨w,2,none⟩ (.slice (some ⟨g,0,none⟩) l.length z)).heap[b]? = w3.heap[b]? :=fun b hb _=>(gF _ ⟨w,2,none⟩ _ b (by show b≠w.heap.size;omega)).trans ((gF _ ⟨w,1,none⟩ _ b (by show b≠w.heap.size;omega)).trans (gF _ ⟨w,0,none⟩ _ b (by show b≠w.heap.size;omega)));generalize((w3.setCell ⟨w,0,none⟩ (.string sign)).setCell ⟨w,1,none⟩ (.string ⟨#[]⟩)).setCell ⟨w,2,none⟩ (.slice (some ⟨g,0,none⟩) l.length z)=ga at *;have z0:ga.cell? ⟨w,0,none⟩=some (.string sign):=(ge.cell 0).trans rfl;have z1:ga.cell? ⟨w,1,none⟩=some (.string ⟨#[]⟩):=(ge.cell 1).trans rfl;have z2:ga.cell? ⟨w,2,none⟩=some (.slice (some ⟨g,0,none⟩) l.length z):=(ge.cell 2).trans rfl;rw[HF.out];refine jD (v:=.agg #[.string sign,.string ⟨#[]⟩,.slice (some ⟨g,0,none⟩) l.length z]) ?_ rfl ⟨⟨_,rfl,by rw[jj.out];obtain⟨A5,jx,jd,e5,h1,h2,h3⟩:=g2.out;injection e5 with e5 e6 e7;subst e5;subst e7;exact⟨_,_,jd,rfl,h1,(h2.keep h).mono (fun b hb _=>by omega) (by omega),(h3.keep h).mono fun b hb _=>by omega⟩⟩,gz,gy⟩;simp[results,results123,go_sem,z0,z1,z2]
    | true=>
     (have jq:(aC O sign).2.size<O.size:=by have:=g3.out.2 hb;omega);have g6:=hid (show M=(match part (aC O sign).2 with
      |some (y,s4)=>ew part sign g1 (l++[y]) s4
      |none=>none)by rw[gu.out,ew,hb];rfl)
     rw[hb]at HT;generalize(aC O sign).2=s3 at *;clear hb gu g3;go_wp2_with fail;refine HT.out.mono ?_;rintro e w3⟨rfl,q,gm⟩;have gl:=gr.trans q;have D:=q.blk gs gh;have gd:lQ (w.heap.size+1) w3 u7 l:=HO.out.keep fun b hb I=>q.same b I (by omega);have H4:=hid (HP.out w3 s3 gl (by omega) gm);have g4:=hid gd;have g8:=hid D;have g7:=hid gl;clear HT HO q gt gr gs gd D gl;go_wp2_with fail;cases gj:part s3 with
     |none=>(have hz:res=none:=by rw[HM.out,g6.out,gj]);subst hz;rw[gj]at H4;refine H4.out.mono ?_;rintro e w4⟨rfl,gb⟩;unfold dC;exact⟨rfl,rfl,g7.out.trans gb⟩
     |some r4=>
      obtain⟨y,s4⟩:=r4;have jt:s4.size<=s3.size:=jb.out s3 y s4 gj;have jl:Hid (M=ew part sign g1 (l++[y]) s4):=hid (by rw[g6.out,gj]);rw[gj]at H4;refine H4.out.mono ?_;rintro e w4⟨⟨v,rfl,hv⟩,h6,gb⟩;obtain⟨A4,ji,rfl,h5⟩:=hv.toC;have hf:w.heap.size+1<=w3.heap.size:=g8.out.lt;have he:=gb.bel.size;have HU:Hid (∀g,u7.ownBlock=some g->g<w3.heap.size):=hid (fun g hg=>(g4.out.lt g hg).2);have jk:Hid (lQ (w.heap.size+1) w4 u7 l):=hid (g4.out.keep fun b hb I=>gb.same b I (by omega));have jc:=hid (g7.out.trans gb);have jm:=hid (gb.blk g8.out gh);have jn:=hid h5;have jo:=hid h6;(have hl:l.length<=1000000:=by omega);clear gj H4 g6 g4 g8 g7 hv h5 gb h6 gm;go_wp2_with (at_builtin;refine AP rfl (.tmp 14) (.tmp 17) rfl (w.heap.size+1) w3.heap.size w4 u7 l y A4 ji rfl rfl jk.out hf he HU.out hl jn.out ?_;intro g5 c5 w5 jh gq hg5);go_roundg g1
      case measure=>omega
      case rel=>refine⟨l++[y],s4,jh,by simp,by simp;omega,jl.out,by omega,by omega,jo.out.below gq (by omega),⟨jc.out.bel.trans (gq.mono (gT _)),fun k hk hc=>(gq.block k (by omega)).trans (jc.out.same k hk hc)⟩,jm.out.below gq (by omega)⟩
theorem M0(r:Nat)(D:Utf8.valid (r:Int)=true)(w:World):Calls prog 177 #[.string dr,.int .i32 (r:Int)] w (Mv r w):=by
 (have hb:r<1114112:=by unfold Utf8.valid at D;simp only[vI,gR,jG]at D;omega);by_cases O:r<128
 ·exact MX r O w
 ·by_cases M:r<2048
  ·exact MZ r (by omega) M D w
  ·by_cases J:r<65536
   ·by_cases I:r=65533
    ·subst I;exact MW w
    ·exact FF r (by omega) J D I w
   ·exact Iv r (by omega) hb D w
theorem FK(r:Nat)(D:Utf8.valid (r:Int)=true)(w:World):Calls prog 128 #[.string dr,.int .i32 (r:Int)] w fun e w'=>e=.returned (.bool (pk r))/\Below w w w':=by have H:=hid (M0 r D w);clear D;(go_enter func128,ntmps128);go_wp2_with fail;refine H.out.mono ?_;rintro e w1⟨k,rfl,I,hb⟩;have J:=hid I;clear I H;go_wp2_with fail;go_ret;exact⟨by rw[<-J.out];rfl,hb⟩
theorem FL(s:ByteArray)(i:Nat):Utf8.valid ((Utf8.decode s i).1:Int)=true:=by
 rw[im];unfold Dv;(have low:∀n:Nat,n<55296->Utf8.valid (n:Int)=true:=fun n h=>by unfold Utf8.valid;simp only[vI,gR,jG];omega);(have err:Utf8.valid ((65533:Nat):Int)=true:=by decide);split
 ·exact low _ (by omega)
 ·split
  ·split
   ·exact low _ (by simp only;omega)
   ·exact err
  ·split
   ·split
    ·rename_i h;exact h.2
    ·exact err
   ·split
    ·split
     ·rename_i h;exact h.2
     ·exact err
    ·exact err
def da:Nat->ByteArray->ByteArray
 |0,s=>s
 |f+1,s=>if s.size=0 then s else if pk (Utf8.decode s 0).1=true then da f (s.extract (Utf8.decode s 0).2 s.size)else s
theorem IA(s:ByteArray)(h:0<s.size):1<=(Utf8.decode s 0).2/\(Utf8.decode s 0).2<=s.size:=by
 by_cases D:ai s 0<128
 ·rw[io s 0 D];exact⟨gA _,h⟩
 ·have:=eC s 0 h (by omega);omega
theorem sY:∀(f g:Nat)(s:ByteArray),s.size<=f->s.size<=g->da f s=da g s
 |0,0,_,_,_=>rfl
 |0,g+1,s,h,_=>by rw[da,da,gL (by omega)]
 |f+1,0,s,_,h=>by rw[da,da,gL (by omega)]
 |f+1,g+1,s,M,J=>by
  rw[da,da];by_cases D:s.size=0
  ·rw[gL D,gL D]
  ·have I:=IA s (by omega);rw[gE D,gE D,sY f g _ (by rw[gW];omega) (by rw[gW];omega)]
theorem Cd(s:ByteArray)(h:0<s.size):da s.size s=if pk (Utf8.decode s 0).1=true then da (s.extract (Utf8.decode s 0).2 s.size).size (s.extract (Utf8.decode s 0).2 s.size)else s:=by obtain⟨f,D⟩:∃f,s.size=f+1:=⟨s.size-1,by omega⟩;have I:=IA s h;rw[show da s.size s=da (f+1) s by rw[D],da,gE (by omega),sY f _ _ (by rw[gW];omega) (gA _)]
theorem FM(s:ByteArray)(w:World)(hT:fQ w):Calls prog 122 #[s,.string dr] w fun e w'=>e=.returned (.string (da s.size s))/\Below w w w':=by
 have HT:=hid hT;obtain⟨R,hR⟩:∃R,R=da s.size s:=⟨_,rfl⟩;rw[<-hR];have I:=hid hR;clear hT hR;(go_enter func122,ntmps122);go_wp2_with fail;go_loopg [0,5,6] s.size (fun g u0 _ _ wr=>∃d:ByteArray,u0=.string d/\d.size<=g/\R=da d.size d/\Below w w wr)
 case atStart=>exact⟨s,rfl,gA _,I.out,gC _ _⟩
 case round=>
  clear I;obtain⟨d,rfl,hg,hr,hb⟩:=hrel;have I:=hid hr;clear hr;by_cases h0:d.size=0
  ·have HF:Hid (R=d):=hid (by rw[I.out,h0];rfl);clear I hg;go_wp2_with fail;go_ret;exact⟨by rw[HF.out];rfl,hb⟩
  ·(have hp:(0:Int)<(d.size:Int):=by omega);(have J:0<d.size:=by omega);have HW:=hid (IA d J);have z:=hid (I.out.trans (Cd d J));have HV:=hid (FL d 0);have HD:Hid (Calls prog 104 #[.string d] wr fun e w'=>e=.returned (.tuple #[.int .i32 (Utf8.decode d 0).1,.int .i64 (Utf8.decode d 0).2])/\Below wr wr w'):=hid (by have h:=Any.utf8_DecodeRuneInString Tryz.laysDecS d wr (HT.out.below hb).u8;rw[show Lib.decodeGo d=Utf8.decode d 0 by unfold Lib.decodeGo;rw[gE h0]]at h;exact h);clear I;generalize Utf8.decode d 0=q at *;obtain⟨r,k⟩:=q;simp only at HW z HV HD;have ge:k<=d.size:=HW.out.2;(have gd:(k:Int)<=(d.size:Int):=by omega);go_wp2_with fail;refine HD.out.mono ?_;rintro e w1⟨rfl,O⟩;have y:=aE hb O;have HC:=hid (FK r HV.out w1);clear HD hb O;go_wp2_with fail;refine HC.out.mono ?_;rintro e w2⟨rfl,M⟩;have x:=aE y M;clear HC y M;cases D:pk r with
   |true=>
    have HN:=hid (show R=da (d.extract k d.size).size (d.extract k d.size)by rw[z.out,D];rfl);(have ga:(d.extract k d.size).size<=d.size-k:=by rw[gW];omega);have gb:=HW.out.1;clear z D HV;go_wp2_with fail;go_roundg (d.size-k)
    case measure=>omega
    case rel=>exact⟨_,rfl,ga,HN.out,x⟩
   |false=>have HN:Hid (R=d):=hid (by rw[z.out,D];rfl);clear z D HV;go_wp2_with fail;go_ret;exact⟨by rw[HN.out];rfl,x⟩
theorem FN(s:ByteArray)(w:World)(hT:fQ w):Calls prog 68 #[s,.string dr] w fun e w'=>e=.returned (.string (da s.size s))/\Below w w w':=by
 by_cases I:s.size=0
 ·have h:=Any.strings_TrimLeft_empty Tryz.laysTrimL s dr w (.inl I);rw[show da s.size s=s by rw[I];rfl];exact h.mono fun e w' h=>⟨h.1,h.2▸gC _ _⟩
 ·(have D:(prog.info? (Tryz.laysTrimL_ren.t 116)).map (fun i=>(i.zero,i.size))=some (some (.agg (Array.replicate 256 (.bool false))),256):=by kernel_rfl);exact B5 Tryz.laysTrimL (zero_of_info D).1 (zero_of_info D).2 s dr 3 239 w (by decide) (by omega) (by decide) (fun j b J hb=>by
   match j,J with
   |0,_=>cases hb;decide
   |1,_=>cases hb;decide
   |2,_=>cases hb;decide) rfl (by decide) _ fun W hW=>FM s W (hT.below hW)
def DL(s:ByteArray)(n:Nat):ByteArray:=(s.extract 0 n).extract (Lib.lastIndexByte (s.extract 0 n) 10+1).toNat (s.extract 0 n).size
def pJ(s:ByteArray)(n:Nat):Bool:=decide (da (DL s n).size (DL s n)=(⟨#[]⟩:BA))
theorem Ce(A:Option Addr)(m c n:Nat)(J:n<=m)(M:m<=c)(D:A=none->c=0)(W:World):(Instr.slice 22 (.slice A m c) none (some (.int .i64 (n:Int))) none).run prog W=.ok (.slice A n c) W:=by
 (have I:(n:Int)<=(c:Int):=by omega);cases A with
 |none=>obtain rfl:=D rfl;(obtain rfl:n=0:=by omega);simp[Instr.slice,run_underlying Ie,go_sem]
 |some a=>simp[Instr.slice,run_underlying Ie,go_sem,I]
theorem bR.to{w:World}{A:Option Addr}{c:Nat}{s:ByteArray}(h:bR w A c s){n:Nat}(D:n<=s.size):bR w A c (s.extract 0 n):=by
 rcases h with⟨rfl,rfl,rfl⟩|⟨g,o,rfl,O,M,J⟩
 ·obtain rfl:n=0:=Nat.le_zero.1 D;exact .inl ⟨rfl,rfl,rfl⟩
 ·refine .inr ⟨g,o,rfl,by rw[gW];omega,M,fun i hi=>?_⟩;(have I:i<n:=by rw[gW]at hi;omega);rw[J i (by omega),ByteArray.getElem_extract];simp only[kL]
theorem FO(A:Option Addr)(c:Nat)(s:ByteArray)(k:Int)(t:ByteArray)(n:Nat)(w:World)(I:bR w A c s)(hT:fQ w)(J:n<=s.size)(gb:s.size<=1000000000):
  Calls prog 43 #[.slice A s.size c,.agg #[k,t,(n:Int)]] w fun e w'=>e=.returned (.bool (pJ s n))/\Below w w w':=by
 have hB:Below w w (w.alloc (.cells #[k,t,(n:Int)] 105)):=bel;have x:s.size<=c/\(A=none->c=0):=by
  rcases I with⟨rfl,rfl,rfl⟩|⟨g,o,rfl,h2,h3,h4⟩
  ·exact⟨gA _,fun _=>rfl⟩
  ·exact⟨h2,nofun⟩
 have gd:=fun W=>Ce A s.size c n J x.1 x.2 W;have O:=((I.to J).below hB).conv;(have D:(s.extract 0 n).size=n:=by rw[gW];omega);rw[D]at O;obtain⟨j,M,ge⟩:∃j:Nat,Lib.lastIndexByte (s.extract 0 n) 10+1=(j:Int)/\j<=(s.extract 0 n).size:=by
  unfold Lib.lastIndexByte;rcases Lib.lastIdx_spec (s.extract 0 n) 10 (s.extract 0 n).size with⟨h,-⟩|⟨i,hi,h,-,-⟩
  ·exact⟨0,by rw[h];rfl,gT _⟩
  ·exact⟨i+1,by rw[h];rfl,hi⟩
 (have gg:j<=1000000000:=by omega);have HL:=hid (fun W=>FG (s.extract 0 n) 10 (by omega) W);have HX:Hid (pJ s n=decide (da ((s.extract 0 n).extract j (s.extract 0 n).size).size ((s.extract 0 n).extract j (s.extract 0 n).size)=(⟨#[]⟩:BA))):=hid (by unfold pJ DL;rw[M];rfl);have HT:=hid (hT.below hB);clear I hT J x;generalize pJ s n=z at *;generalize s.extract 0 n=p at *;(have hw:IntKind.i64.wrap (Lib.lastIndexByte p 10+1)=(j:Int):=by rw[M];exact gQ _ (by omega));generalize Lib.lastIndexByte p 10=li at *;(have gi:(0:Int)<=(j:Int):=by omega);(have gh:(j:Int)<=(p.size:Int):=by omega);have HB:=hid (fun W(hb:Below _ _ W)=>FN (p.extract j p.size) W (HT.out.below hb));clear HT M D;generalize hd:p.extract j p.size=d at *;have hq:=(bN (da d.size d) []).symm;generalize da d.size d=q at *;(go_enter func43,ntmps43);go_wp2_with fail;refine(HL.out _).mono ?_;rintro e w1⟨rfl,rfl⟩;go_wp2_with fail;refine(HB.out _ (gC _ _)).mono ?_;rintro e w2⟨rfl,y⟩;have ga:=aE hB y;go_wp2_with fail;go_ret;exact⟨by rw[HX.out];first|rfl|exact qD (fun b=>Ending.returned (Value.bool b)) hq,ga⟩
def IB(f X:Nat):Prop:=∀(w:World)(s:ByteArray),s.size<f->Dr w X s->Calls prog 125 #[X] w (Cb X w (cZ f s))
theorem Cf(a:Array Value)(w:World):(callFunc 125 a).run prog w=.ok (.enter 125 a) w:=by kernel_rfl
theorem DM(a:Array Value)(w:World):(callFunc 124 a).run prog w=.ok (.enter 124 a) w:=by kernel_rfl
theorem DN(f X Y:Nat)(hF:IB f X)(hf:f<=400000)(s:ByteArray)(hs:s.size<f)(w:World)(hB:Dr w X s)(hY:aa w Y 136 #[X]):
  Calls prog 124 #[Y] w (Cb X w (nQ (cZ f) ru s)):=by
 have gk:=hB.lt;have ga:=hB.alloc (.cells #[.string ⟨#[]⟩,.string ⟨#[]⟩,.slice none 0 0] 73);have y0:=aw (hY.alloc (.cells #[.string ⟨#[]⟩,.string ⟨#[]⟩,.slice none 0 0] 73));have O:Kx (fun k=>k=X) w (w.alloc (.cells #[.string ⟨#[]⟩,.string ⟨#[]⟩,.slice none 0 0] 73)):=Kx.below ((gC _ w).alloc (gA _) _);have z:=aa.new w 73 #[.string ⟨#[]⟩,.string ⟨#[]⟩,.slice none 0 0];(have y:w.heap.size≠X:=by omega);(have gb:(w.alloc (.cells #[.string ⟨#[]⟩,.string ⟨#[]⟩,.slice none 0 0] 73)).heap.size=w.heap.size+1:=by simp);have H1:=hid (Cc X 125 #[X] #[] (cZ f) ru (f-1) s _ ga (by omega) (by omega) (by decide) (fun a w=>Cf a w) (fun w' s' _ hs' hb=>hF w' s' (by omega) hb) (fy f));clear hB hY hF;(go_enter func124,ntmps124);go_wp2_with fail;cases hr:nQ (cZ f) ru s with
 |none=>rw[hr]at H1;refine H1.out.mono ?_;rintro e q⟨rfl,I⟩;unfold dC;exact⟨rfl,rfl,O.trans I⟩
 |some r=>obtain⟨x,s3⟩:=r;rw[hr]at H1;refine H1.out.mono ?_;rintro e q⟨⟨v,rfl,hv⟩,gh,I⟩;obtain⟨A,cp,xs,rfl,h1,h2,h3⟩:=hv;have gj:=hid hr;have gi:Hid (ni (fun b=>w.heap.size+1<=b) q (.agg #[.string x.op,.string x.tag,.slice A x.kids.length cp]) x):=hid (ni.mono (fun b hb _=>by rwa [gb]at hb) ⟨A,cp,xs,rfl,h1,h2,h3⟩);have ge:=O.trans I;have D:=I.blk z y;clear O I ga z H1 y0 h1 h2 h3 hr;have c0:=(D.cell 0).trans rfl;have c1:=(D.cell 1).trans rfl;have c2:=(D.cell 2).trans rfl;have f0:=D.frozen 0;have f1:=D.frozen 1;have f2:=D.frozen 2;go_wp2_with fail;obtain⟨h,gg,gd⟩:=DK (gA _) y D gh ge (.string x.op) (.string x.tag) (.slice A x.kids.length cp);have M:∀b,w.heap.size+1<=b->b<q.heap.size->(((q.setCell ⟨w,0,none⟩ (.string x.op)).setCell ⟨w,1,none⟩ (.string x.tag)).setCell ⟨w,2,none⟩ (.slice A x.kids.length cp)).heap[b]? = q.heap[b]? :=fun b hb _=>(gF _ ⟨w,2,none⟩ _ b (by show b≠w.heap.size;omega)).trans ((gF _ ⟨w,1,none⟩ _ b (by show b≠w.heap.size;omega)).trans (gF _ ⟨w,0,none⟩ _ b (by show b≠w.heap.size;omega)));generalize((q.setCell ⟨w,0,none⟩ (.string x.op)).setCell ⟨w,1,none⟩ (.string x.tag)).setCell ⟨w,2,none⟩ (.slice A x.kids.length cp)=J at *;have z0:J.cell? ⟨w,0,none⟩=some (.string x.op):=(h.cell 0).trans rfl;have z1:J.cell? ⟨w,1,none⟩=some (.string x.tag):=(h.cell 1).trans rfl;have z2:J.cell? ⟨w,2,none⟩=some (.slice A x.kids.length cp):=(h.cell 2).trans rfl;refine jD (v:=.agg #[.string x.op,.string x.tag,.slice A x.kids.length cp]) ?_ rfl (by rw[gj.out];exact⟨⟨_,rfl,(gi.out.keep M).mono fun b hb _=>by omega⟩,gg,gd⟩);simp[results,results124,go_sem,z0,z1,z2]
theorem yO(f X:Nat)(hF:IB f X)(hf:f<=400000)(s:ByteArray)(hs:s.size<f)(w:World)(hB:Dr w X s):
  Calls prog 70 #[X] w (Cb X w (lP f s)):=by
 rw[show lP f s=nQ (nQ (cZ f) ru) NY s from rfl];have gn:=hB.lt;have gd:=(hB.alloc (.cells #[X] 136)).alloc (.cells #[.string ⟨#[]⟩,.string ⟨#[]⟩,.slice none 0 0] 73);have h:=(aa.new w 136 #[X]).alloc (.cells #[.string ⟨#[]⟩,.string ⟨#[]⟩,.slice none 0 0] 73);have ga:Below w w ((w.alloc (.cells #[X] 136)).alloc (.cells #[.string ⟨#[]⟩,.string ⟨#[]⟩,.slice none 0 0] 73)):=bel;have O:Kx (fun k=>k=X) w _:=Kx.below ga;have gb:aa ((w.alloc (.cells #[X] 136)).alloc (.cells #[.string ⟨#[]⟩,.string ⟨#[]⟩,.slice none 0 0] 73)) (w.heap.size+1) 73 #[.string ⟨#[]⟩,.string ⟨#[]⟩,.slice none 0 0]:=aa.new_at (by simp) _ _;(have z:w.heap.size+1≠X:=by omega);(have gg:w.heap.size≠X:=by omega);(have ge:((w.alloc (.cells #[X] 136)).alloc (.cells #[.string ⟨#[]⟩,.string ⟨#[]⟩,.slice none 0 0] 73)).heap.size=w.heap.size+2:=by simp);have y0:=aw h;have H1:=hid (Cc X 124 #[] #[w] (nQ (cZ f) ru) NY (f-1) s _ gd (by omega) (by omega) (by decide) (fun a w=>DM a w) (fun w' s' hk hs' hb=>DN f X w.heap.size hF hf s' (by omega) w' hb (hk.blk h gg)) (rv (fy f) ru));clear hB h hF;(go_enter func70,ntmps70);go_wp2_with fail;cases hr:nQ (nQ (cZ f) ru) NY s with
 |none=>rw[hr]at H1;refine H1.out.mono ?_;rintro e y⟨rfl,I⟩;unfold dC;exact⟨rfl,rfl,O.trans I⟩
 |some r=>obtain⟨x,s3⟩:=r;rw[hr]at H1;refine H1.out.mono ?_;rintro e y⟨⟨v,rfl,hv⟩,gk,I⟩;obtain⟨A,cp,xs,rfl,h1,h2,h3⟩:=hv;have gm:=hid hr;have gl:Hid (ni (fun b=>w.heap.size+2<=b) y (.agg #[.string x.op,.string x.tag,.slice A x.kids.length cp]) x):=hid (ni.mono (fun b hb _=>by rwa [ge]at hb) ⟨A,cp,xs,rfl,h1,h2,h3⟩);have gi:=O.trans I;have D:=I.blk gb z;clear ga O I gd gb H1 y0 h1 h2 h3 hr;have c0:=(D.cell 0).trans rfl;have c1:=(D.cell 1).trans rfl;have c2:=(D.cell 2).trans rfl;have f0:=D.frozen 0;have f1:=D.frozen 1;have f2:=D.frozen 2;go_wp2_with fail;obtain⟨q,gj,gh⟩:=DK (jC _) z D gk gi (.string x.op) (.string x.tag) (.slice A x.kids.length cp);have M:∀b,w.heap.size+2<=b->b<y.heap.size->(((y.setCell ⟨w.heap.size+1,0,none⟩ (.string x.op)).setCell ⟨w.heap.size+1,1,none⟩ (.string x.tag)).setCell ⟨w.heap.size+1,2,none⟩ (.slice A x.kids.length cp)).heap[b]? = y.heap[b]? :=fun b hb _=>(gF _ ⟨w.heap.size+1,2,none⟩ _ b (by show b≠w.heap.size+1;omega)).trans ((gF _ ⟨w.heap.size+1,1,none⟩ _ b (by show b≠w.heap.size+1;omega)).trans (gF _ ⟨w.heap.size+1,0,none⟩ _ b (by show b≠w.heap.size+1;omega)));generalize((y.setCell ⟨w.heap.size+1,0,none⟩ (.string x.op)).setCell ⟨w.heap.size+1,1,none⟩ (.string x.tag)).setCell ⟨w.heap.size+1,2,none⟩ (.slice A x.kids.length cp)=J at *;have z0:J.cell? ⟨w.heap.size+1,0,none⟩=some (.string x.op):=(q.cell 0).trans rfl;have z1:J.cell? ⟨w.heap.size+1,1,none⟩=some (.string x.tag):=(q.cell 1).trans rfl;have z2:J.cell? ⟨w.heap.size+1,2,none⟩=some (.slice A x.kids.length cp):=(q.cell 2).trans rfl;refine jD (v:=.agg #[.string x.op,.string x.tag,.slice A x.kids.length cp]) ?_ rfl (by rw[gm.out];exact⟨⟨_,rfl,(gl.out.keep M).mono fun b hb _=>by omega⟩,gj,gh⟩);simp[results,results70,go_sem,z0,z1,z2]
theorem Cg(f X:Nat)(hF:IB f X)(hf:f<=400000):IB (f+1) X:=by
 intro w s hs hB;have q:=hB.lt;have hp:=hB.alloc (.cells #[.string ⟨#[]⟩,.string ⟨#[]⟩,.slice none 0 0] 73);have ha:Kx (fun k=>k=X) w (w.alloc (.cells #[.string ⟨#[]⟩,.string ⟨#[]⟩,.slice none 0 0] 73)):=Kx.below ((gC _ w).alloc (gA _) _);have hk:=aa.new w 73 #[.string ⟨#[]⟩,.string ⟨#[]⟩,.slice none 0 0];(have ga:w.heap.size≠X:=by omega);(have ht:(w.alloc (.cells #[.string ⟨#[]⟩,.string ⟨#[]⟩,.slice none 0 0] 73)).heap.size=w.heap.size+1:=by simp);have H1:=hid (uO X s ⟨#[33]⟩ _ hp);have gy:=hid (eh s ⟨#[33]⟩);have HR:=hid (show cZ (f+1) s=(if(aC s ⟨#[33]⟩).1 then(match cZ f (aC s ⟨#[33]⟩).2 with
   |some (x,D)=>some (.mk ⟨#[33]⟩ ⟨#[]⟩ [x],D)
   |none=>none)
  else if(aC (aC s ⟨#[33]⟩).2 ⟨#[40]⟩).1 then(match lP f (aC (aC s ⟨#[33]⟩).2 ⟨#[40]⟩).2 with
   |some (x,s3)=>if(aC s3 ⟨#[41]⟩).1 then some (x,(aC s3 ⟨#[41]⟩).2)else none
   |none=>none)
  else(if fp (aC (aC s ⟨#[33]⟩).2 ⟨#[40]⟩).2=0 then none else some (.mk ⟨#[]⟩ ((aC (aC s ⟨#[33]⟩).2 ⟨#[40]⟩).2.extract 0 (fp (aC (aC s ⟨#[33]⟩).2 ⟨#[40]⟩).2)) [],(aC (aC s ⟨#[33]⟩).2 ⟨#[40]⟩).2.extract (fp (aC (aC s ⟨#[33]⟩).2 ⟨#[40]⟩).2) (aC (aC s ⟨#[33]⟩).2 ⟨#[40]⟩).2.size)))from rfl)
 generalize cZ (f+1) s=res at *;generalize aC s ⟨#[33]⟩=q1 at *;obtain⟨b1,s1⟩:=q1;have HF:=hid hF;clear hB hF;(go_enter func125,ntmps125);go_wp2_with fail;refine H1.out.mono ?_;rintro e w1⟨rfl,gs,gv⟩;have gq:=ha.trans gs;have gu:=gs.blk hk ga;have g6:=gs.bel.size;rw[ht]at g6;clear ha gs hp hk H1;cases b1 with
 | true=>
  (have g8:s1.size<f:=by have:=gy.out.2 rfl;have h2:((⟨#[33]⟩:BA):ByteArray).size=1:=rfl;have h3:s1.size+((⟨#[33]⟩:BA):ByteArray).size<=s.size:=this;omega);have H2:=hid (HF.out w1 s1 g8 gv);have M:Hid (res=(match cZ f s1 with
   |some (x,D)=>some (.mk ⟨#[33]⟩ ⟨#[]⟩ [x],D)
   |none=>none)):=hid HR.out
  clear HR gy HF gv;go_wp2_with fail;cases hr:cZ f s1 with
  |none=>rw[hr]at H2 M;have hz:res=none:=M.out;subst hz;refine H2.out.mono ?_;rintro e w2⟨rfl,y⟩;unfold dC;exact⟨rfl,rfl,gq.trans y⟩
  | some r=>
   obtain⟨x,D⟩:=r;rw[hr]at H2 M;have HZ:Hid (res=some (.mk ⟨#[33]⟩ ⟨#[]⟩ [x],D)):=hid M.out;refine H2.out.mono ?_;rintro e w2⟨⟨v,rfl,hv⟩,gd,y⟩;obtain⟨A,cp,rfl,hC⟩:=hv.toC;have g5:=y.bel.size;have gi:=(gq.trans y).trans (Kx.below ((gC _ w2).alloc (gA _) (.cells #[.string x.op,.string x.tag,.slice A x.kids.length cp] 73)));have ge:=gd.alloc (.cells #[.string x.op,.string x.tag,.slice A x.kids.length cp] 73);have I:=(y.blk gu ga).alloc (.cells #[.string x.op,.string x.tag,.slice A x.kids.length cp] 73);have h4:=aa.new w2 73 #[.string x.op,.string x.tag,.slice A x.kids.length cp];have hl:=hC.keep (w':=w2.alloc (.cells #[.string x.op,.string x.tag,.slice A x.kids.length cp] 73)) fun b _ q=>gS w2 _ b q;have h9:=hid hl;have c0:=(I.cell 0).trans rfl;have c1:=(I.cell 1).trans rfl;have c2:=(I.cell 2).trans rfl;have f0:=I.frozen 0;have f1:=I.frozen 1;have f2:=I.frozen 2;(have g4:(w2.alloc (.cells #[.string x.op,.string x.tag,.slice A x.kids.length cp] 73)).heap.size=w2.heap.size+1:=by simp);clear hr H2 M hv hC hl y gd gq gu;go_wp2_with fail;generalize w2.alloc (.cells #[.string x.op,.string x.tag,.slice A x.kids.length cp] 73)=z at *;obtain⟨J,gr,gh⟩:=DK (gA _) ga I ge gi (.string ⟨#[33]⟩) (.string ⟨#[]⟩) (.slice (some ⟨w2,0,none⟩) 1 1);have gb:∀b,w.heap.size+1<=b->b<z.heap.size->(((z.setCell ⟨w,0,none⟩ (.string ⟨#[33]⟩)).setCell ⟨w,1,none⟩ (.string ⟨#[]⟩)).setCell ⟨w,2,none⟩ (.slice (some ⟨w2,0,none⟩) 1 1)).heap[b]? = z.heap[b]? :=fun b hb _=>(gF _ ⟨w,2,none⟩ _ b (by show b≠w.heap.size;omega)).trans ((gF _ ⟨w,1,none⟩ _ b (by show b≠w.heap.size;omega)).trans (gF _ ⟨w,0,none⟩ _ b (by show b≠w.heap.size;omega)));generalize((z.setCell ⟨w,0,none⟩ (.string ⟨#[33]⟩)).setCell ⟨w,1,none⟩ (.string ⟨#[]⟩)).setCell ⟨w,2,none⟩ (.slice (some ⟨w2,0,none⟩) 1 1)=O at *;have z0:O.cell? ⟨w,0,none⟩=some (.string ⟨#[33]⟩):=(J.cell 0).trans rfl;have z1:O.cell? ⟨w,1,none⟩=some (.string ⟨#[]⟩):=(J.cell 1).trans rfl;have z2:O.cell? ⟨w,2,none⟩=some (.slice (some ⟨w2,0,none⟩) 1 1):=(J.cell 2).trans rfl;have gp:aa O w2.heap.size 73 #[.string x.op,.string x.tag,.slice A x.kids.length cp]:=(gb _ (by omega) (by omega)).trans h4;have hT:ni (fun b=>w.heap.size<=b) O (.agg #[.string ⟨#[33]⟩,.string ⟨#[]⟩,.slice (some ⟨w2,0,none⟩) 1 1]) (.mk ⟨#[33]⟩ ⟨#[]⟩ [x]):=
    ⟨some ⟨w2,0,none⟩,1,[.string x.op,.string x.tag,.slice A x.kids.length cp],rfl,gA _,⟨rfl,fun _=>⟨w2.heap.size,0,rfl,by omega,fun j u hu=>by have:=gp.cell (0+j);rw[this,kL];simpa using hu⟩⟩,bE.one (((h9.out.mono (Y:=fun b=>w.heap.size+1<=b) fun b hb _=>by omega).keep gb).mono fun b hb _=>by omega)⟩
   refine jD (v:=.agg #[.string ⟨#[33]⟩,.string ⟨#[]⟩,.slice (some ⟨w2,0,none⟩) 1 1]) ?_ rfl (by rw[HZ.out];exact⟨⟨_,rfl,hT⟩,gr,gh⟩);simp[results,results125,go_sem,z0,z1,z2]
 | false=>
  have jc:s1.size<=s.size:=gy.out.1;have H2:=hid (uO X s1 ⟨#[40]⟩ _ gv);have gx:=hid (eh s1 ⟨#[40]⟩);have gw:Hid (res=(if(aC s1 ⟨#[40]⟩).1 then(match lP f (aC s1 ⟨#[40]⟩).2 with
   |some (x,s3)=>if(aC s3 ⟨#[41]⟩).1 then some (x,(aC s3 ⟨#[41]⟩).2)else none
   |none=>none)
  else(if fp (aC s1 ⟨#[40]⟩).2=0 then none else some (.mk ⟨#[]⟩ ((aC s1 ⟨#[40]⟩).2.extract 0 (fp (aC s1 ⟨#[40]⟩).2)) [],(aC s1 ⟨#[40]⟩).2.extract (fp (aC s1 ⟨#[40]⟩).2) (aC s1 ⟨#[40]⟩).2.size)))):=hid HR.out
  generalize aC s1 ⟨#[40]⟩=q2 at *;obtain⟨b2,D⟩:=q2;clear HR gy gv;go_wp2_with fail;refine H2.out.mono ?_;rintro e w2⟨rfl,y,gd⟩;have gj:=gq.trans y;have gt:=y.blk gu ga;have g5:=y.bel.size;clear gq y gu H2;cases b2 with
  | true=>
   (have gm:D.size<f:=by have:=gx.out.2 rfl;have h2:((⟨#[40]⟩:BA):ByteArray).size=1:=rfl;have h3:D.size+((⟨#[40]⟩:BA):ByteArray).size<=s1.size:=this;omega);have M:Hid (res=(match lP f D with
    |some (x,s3)=>if(aC s3 ⟨#[41]⟩).1 then some (x,(aC s3 ⟨#[41]⟩).2)else none
    |none=>none)):=hid gw.out
   have H3:=hid (yO f X HF.out hf D gm w2 gd);clear gw gx HF gd;go_wp2_with fail;cases hr:lP f D with
   |none=>rw[hr]at H3 M;have hz:res=none:=M.out;subst hz;refine H3.out.mono ?_;rintro e z⟨rfl,gg⟩;unfold dC;exact⟨rfl,rfl,gj.trans gg⟩
   | some r=>
    obtain⟨x,s3⟩:=r;rw[hr]at H3 M;refine H3.out.mono ?_;rintro e z⟨⟨v,rfl,hv⟩,ge,gg⟩;have g2:Hid (res=if(aC s3 ⟨#[41]⟩).1 then some (x,(aC s3 ⟨#[41]⟩).2)else none):=hid M.out;obtain⟨A,cp,xs,rfl,h1,h2,h3⟩:=hv;have hV:ni (fun b=>w.heap.size+1<=b/\b<z.heap.size) z (.agg #[.string x.op,.string x.tag,.slice A x.kids.length cp]) x:=ni.mono (fun b hb q=>⟨by omega,q⟩) ⟨A,cp,xs,rfl,h1,h2,h3⟩;have HV:=hid hV;have g4:=gg.bel.size;have ja:=ge.lt;have gi:=gj.trans gg;have I:=gg.blk gt ga;(have g7:z.heap.size≠X:=by omega);have he:=aa.new z 73 #[.string x.op,.string x.tag,.slice A x.kids.length cp];have ho:=ge.alloc (.cells #[.string x.op,.string x.tag,.slice A x.kids.length cp] 73);have hj:=I.alloc (.cells #[.string x.op,.string x.tag,.slice A x.kids.length cp] 73);have hh:=gi.trans (Kx.below ((gC _ z).alloc (gA _) (.cells #[.string x.op,.string x.tag,.slice A x.kids.length cp] 73)));have g9:∀b,b<z.heap.size->(z.alloc (.cells #[.string x.op,.string x.tag,.slice A x.kids.length cp] 73)).heap[b]? = z.heap[b]? :=fun b hb=>gS z _ b hb;(have g3:(z.alloc (.cells #[.string x.op,.string x.tag,.slice A x.kids.length cp] 73)).heap.size=z.heap.size+1:=by simp);have H4:=hid (uO X s3 ⟨#[41]⟩ _ ho);have gz:=hid g9;clear hr H3 M h1 h2 h3 hV gj gt gg ge gi I g9;go_wp2_with fail;generalize aC s3 ⟨#[41]⟩=q4 at *;obtain⟨b4,s4⟩:=q4;refine H4.out.mono ?_;rintro e w5⟨rfl,gn,gr⟩;have gh:=hh.trans gn;have J:=gn.blk hj ga;have gp:=gn.blk he g7;have h7:Hid (ni (fun b=>w.heap.size+1<=b/\b<z.heap.size) w5 (.agg #[.string x.op,.string x.tag,.slice A x.kids.length cp]) x):=hid (
     (HV.out.keep fun b hb _=>gz.out b hb.2).keep fun b hb q=>gn.same b q (by omega))
    clear H4 gn hj he ho hh gz HV g3;cases b4 with
    |false=>have hz:res=none:=g2.out;subst hz;go_wp2_with fail;refine(og _).mono ?_;rintro e w6⟨rfl,rfl⟩;unfold dC;exact⟨rfl,rfl,gh⟩
    |true=>have HZ:Hid (res=some (x,s4)):=hid g2.out;have n0:=(gp.cell 0).trans rfl;have n1:=(gp.cell 1).trans rfl;have n2:=(gp.cell 2).trans rfl;have c0:=(J.cell 0).trans rfl;have c1:=(J.cell 1).trans rfl;have c2:=(J.cell 2).trans rfl;have f0:=J.frozen 0;have f1:=J.frozen 1;have f2:=J.frozen 2;clear g2;go_wp2_with fail;refine(AQ _).mono ?_;rintro e w6⟨rfl,rfl⟩;go_wp2_with fail;obtain⟨g1,h6,h5⟩:=DK (gA _) ga J gr gh (.string x.op) (.string x.tag) (.slice A x.kids.length cp);have gb:∀b,w.heap.size+1<=b->b<w6.heap.size->(((w6.setCell ⟨w,0,none⟩ (.string x.op)).setCell ⟨w,1,none⟩ (.string x.tag)).setCell ⟨w,2,none⟩ (.slice A x.kids.length cp)).heap[b]? = w6.heap[b]? :=fun b hb _=>(gF _ ⟨w,2,none⟩ _ b (by show b≠w.heap.size;omega)).trans ((gF _ ⟨w,1,none⟩ _ b (by show b≠w.heap.size;omega)).trans (gF _ ⟨w,0,none⟩ _ b (by show b≠w.heap.size;omega)));generalize((w6.setCell ⟨w,0,none⟩ (.string x.op)).setCell ⟨w,1,none⟩ (.string x.tag)).setCell ⟨w,2,none⟩ (.slice A x.kids.length cp)=O at *;have z0:O.cell? ⟨w,0,none⟩=some (.string x.op):=(g1.cell 0).trans rfl;have z1:O.cell? ⟨w,1,none⟩=some (.string x.tag):=(g1.cell 1).trans rfl;have z2:O.cell? ⟨w,2,none⟩=some (.slice A x.kids.length cp):=(g1.cell 2).trans rfl;refine jD (v:=.agg #[.string x.op,.string x.tag,.slice A x.kids.length cp]) ?_ rfl (by rw[HZ.out];exact⟨⟨_,rfl,(h7.out.keep fun b hb q=>gb b hb.1 q).mono fun b hb _=>by omega⟩,h6,h5⟩);simp[results,results125,go_sem,z0,z1,z2]
  | false=>
   have M:Hid (res=if fp D=0 then none else some (.mk ⟨#[]⟩ (D.extract 0 (fp D)) [],D.extract (fp D) D.size)):=hid gw.out;(have jb:D.size<=400000:=by have h2:D.size<=s1.size:=gx.out.1;omega);have s0:w2.cell? ⟨X,0,none⟩=some (.string D):=aw gd;have sf:=gd.frozen 0;have HM:Hid (fp D=pl D (D.size-0) 0):=hid rfl;have h8:Hid (fp D<=D.size):=hid (B9 D _ 0 (gT _));generalize fp D=m at *;clear gw gx HF;(go_upto_block 1 with fail);go_cut [4]from 22 (fun u4 wx=>u4=.int .i64 (m:Int)/\w2=wx)
   case first=>
    go_wp2_with fail;go_loopg [4] (D.size+1) (fun g u4 wr=>∃i:Nat,u4=.int .i64 (i:Int)/\i<=D.size/\D.size-i<g/\m=pl D (D.size-i) i/\w2=wr)
    case atStart=>exact⟨0,rfl,gT _,by omega,HM.out,rfl⟩
    case round=>
     obtain⟨i,rfl,hi,hg,hm,rfl⟩:=hrel;have gl:=hid hm;clear hm HM;by_cases q:i<D.size
     ·(have gm:(i:Int)<(D.size:Int):=by omega);have hq:=hid q;have HG:=hid hg;have ix:∀W,(Instr.index 9 (.string D) (.int .i64 (i:Int))).run prog W=.ok (.int .u8 (ai D i:Int)) W:=fun W=>ce D i q W;have yk:Hid (pl D (D.size-i) i=if nP (ai D i)=true then pl D (D.size-(i+1)) (i+1)else i):=hid (by obtain⟨n,hn⟩:∃n,D.size-i=n+1:=⟨D.size-i-1,by omega⟩;rw[hn,pl,show D.size-(i+1)=n by omega];simp only[q,true_and]);have h0:=il D i;have HT:=hid (B8 (ai D i));generalize ai D i=c at *;cases hc:nP c with
      |true=>
       rw[hc]at HT yk;have HN:=hid (show m=pl D (D.size-(i+1)) (i+1)by rw[gl.out,yk.out];rfl);clear hc gl yk;go_wp2_with fail;refine(HT.out _).mono ?_;rintro e z⟨rfl,rfl⟩;go_wp2_with fail;go_roundg (D.size-i)
       case measure=>exact HG.out
       case rel=>exact⟨i+1,by go_num,hq.out,by have:=hq.out;omega,HN.out,rfl⟩
      |false=>rw[hc]at HT yk;have HN:Hid (m=i):=hid (by rw[gl.out,yk.out];rfl);clear hc gl yk;go_wp2_with fail;refine(HT.out _).mono ?_;rintro e z⟨rfl,rfl⟩;go_wp2_with fail;go_meet;exact⟨by rw[HN.out],rfl⟩
     ·(have gm:¬ (i:Int)<(D.size:Int):=by omega);have HN:Hid (m=i):=hid (by rw[gl.out,show D.size-i=0 by omega];rfl);clear gl;go_wp2_with fail;go_meet;exact⟨by rw[HN.out],rfl⟩
   case rest=>
    obtain⟨rfl,rfl⟩:=hcut;by_cases g0:m=0
    ·subst g0;have hz:res=none:=M.out;subst hz;go_wp2_with fail;refine(og _).mono ?_;rintro e w6⟨rfl,rfl⟩;unfold dC;exact⟨rfl,rfl,gj⟩
    ·(have hw:decide (0<m)=true:=by rw[jB];omega);have HZ:Hid (res=some (.mk ⟨#[]⟩ (D.extract 0 m) [],D.extract m D.size)):=hid (by rw[M.out,gE g0]);have jf:=h8.out;(have je:(0:Int)<=(m:Int):=by omega);(have jd:(m:Int)<=(D.size:Int):=by omega);clear M g0;go_wp2_with fail;refine(AQ _).mono ?_;rintro e w6⟨rfl,rfl⟩;(go_upto_region 13 with fail);(have ge:Dr (w6.setCell ⟨X,0,none⟩ (.string (D.extract m D.size))) X (D.extract m D.size):=by show aa _ X 138 #[.string (D.extract m D.size)];simpa using gd.set_ 0 (.string (D.extract m D.size)));have I:=gt.far (p:=⟨X,0,none⟩) ga (.string (D.extract m D.size));have gi:=gj.trans (Kx.setCell (Cx:=fun k=>k=X) w6 rfl 0 (.string (D.extract m D.size)));clear s0 sf gd gt gj hw;generalize w6.setCell ⟨X,0,none⟩ (.string (D.extract m D.size))=w11 at *;have c0:=(I.cell 0).trans rfl;have c1:=(I.cell 1).trans rfl;have c2:=(I.cell 2).trans rfl;have f0:=I.frozen 0;have f1:=I.frozen 1;have f2:=I.frozen 2;go_wp2_with fail;obtain⟨J,gr,gh⟩:=DK (gA _) ga I ge gi (.string ⟨#[]⟩) (.string (D.extract 0 m)) (.slice none 0 0);generalize((w11.setCell ⟨w,0,none⟩ (.string ⟨#[]⟩)).setCell ⟨w,1,none⟩ (.string (D.extract 0 m))).setCell ⟨w,2,none⟩ (.slice none 0 0)=O at *;have z0:O.cell? ⟨w,0,none⟩=some (.string ⟨#[]⟩):=(J.cell 0).trans rfl;have z1:O.cell? ⟨w,1,none⟩=some (.string (D.extract 0 m)):=(J.cell 1).trans rfl;have z2:O.cell? ⟨w,2,none⟩=some (.slice none 0 0):=(J.cell 2).trans rfl;have hy:ni (fun b=>w.heap.size<=b) O (.agg #[.string ⟨#[]⟩,.string (D.extract 0 m),.slice none 0 0]) (.mk ⟨#[]⟩ (D.extract 0 m) []):=⟨none,0,[],rfl,gA _,⟨rfl,fun h=>absurd h (by simp)⟩,bE.nil⟩
     refine jD (v:=.agg #[.string ⟨#[]⟩,.string (D.extract 0 m),.slice none 0 0]) ?_ rfl (by rw[HZ.out];exact⟨⟨_,rfl,hy⟩,gr,gh⟩);simp[results,results125,go_sem,z0,z1,z2]
theorem uP(X:Nat):∀f,f<=400000->IB f X
 |0,_=>fun _ _ h=>absurd h (by omega)
 |f+1,h=>Cg f X (uP X f (by omega)) (by omega)
end
end Go.Proofs.YtcoiialmdncpfaaGreatDoor
