/-
  Parts of the proof: Oright Ominor Oversion Oholds Oleast. By an AI agent.
-/
import Derived.Test.YtcoiialmdncpfaaGreatDoorJ10
import Derived.Test.YtcoiialmdncpfaaGreatDoorJ21
import Derived.Test.YtcoiialmdncpfaaGreatDoorJ04
import Derived.Test.YtcoiialmdncpfaaGreatDoorJ09
import Derived.Test.YtcoiialmdncpfaaGreatDoorJ08
import Derived.Test.YtcoiialmdncpfaaGreatDoorJ11
import Derived.Test.YtcoiialmdncpfaaGreatDoorJ19
import Derived.Test.YtcoiialmdncpfaaGreatDoorJ00
import Derived.Test.YtcoiialmdncpfaaGreatDoorJ01
import Derived.Deep.CutBlock
import Derived.Laws.EntriesVeiled
import Derived.Shelf.Slices.Turned
open Go.Proofs.Tryz
set_option maxRecDepth 100000
set_option maxHeartbeats 8000000
namespace Go.Proofs.YtcoiialmdncpfaaGreatDoor
section
open Go.RowKit Go.Lib Go.Proofs
attribute [local go_sem ↓] Go.wp_at_zero Go.wp_at_succ
theorem kR:type_of% @Array.length_toList:=@Array.length_toList
inductive cU:Tx->Prop
 |mk {o t:ByteArray} {l:List Tx} (h:l.length<=1000000) (ht:t.size<=65536) (hk:∀x∈l,cU x):cU (.mk o t l)
def bo:Nat->Tx->Bool
 |0,_=>false
 | n+1,x=>if x.op=(⟨#[]⟩:BA)then nh nP x.tag&&decide (x.kids.length=0)
   else if x.op=(⟨#[33]⟩:BA)then decide (x.kids.length=1)&&(decide (x.tag=(⟨#[]⟩:BA)) && !x.kids.any fun k =>!bo n k)
   else if x.op=(⟨#[38,38]⟩:BA)\/x.op=(⟨#[124,124]⟩:BA)then decide (2<=x.kids.length)&&(decide (x.tag=(⟨#[]⟩:BA)) && !x.kids.any fun k =>!bo n k)
   else false
theorem iK(n:Nat)(o t:ByteArray)(l:List Tx):bo (n+1) (.mk o t l)=if o=(⟨#[]⟩:BA)then nh nP t&&decide (l.length=0)
 else if o=(⟨#[33]⟩:BA)then decide (l.length=1)&&(decide (t=(⟨#[]⟩:BA)) && !l.any fun k =>!bo n k)
 else if o=(⟨#[38,38]⟩:BA)\/o=(⟨#[124,124]⟩:BA)then decide (2<=l.length)&&(decide (t=(⟨#[]⟩:BA)) && !l.any fun k =>!bo n k)
 else false:=rfl
def rx(n:Nat):Prop:=∀(x:Tx)(v:Value)(w:World),cU x->yg w v x->Calls prog 77 #[v,(n:Int)] w fun e w'=>e=.returned (.bool (bo n x))/\Below w w w'
theorem DQ(a:Array Value)(w:World):(callFunc 130 a).run prog w=.ok (.enter 130 a) w:=by kernel_rfl
theorem yg.below{w w':World}{v:Value}{x:Tx}(h:yg w v x)(hb:Below w w w'):yg w' v x:=ni.keep (fun b _ hlt=>hb.block b hlt) h
theorem DR(n:Nat)(hn:n<=100000)(O:rx n)(b:Nat)(x:Tx)(v:Value)(w:World)(hs:cU x)(I:yg w v x)(hb:aa w b 3 #[.int .i64 ((n:Int)+1)]):
  Calls prog 130 #[v,b] w fun e w'=>e=.returned (.bool (!bo n x))/\Below w w w':=by obtain⟨A,cp,xs,rfl,z,y,q⟩:=I;have I:yg w (.agg #[.string x.op,.string x.tag,.slice A x.kids.length cp]) x:=⟨A,cp,xs,rfl,z,y,q⟩;have h:=(gC w.heap.size w).alloc (gA _) (.cells #[.string x.op,.string x.tag,.slice A x.kids.length cp] 73);have b0:=aw (hb.alloc (.cells #[.string x.op,.string x.tag,.slice A x.kids.length cp] 73));have gb:=hb.lt;(have ga:b≠w.heap.size:=by omega);have c0:=aw hb;have H1:=hid (O x _ _ hs (I.below h));(have M:((n:Int)+1)-1=(n:Int):=by omega);clear hb I z y q O;(go_enter func130,ntmps130);go_wp2_with fail;refine H1.out.mono ?_;rintro e w1⟨rfl,D⟩;have J:=aE h D;clear D H1;go_wp2_with fail;go_ret;exact⟨rfl,J⟩
theorem DS{m:Nat}(D:m<=100000)(J:rx m)(b:Nat){l:List Tx}{W:World}(I:∀x∈l,cU x)(hb:aa W b 3 #[.int .i64 ((m:Int)+1)]):
  Ch 130 #[b] (fun k =>!bo m k) l W:=
 fun x hx W2 v hb2 hv=>DR m D J b x v W2 (I x hx) hv (hb.bl hb2)
theorem uR(n:Nat)(hn:n<=100000)(hR:∀m,n=m+1->rx m):rx n:=by
 intro x v w hs hx;have gb:∀(fn:Fn)(first cap:Array Value)(w:World),(Instr.makeFunc fn first cap).run prog w=.ok (.func fn first cap) w:=fun _ _ _ _=>rfl;obtain⟨o,t,l⟩:=x;obtain⟨A,cp,xs,rfl,h1,h2,h3⟩:=hx;simp only[Tx.op_mk,Tx.tag_mk,Tx.kids_mk]at h1 h2 h3 |-;(have hl:l.length<=1000000:=by cases hs;assumption);(have hk:∀x∈l,cU x:=by cases hs;assumption);have hB:Below w w ((w.alloc (.cells #[.string o,.string t,.slice A l.length cp] 73)).alloc (.cells #[(n:Int)] 3)):=bel;have hN:aa ((w.alloc (.cells #[.string o,.string t,.slice A l.length cp] 73)).alloc (.cells #[(n:Int)] 3)) (w.heap.size+1) 3 #[(n:Int)]:=aa.new_at (by simp) _ _;have HE:=hid (show aa ((w.alloc (.cells #[.string o,.string t,.slice A l.length cp] 73)).alloc (.cells #[(n:Int)] 3)) w.heap.size 73 #[.string o,.string t,.slice A l.length cp]from(aa.new w _ _).alloc _);have I:=hid hB;have HT:=hid (fun W=>DJ t W);have HC:Hid (∀m,n=m+1->Calls prog 79 #[.slice A l.length cp,.func (.func 130) #[] #[.pointer (some ⟨w.heap.size+1,0,none⟩)]] ((w.alloc (.cells #[.string o,.string t,.slice A l.length cp] 73)).alloc (.cells #[(n:Int)] 3)) fun e w'=>e=.returned (.bool (l.any fun k =>!bo m k))/\Below ((w.alloc (.cells #[.string o,.string t,.slice A l.length cp] 73)).alloc (.cells #[(n:Int)] 3)).heap.size ((w.alloc (.cells #[.string o,.string t,.slice A l.length cp] 73)).alloc (.cells #[(n:Int)] 3)) w'):=hid (fun m hm=>by subst hm;have ga:∀b,True->b<w.heap.size->_:=fun b _ hlt=>hB.block b hlt;exact sB _ _ _ A cp l xs _ (h2.keep ga) (h3.keep ga) (by omega) DQ (DS (by omega) (hR m rfl) _ hk hN));clear h1 h2 h3 hs hk hR hN hB;have q0:=bN o [];have q1:=bN o [33];have q2:=bN o [38,38];have q:=bN o [124,124];have qt:=(bN t []).symm;have J:=hid (show bo n (.mk o t l)=(decide (0<n)&&(if o=(⟨#[]⟩:BA)then nh nP t&&decide (l.length=0)
  else if o=(⟨#[33]⟩:BA)then decide (l.length=1)&&(decide (t=(⟨#[]⟩:BA)) && !l.any fun k =>!bo (n-1) k)
  else if o=(⟨#[38,38]⟩:BA)\/o=(⟨#[124,124]⟩:BA)then decide (2<=l.length)&&(decide (t=(⟨#[]⟩:BA)) && !l.any fun k =>!bo (n-1) k)
  else false))by cases n<;>rfl)
 generalize bo n (.mk o t l)=z at *;generalize nh nP t=at_ at *;(have e0:((l.length:Int)==0)=decide (l.length=0):=by rw[jW,kI,jG];omega);(have e1:((l.length:Int) != 1) = !decide (l.length=1):=by rw[jW,kE,vx,gH];omega);(have e2:decide ((l.length:Int)<2) = !decide (2<=l.length):=by rw[jW,vx,gH,jG];omega);(have d0:decide ((0:Int)<(n:Int))=decide (0<n):=by congr 1;simp);(have gg:(l.length==0)=decide (l.length=0):=by rw[jW,kI,jG]);(have ge:(l.length != 1) = !decide (l.length=1):=by rw[jW,kE,vx,gH]);(have gd:decide (l.length<2) = !decide (2<=l.length):=by rw[jW,vx,gH,jG];omega);obtain⟨g,hg⟩:∃g,g=decide (0<n):=⟨_,rfl⟩
 have d1:=hg.symm;rw[<-hg]at d0;generalize decide (l.length=0)=b0 at *;generalize decide (l.length=1)=b1 at *;generalize decide (2<=l.length)=b2 at *;generalize decide (t=(⟨#[]⟩:BA))=bt at *;have M:Hid (g=true->Calls prog 79 #[.slice A l.length cp,.func (.func 130) #[] #[.pointer (some ⟨w.heap.size+1,0,none⟩)]] ((w.alloc (.cells #[.string o,.string t,.slice A l.length cp] 73)).alloc (.cells #[(n:Int)] 3)) fun e w'=>e=.returned (.bool (l.any fun k =>!bo (n-1) k))/\Below ((w.alloc (.cells #[.string o,.string t,.slice A l.length cp] 73)).alloc (.cells #[(n:Int)] 3)).heap.size ((w.alloc (.cells #[.string o,.string t,.slice A l.length cp] 73)).alloc (.cells #[(n:Int)] 3)) w'):=hid fun h=>HC.out (n-1) (by rw[hg]at h;have:=of_decide_eq_true h;omega);rw[<-hg]at J;clear HC hg;generalize(l.any fun k =>!bo (n-1) k)=y at *;(have key:o=(⟨#[]⟩:BA)\/o=(⟨#[33]⟩:BA)\/(o=(⟨#[38,38]⟩:BA)\/o=(⟨#[124,124]⟩:BA))\/(o≠(⟨#[]⟩:BA)/\o≠(⟨#[33]⟩:BA)/\o≠(⟨#[38,38]⟩:BA)/\o≠(⟨#[124,124]⟩:BA)):=by by_cases h0:o=(⟨#[]⟩:BA)<;>by_cases h1:o=(⟨#[33]⟩:BA)<;>by_cases h2:o=(⟨#[38,38]⟩:BA)<;>by_cases h3:o=(⟨#[124,124]⟩:BA)<;>simp[h0,h1,h2,h3]);rcases key with rfl|rfl|(rfl|rfl)|⟨s0,s1,s2,s3⟩
 ·have O:z=(g&&(at_&&b0)):=J.out;subst O;clear J M q0 q1 q2 q qt;(go_enter func77,ntmps77);cases g
  ·go_wp2_with fail;go_ret;exact⟨rfl,I.out⟩
  ·go_wp2_with fail;refine(HT.out _).mono ?_;rintro e w1⟨rfl,hb⟩;have D:=aE I.out hb;have x2:=((HE.out.bl hb).cell 2).trans rfl;clear HT hb HE;cases at_<;>cases b0;all_goals(go_wp2_with fail);go_ret;exact⟨rfl,D⟩
 ·have O:z=(g&&(b1&&(bt && !y))):=J.out;subst O;clear J HT HE q0 q1 q2 q;(go_enter func77,ntmps77);cases b1
  ·go_wp2_with fail;go_ret;exact⟨by simp,I.out⟩
  ·cases g
   ·go_wp2_with fail;go_ret;exact⟨rfl,I.out⟩
   ·cases bt
    ·go_wp2_with fail;go_ret;exact⟨rfl,I.out⟩
    ·go_wp2_with fail;refine(M.out trivial).mono ?_;rintro e w1⟨rfl,hb⟩;have D:=aE I.out hb;go_wp2_with fail;go_ret;exact⟨rfl,D⟩
 rotate_left 2
 ·(have O:z=(g&&false):=by rw[J.out,gE s0,gE s1,gE (fun h=>h.elim s2 s3)]);rw[gV s0]at q0;rw[gV s1]at q1;rw[gV s2]at q2;rw[gV s3]at q;replace q0:=q0.symm;replace q1:=q1.symm;replace q2:=q2.symm;replace q:=q.symm;subst O;clear J HT HE M s0 s1 s2 s3;(go_enter func77,ntmps77);go_wp2_with fail;go_ret;exact⟨by simp,I.out⟩
 all_goals
  have O:z=(g&&(b2&&(bt && !y))):=J.out;subst O;clear J HT HE q0 q1 q2 q;(go_enter func77,ntmps77);cases b2
  ·go_wp2_with fail;go_ret;exact⟨by simp,I.out⟩
  ·cases g
   ·go_wp2_with fail;go_ret;exact⟨rfl,I.out⟩
   ·cases bt
    ·go_wp2_with fail;go_ret;exact⟨rfl,I.out⟩
    ·go_wp2_with fail;refine(M.out trivial).mono ?_;rintro e w1⟨rfl,hb⟩;have D:=aE I.out hb;go_wp2_with fail;go_ret;exact⟨rfl,D⟩
theorem yP{n:Nat}{o t:ByteArray}{l:List Tx}(h:bo (n+1) (.mk o t l)=true):o=(⟨#[]⟩:BA)\/o=(⟨#[33]⟩:BA)\/o=(⟨#[38,38]⟩:BA)\/o=(⟨#[124,124]⟩:BA):=by
 rw[iK]at h;by_cases J:o=(⟨#[]⟩:BA)
 ·exact .inl J
 ·by_cases I:o=(⟨#[33]⟩:BA)
  ·exact .inr (.inl I)
  ·by_cases D:o=(⟨#[38,38]⟩:BA)\/o=(⟨#[124,124]⟩:BA)
   ·exact .inr (.inr D)
   ·rw[gE J,gE I,gE D]at h;cases h
theorem FQ{n:Nat}{o t:ByteArray}{l:List Tx}(h:bo (n+1) (.mk o t l)=true)(D:o=(⟨#[38,38]⟩:BA)\/o=(⟨#[124,124]⟩:BA)):0<l.length:=by rw[iK]at h;rw[gE (by rcases D with rfl|rfl<;>decide),gE (by rcases D with rfl|rfl<;>decide),gL D,gR,jG]at h;omega
theorem Cj:∀n,n<=100000->rx n
 |0,h=>uR 0 h fun _ e=>by cases e
 |n+1,h=>uR (n+1) h fun m e=>by(obtain rfl:n=m:=by omega);exact Cj n (by omega)
def fT(s:ByteArray):List ByteArray->Option ByteArray
 |[]=>some s
 |c::cs=>if(Lib.cut s.data.toList c.data.toList).2.2 then(if nh iJ ⟨(Lib.cut s.data.toList c.data.toList).2.1.toArray⟩then some ⟨(Lib.cut s.data.toList c.data.toList).1.toArray⟩else none)else fT s cs
def eE(d:ByteArray):Int×Int:=match Lib.atoiAll d.data.toList with
 | .ok v=>if(decide ((⟨(Lib.itoa v).toArray⟩:ByteArray)=d)&&decide (0<=v)&&decide (v<=99))=true then(v,0)else(0,6)
 |_=>(0,6)
def pm:List ByteArray:=[(⟨#[46]⟩:BA),(⟨#[114,99]⟩:BA),(⟨#[98,101,116,97]⟩:BA)]
def nj(s:ByteArray):Int×Int:=
 if Lib.hasPrefix s.data.toList ((⟨#[49,46]⟩:BA):ByteArray).data.toList then
  match fT ⟨(Lib.trimPrefix s.data.toList ((⟨#[49,46]⟩:BA):ByteArray).data.toList).toArray⟩ pm with
  |some d=>eE d
  |none=>(0,6)
 else(0,6)
def uS(i:Nat):ByteArray:=if i=0 then(⟨#[46]⟩:BA)else if i=1 then(⟨#[114,99]⟩:BA)else(⟨#[98,101,116,97]⟩:BA)
theorem FR(s:ByteArray)(i:Nat)(D:i<3):fT s (pm.drop i)=if(Lib.cut s.data.toList (uS i).data.toList).2.2 then(if nh iJ ⟨(Lib.cut s.data.toList (uS i).data.toList).2.1.toArray⟩then some ⟨(Lib.cut s.data.toList (uS i).data.toList).1.toArray⟩else none)else fT s (pm.drop (i+1)):=by
 rcases i with _|_|_|i
 ·rfl
 ·rfl
 ·rfl
 ·omega
theorem ET(l sep:List UInt8):(Lib.cut l sep).1.length<=l.length:=by
 unfold Lib.cut;repeat' split
 ·exact List.length_take_le' _ _
 ·exact gA _
theorem sC(l p:List UInt8):(Lib.trimPrefix l p).length<=l.length:=by unfold Lib.trimPrefix;(repeat' split);all_goals simp
theorem FS(s:ByteArray)(hs:s.size<=65536)(w:World)(hT:bQ w)(hV:mG w):Calls prog 14 #[s] w fun e w'=>e=.returned (.tuple #[.int .i64 (nj s).1,.int .i64 (nj s).2])/\Below w w w':=by
 have H1:=hid (fun W=>rq s ⟨#[49,46]⟩ W);(have gj:(⟨(Lib.trimPrefix s.data.toList ((⟨#[49,46]⟩:BA):ByteArray).data.toList).toArray⟩:ByteArray).size<=65536:=by have:=sC s.data.toList ((⟨#[49,46]⟩:BA):ByteArray).data.toList;have h2:s.data.toList.length=s.size:=kR;exact gM (vA jR) (by omega));have HM:=hid (show nj s=if Lib.hasPrefix s.data.toList ((⟨#[49,46]⟩:BA):ByteArray).data.toList then(match fT ⟨(Lib.trimPrefix s.data.toList ((⟨#[49,46]⟩:BA):ByteArray).data.toList).toArray⟩ pm with|some d=>eE d|none=>(0,6))else(0,6)from rfl);have HT:=hid hT;have HV:=hid hV;clear hT hV;generalize nj s=z at *;generalize(⟨(Lib.trimPrefix s.data.toList ((⟨#[49,46]⟩:BA):ByteArray).data.toList).toArray⟩:ByteArray)=rest at *;(go_enter func14,ntmps14);go_wp2_with fail;refine(H1.out _).mono ?_;rintro e w1⟨rfl,rfl⟩;cases hp:Lib.hasPrefix s.data.toList ((⟨#[49,46]⟩:BA):ByteArray).data.toList with
 |false=>rw[hp]at HM;have M:z=(0,6):=HM.out;subst M;go_wp2_with fail;go_ret2;exact⟨rfl,gC _ _⟩
 | true=>
  rw[hp]at HM;have HZ:Hid (z=match fT rest pm with|some d=>eE d|none=>(0,6)):=HM;clear HM hp;(go_upto_block 0 with fail);go_cut [6]from 23 (fun u6 wx=>∃d:ByteArray,d.size<=65536/\z=eE d/\u6=.string d/\Below w1 w1 wx)
  case first=>
   have HD:Hid (fT rest pm=fT rest (pm.drop 0)):=hid rfl;generalize fT rest pm=D at *;go_wp2_with fail;go_loopg [6,23] 3 (fun g u6 u23 wr=>∃i:Nat,i<=3/\3-i<=g/\u6=.string rest/\u23=.int .i64 (i:Int)/\D=fT rest (pm.drop i)/\Below w1 w1 wr)
   case atStart=>exact⟨0,by omega,by omega,rfl,rfl,HD.out,gC _ _⟩
   case round=>
    obtain⟨i,hi,hg,rfl,rfl,hD,hB⟩:=hrel;have gd:=hid hD;have HB:=hid hB;clear hD hB HD;by_cases gh:i<3
    ·(have gg:(i:Int)<3:=by omega);have HC:=hid (B7 rest (uS i) wr (by omega) (HT.out.below HB.out));have gi:=hid (FR rest i gh);have yk:=ET rest.data.toList (uS i).data.toList;have ix:∀W:World,(Instr.index 92 (.agg #[.string ⟨#[46]⟩,.string ⟨#[114,99]⟩,.string ⟨#[98,101,116,97]⟩]) (.int .i64 (i:Int))).run prog W=.ok (.string (uS i)) W:=fun W=>tS ⟨#[46]⟩ (⟨#[114,99]⟩:BA) ⟨#[98,101,116,97]⟩ i gh W;generalize uS i=c at *;(have ge:(⟨(Lib.cut rest.data.toList c.data.toList).1.toArray⟩:ByteArray).size<=65536:=by have h2:rest.data.toList.length=rest.size:=kR;exact gM (vA jR) (by omega));clear yk;generalize(⟨(Lib.cut rest.data.toList c.data.toList).1.toArray⟩:ByteArray)=a at *;generalize(⟨(Lib.cut rest.data.toList c.data.toList).2.1.toArray⟩:ByteArray)=b at *;generalize(Lib.cut rest.data.toList c.data.toList).2.2=th at *;have gn:=hid ge;clear ge;cases th with
     |false=>
      have HN:Hid (D=fT rest (pm.drop (i+1))):=hid (gd.out.trans gi.out);go_wp2_with fail;refine HC.out.mono ?_;rintro e w2⟨rfl,hb⟩;have ga:=aE HB.out hb;clear hb;go_wp2_with fail;go_roundg (3-(i+1))
      case measure=>omega
      case rel=>exact⟨i+1,by omega,gA _,rfl,by go_num,HN.out,ga⟩
     |true=>
      have HN:Hid (D=if nh iJ b then some a else none):=hid (gd.out.trans gi.out);go_wp2_with fail;refine HC.out.mono ?_;rintro e w2⟨rfl,hb⟩;have ga:=aE HB.out hb;clear hb;have HA:=hid (ES 32 iJ uK DI b w2);cases O:nh iJ b with
      |true=>rw[O]at HA HN;have J:Hid (z=eE a):=hid (by rw[HZ.out,HN.out];rfl);clear O;go_wp2_with fail;refine HA.out.mono ?_;rintro e w3⟨rfl,hb⟩;have I:=aE ga hb;clear hb;go_wp2_with fail;go_meet;exact⟨a,gn.out,J.out,rfl,I⟩
      |false=>rw[O]at HA HN;(have M:z=(0,6):=by rw[HZ.out,HN.out];rfl);subst M;clear O;go_wp2_with fail;refine HA.out.mono ?_;rintro e w3⟨rfl,hb⟩;have I:=aE ga hb;clear hb;go_wp2_with fail;go_ret2;exact⟨rfl,I⟩
    ·(have gg:¬ (i:Int)<3:=by omega);have J:Hid (z=eE rest):=hid (by rw[HZ.out,gd.out,show i=3 by omega];rfl);go_wp2_with fail;go_meet;exact⟨rest,gj,J.out,rfl,HB.out⟩
  case rest=>
   obtain⟨d,hd,M,rfl,hB⟩:=hcut;have HB:=hid hB;have J:=hid M;have HA:=hid (yL d hd wc (HV.out.below HB.out));have gm:=hid (HV.out.below HB.out);clear hB M HZ;go_wp2_with fail;refine HA.out.mono ?_;rintro e w2⟨he,hb⟩;have y:=hid (aE HB.out hb);have gl:=hid (gm.out.below hb);clear hb;unfold tR at he;cases O:Lib.atoiAll d.data.toList
   case ok v=>
    rw[O]at he;subst he;obtain⟨b0,b1⟩:=Lib.atoiAll_bounds O;have HI:=hid (yK v b0 b1 w2 gl.out);have gb:Hid (z=if(decide ((⟨(Lib.itoa v).toArray⟩:ByteArray)=d)&&decide (0<=v)&&decide (v<=99))=true then(v,0)else(0,6)):=hid (by rw[J.out];unfold eE;rw[O]);generalize(⟨(Lib.itoa v).toArray⟩:ByteArray)=x at *;have hx:=bW x d;clear O J;generalize decide (x=d)=q at *;cases q with
    |false=>have M:z=(0,6):=gb.out;subst M;go_wp2_with fail;refine HI.out.mono ?_;rintro e w3⟨rfl,hb⟩;have I:=aE y.out hb;clear hb;go_wp2_with fail;go_ret2;exact⟨rfl,I⟩
    | true=>
     (have g1:decide (v<0) = !decide (0<=v):=by by_cases h:v<0<;>simp[h]<;>omega);(have g2:decide (99<v) = !decide (v<=99):=by by_cases h:99<v<;>simp[h]<;>omega);by_cases h0:v<0
     ·(have M:z=(0,6):=by rw[gb.out,show decide (0<=v)=false by simpa using h0];rfl);subst M;clear g1 g2;go_wp2_with fail;refine HI.out.mono ?_;rintro e w3⟨rfl,hb⟩;have I:=aE y.out hb;clear hb;go_wp2_with fail;go_ret2;exact⟨rfl,I⟩
     ·by_cases h1:99<v
      ·(have M:z=(0,6):=by rw[gb.out,show decide (v<=99)=false by simpa using h1];simp);subst M;clear g1 g2;go_wp2_with fail;refine HI.out.mono ?_;rintro e w3⟨rfl,hb⟩;have I:=aE y.out hb;clear hb;go_wp2_with fail;go_ret2;exact⟨rfl,I⟩
      ·(have M:z=(v,0):=by rw[gb.out,show decide (0<=v)=true by simp;omega,show decide (v<=99)=true by simp;omega];rfl);subst M;clear g1 g2;go_wp2_with fail;refine HI.out.mono ?_;rintro e w3⟨rfl,hb⟩;have I:=aE y.out hb;clear hb;go_wp2_with fail;go_ret2;exact⟨rfl,I⟩
   all_goals rw[O]at he;obtain⟨n,t,p,rfl⟩:=he;(have M:z=(0,6):=by rw[J.out];unfold eE;rw[O]);subst M;clear O J;go_wp2_with fail;go_ret2;exact⟨rfl,y.out⟩
def eF(s:ByteArray):Int:=
 if Lib.hasPrefix s.data.toList ((⟨#[103,111,49,46]⟩:BA):ByteArray).data.toList then
  (if(eE ⟨(Lib.trimPrefix s.data.toList ((⟨#[103,111,49,46]⟩:BA):ByteArray).data.toList).toArray⟩).2=0 then(eE ⟨(Lib.trimPrefix s.data.toList ((⟨#[103,111,49,46]⟩:BA):ByteArray).data.toList).toArray⟩).1 else -1)
 else -1
theorem sZ(s:ByteArray)(hs:s.size<=65536)(w:World)(hV:mG w):Calls prog 81 #[s] w fun e w'=>e=.returned (.int .i64 (eF s))/\Below w w w':=by
 have H1:=hid (fun W=>rq s ⟨#[103,111,49,46]⟩ W);(have ga:(⟨(Lib.trimPrefix s.data.toList ((⟨#[103,111,49,46]⟩:BA):ByteArray).data.toList).toArray⟩:ByteArray).size<=65536:=by have:=sC s.data.toList ((⟨#[103,111,49,46]⟩:BA):ByteArray).data.toList;have h2:s.data.toList.length=s.size:=kR;exact gM (vA jR) (by omega));have HM:Hid (eF s=if Lib.hasPrefix s.data.toList ((⟨#[103,111,49,46]⟩:BA):ByteArray).data.toList then(if(eE ⟨(Lib.trimPrefix s.data.toList ((⟨#[103,111,49,46]⟩:BA):ByteArray).data.toList).toArray⟩).2=0 then(eE ⟨(Lib.trimPrefix s.data.toList ((⟨#[103,111,49,46]⟩:BA):ByteArray).data.toList).toArray⟩).1 else -1)else -1):=hid rfl;have HV:=hid hV;clear hV;generalize eF s=z at *;generalize(⟨(Lib.trimPrefix s.data.toList ((⟨#[103,111,49,46]⟩:BA):ByteArray).data.toList).toArray⟩:ByteArray)=d at *;have HA:=hid (yL d ga w HV.out);(go_enter func81,ntmps81);go_wp2_with fail;refine(H1.out _).mono ?_;rintro e w1⟨rfl,rfl⟩;generalize Lib.hasPrefix s.data.toList ((⟨#[103,111,49,46]⟩:BA):ByteArray).data.toList=b at *;clear H1;go_wp2_with fail;refine HA.out.mono ?_;rintro e w2⟨h,hb⟩;have O:=hid hb;have y:=hid (HV.out.below hb);clear hb HA HV;unfold tR at h;cases M:Lib.atoiAll d.data.toList
 case ok v=>
  rw[M]at h;subst h;obtain⟨b0,b1⟩:=Lib.atoiAll_bounds M;have HI:=hid (yK v b0 b1 w2 y.out);have HZ:Hid (eE d=if(decide ((⟨(Lib.itoa v).toArray⟩:ByteArray)=d)&&decide (0<=v)&&decide (v<=99))=true then(v,0)else(0,6)):=hid (by unfold eE;rw[M]);generalize(⟨(Lib.itoa v).toArray⟩:ByteArray)=x at *;have hx:=bW x d;generalize decide (x=d)=q at *;generalize eE d=sm at *;clear M y;cases b with
  |false=>have I:z = -1:=HM.out;subst I;go_wp2_with fail;go_ret;exact⟨rfl,O.out⟩
  | true=>
   have J:Hid (z=if sm.2=0 then sm.1 else -1):=hid HM.out;clear HM;cases q with
   |false=>(have I:z = -1:=by rw[J.out,HZ.out];rfl);subst I;go_wp2_with fail;refine HI.out.mono ?_;rintro e w3⟨rfl,hb⟩;have D:=aE O.out hb;clear hb;go_wp2_with fail;go_ret;exact⟨rfl,D⟩
   | true=>
    by_cases h0:v<0
    ·(have I:z = -1:=by rw[J.out,HZ.out,show decide (0<=v)=false by simpa using h0];rfl);subst I;go_wp2_with fail;refine HI.out.mono ?_;rintro e w3⟨rfl,hb⟩;have D:=aE O.out hb;clear hb;go_wp2_with fail;go_ret;exact⟨rfl,D⟩
    ·by_cases h1:99<v
     ·(have I:z = -1:=by rw[J.out,HZ.out,show decide (v<=99)=false by simpa using h1];simp);subst I;go_wp2_with fail;refine HI.out.mono ?_;rintro e w3⟨rfl,hb⟩;have D:=aE O.out hb;clear hb;go_wp2_with fail;go_ret;exact⟨rfl,D⟩
     ·(have I:z=v:=by rw[J.out,HZ.out,show decide (0<=v)=true by simp;omega,show decide (v<=99)=true by simp;omega];rfl);subst I;go_wp2_with fail;refine HI.out.mono ?_;rintro e w3⟨rfl,hb⟩;have D:=aE O.out hb;clear hb;go_wp2_with fail;go_ret;exact⟨rfl,D⟩
 all_goals
  rw[M]at h;obtain⟨n,t,p,rfl⟩:=h;(have I:z = -1:=by rw[HM.out,show eE d=(0,6)by unfold eE;rw[M]];cases b<;>rfl);subst I;clear M HM;cases b with
  |false=>go_wp2_with fail;go_ret;exact⟨rfl,O.out⟩
  |true=>go_wp2_with fail;go_ret;exact⟨rfl,O.out⟩
def cC(tags:List ByteArray):Nat->Tx->Bool
 |0,_=>false
 | n+1,x=>if x.op=(⟨#[33]⟩:BA)then !cC tags n (x.kids.headD si)
   else if x.op=(⟨#[38,38]⟩:BA)then !x.kids.any fun k =>!cC tags n k
   else if x.op=(⟨#[124,124]⟩:BA)then x.kids.any (cC tags n)
   else if eF x.tag = -1 then tags.any fun y=>decide (x.tag=y)
   else decide (eF x.tag<=24)
structure pn(w:World)(A:Option Addr)(c:Nat)(tags:List ByteArray):Prop where
 few:tags.length<=1000
 at_:sU w A tags
theorem pn.below{w w':World}{A:Option Addr}{c:Nat}{tags:List ByteArray}(h:pn w A c tags)(hb:Below w w w'):pn w' A c tags:=⟨h.few,h.at_.below hb⟩
def ry(n:Nat):Prop:=∀(x:Tx)(v:Value)(A:Option Addr)(c:Nat)(tags:List ByteArray)(w:World),cU x->yg w v x->bo n x=true->pn w A c tags->mG w ->
 Calls prog 47 #[v,.slice A tags.length c] w fun e w'=>e=.returned (.bool (cC tags n x))/\Below w w w'
theorem DT(a:Array Value)(w:World):(callFunc 78 a).run prog w=.ok (.enter 78 a) w:=by kernel_rfl
theorem DU(a:Array Value)(w:World):(callFunc 80 a).run prog w=.ok (.enter 80 a) w:=by kernel_rfl
theorem uT(n:Nat)(z:ry n)(b:Nat)(A:Option Addr)(c:Nat)(tags:List ByteArray)(x:Tx)(v:Value)(w:World)(h:cU x)(I:yg w v x)(q:bo n x=true)(O:pn w A c tags)(y:mG w)(hb:aa w b 24 #[.slice A tags.length c]):
  Calls prog 78 #[v,b] w fun e w'=>e=.returned (.bool (cC tags n x))/\Below w w w':=by obtain⟨B,cp,xs,rfl,h1,h2,h3⟩:=I;have I:yg w (.agg #[.string x.op,.string x.tag,.slice B x.kids.length cp]) x:=⟨B,cp,xs,rfl,h1,h2,h3⟩;have J:=(gC w.heap.size w).alloc (gA _) (.cells #[.string x.op,.string x.tag,.slice B x.kids.length cp] 73);have b0:=aw (hb.alloc (.cells #[.string x.op,.string x.tag,.slice B x.kids.length cp] 73));have gb:=hb.lt;(have ga:b≠w.heap.size:=by omega);have H1:=hid (z x _ A c tags _ h (I.below J) q (O.below J) (y.below J));clear hb I h1 h2 h3 z O y q h;(go_enter func78,ntmps78);go_wp2_with fail;refine H1.out.mono ?_;rintro e w1⟨rfl,D⟩;have M:=aE J D;clear D H1;go_wp2_with fail;go_ret;exact⟨rfl,M⟩
theorem DV(n:Nat)(hH:ry n)(b s:Nat)(A:Option Addr)(c:Nat)(tags:List ByteArray)(x:Tx)(v:Value)(w:World)(q:cU x)(J:yg w v x)(y:bo n x=true)(h:pn w A c tags)(z:mG w)(hb:aa w b 24 #[.slice A tags.length c])
  (M:aa w s 111 #[.func (.func 78) #[] #[b]]):
  Calls prog 80 #[v,s] w fun e w'=>e=.returned (.bool (!cC tags n x))/\Below w w w':=by obtain⟨B,cp,xs,rfl,h1,h2,h3⟩:=J;have J:yg w (.agg #[.string x.op,.string x.tag,.slice B x.kids.length cp]) x:=⟨B,cp,xs,rfl,h1,h2,h3⟩;have I:=(gC w.heap.size w).alloc (gA _) (.cells #[.string x.op,.string x.tag,.slice B x.kids.length cp] 73);have s0:=aw (M.alloc (.cells #[.string x.op,.string x.tag,.slice B x.kids.length cp] 73));have gb:=M.lt;(have ga:s≠w.heap.size:=by omega);have s1:=aw M;have H1:=hid (uT n hH b A c tags x _ _ q (J.below I) y (h.below I) (z.below I) (hb.bl I));clear hb J h1 h2 h3 hH h z y q M;(go_enter func80,ntmps80);go_wp2_with fail;refine H1.out.mono ?_;rintro e w1⟨rfl,D⟩;have O:=aE I D;clear D H1;go_wp2_with fail;go_ret;exact⟨rfl,O⟩
theorem oh{n:Nat}{o t:ByteArray}{l:List Tx}(h:bo (n+1) (.mk o t l)=true)(J:o≠(⟨#[]⟩:BA)):∀x∈l,bo n x=true:=by
 intro x hx;(have key:∀z:Bool,z=true->(z=true->l.any (fun k =>!bo n k)=false)->bo n x=true:=fun z h1 h2=>by have I:=h2 h1;rw[List.any_eq_false]at I;simpa using I x hx);rw[iK,gE J]at h;refine key _ h fun D=>?_;split at D
 ·simp only[gR,vx]at D;exact D.2.2
 ·split at D
  ·simp only[gR,vx]at D;exact D.2.2
  ·cases D
theorem DW(n:Nat)(hH:ry n):ry (n+1):=by
 intro x v A c tags w hs hx hr ht hV;obtain⟨o,t,l⟩:=x;obtain⟨B,cp,xs,rfl,h1,h2,h3⟩:=hx;simp only[Tx.op_mk,Tx.tag_mk,Tx.kids_mk]at h1 h2 h3 |-;(obtain⟨hl,q,hk⟩:l.length<=1000000/\t.size<=65536/\∀x∈l,cU x:=by cases hs;exact⟨by assumption,by assumption,by assumption⟩);have gi:∀(fn:Fn)(first cap:Array Value)(w:World),(Instr.makeFunc fn first cap).run prog w=.ok (.func fn first cap) w:=fun _ _ _ _=>rfl;have O:Below w w (((w.alloc (.cells #[.string o,.string t,.slice B l.length cp] 73)).alloc (.cells #[.slice A tags.length c] 24)).alloc (.cells #[.func (.func 78) #[] #[.pointer (some ⟨w.heap.size+1,0,none⟩)]] 111)):=bel;have hG:aa (((w.alloc (.cells #[.string o,.string t,.slice B l.length cp] 73)).alloc (.cells #[.slice A tags.length c] 24)).alloc (.cells #[.func (.func 78) #[] #[.pointer (some ⟨w.heap.size+1,0,none⟩)]] 111)) (w.heap.size+1) 24 #[.slice A tags.length c]:=(aa.new_at (by simp) _ _).alloc _;have hF:aa (((w.alloc (.cells #[.string o,.string t,.slice B l.length cp] 73)).alloc (.cells #[.slice A tags.length c] 24)).alloc (.cells #[.func (.func 78) #[] #[.pointer (some ⟨w.heap.size+1,0,none⟩)]] 111)) (w.heap.size+1+1) 111 #[.func (.func 78) #[] #[.pointer (some ⟨w.heap.size+1,0,none⟩)]]:=aa.new_at (by simp) _ _;have hE:aa (((w.alloc (.cells #[.string o,.string t,.slice B l.length cp] 73)).alloc (.cells #[.slice A tags.length c] 24)).alloc (.cells #[.func (.func 78) #[] #[.pointer (some ⟨w.heap.size+1,0,none⟩)]] 111)) w.heap.size 73 #[.string o,.string t,.slice B l.length cp]:=((aa.new w _ _).alloc _).alloc _;have gh:o≠(⟨#[]⟩:BA)->∀W0,Below _ (((w.alloc (.cells #[.string o,.string t,.slice B l.length cp] 73)).alloc (.cells #[.slice A tags.length c] 24)).alloc (.cells #[.func (.func 78) #[] #[.pointer (some ⟨w.heap.size+1,0,none⟩)]] 111)) W0 ->
   Ch 78 #[.pointer (some ⟨w.heap.size+1,0,none⟩)] (cC tags n) l W0/\Ch 80 #[.pointer (some ⟨w.heap.size+1+1,0,none⟩)] (fun k =>!cC tags n k) l W0:=
  fun ho W0 hb0=>⟨fun x hx W2 v hb2 hv=>uT n hH _ A c tags x v W2 (hk x hx) hv (oh hr ho x hx) ((ht.below O).below (aE hb0 hb2)) ((hV.below O).below (aE hb0 hb2)) (hG.bl (aE hb0 hb2)),
   fun x hx W2 v hb2 hv=>DV n hH _ _ A c tags x v W2 (hk x hx) hv (oh hr ho x hx) ((ht.below O).below (aE hb0 hb2)) ((hV.below O).below (aE hb0 hb2)) (hG.bl (aE hb0 hb2)) (hF.bl (aE hb0 hb2))⟩
 have hR:bK (fun _=>True) (((w.alloc (.cells #[.string o,.string t,.slice B l.length cp] 73)).alloc (.cells #[.slice A tags.length c] 24)).alloc (.cells #[.func (.func 78) #[] #[.pointer (some ⟨w.heap.size+1,0,none⟩)]] 111)) 3 B l.length xs:=h2.keep fun b _ hlt=>O.block b hlt;have hC:bE (fun _=>True) (((w.alloc (.cells #[.string o,.string t,.slice B l.length cp] 73)).alloc (.cells #[.slice A tags.length c] 24)).alloc (.cells #[.func (.func 78) #[] #[.pointer (some ⟨w.heap.size+1,0,none⟩)]] 111)) l xs:=h3.keep fun b _ hlt=>O.block b hlt;have I:=hid gh;have HR:=hid hR;have HC:=hid hC;have HT:=hid (ht.below O);have HV:=hid (hV.below O);have M:=hid hr;have HG:=hid hG;have HH:=hid hH;have gd:=hid hk;have hF:=(hF.cell 0).trans rfl;clear gh hR hC hs h1 h2 h3 hk hr ht hV hG hH;have e0:=(hE.cell 0).trans rfl;have e1:=(hE.cell 1).trans rfl;have e2:=(hE.cell 2).trans rfl;clear hE;obtain⟨z,ga⟩:∃z,Hid (cC tags (n+1) (.mk o t l)=z):=⟨_,hid rfl⟩
 rw[ga.out];(go_enter func47,ntmps47);(go_upto_region 2 with fail);generalize((w.alloc (.cells #[.string o,.string t,.slice B l.length cp] 73)).alloc (.cells #[.slice A tags.length c] 24)).alloc (.cells #[.func (.func 78) #[] #[.pointer (some ⟨w.heap.size+1,0,none⟩)]] 111)=W at *;have key:=yP M.out;have g0:=(HG.out.cell 0).trans rfl;rcases key with rfl|rfl|rfl|rfl
 ·have HS:=hid (show z=if eF t = -1 then tags.any fun y=>decide (t=y)else decide (eF t<=24)by rw[<-ga.out,cC];rfl);have H1:=hid (sZ t q W HV.out);generalize eF t=vt at *;clear I M HR HC gd HH q;go_wp2_with fail;refine H1.out.mono ?_;rintro e w1⟨rfl,D⟩;have J:=aE O D;clear H1;by_cases hv:vt = -1
  ·subst hv;have H2:=hid (BZ t tags A c w1 HT.out.few (HT.out.at_.below D));have y0:=(HG.out.bl D).cell 0;have y1:=cell_kept D e1;have HZ:=hid (show z=tags.any fun y=>decide (t=y)from HS.out);clear e0 e1 e2 g0 HS D;replace y0:=y0.trans rfl;generalize(tags.any fun y=>decide (t=y))=b at *;go_wp2_with fail;refine H2.out.mono ?_;rintro e w2⟨rfl,rfl⟩;go_wp2_with fail;go_ret;exact⟨by rw[HZ.out]<;>rfl,J⟩
  ·(have b1:(vt != -1)=true:=by rw[kE];exact hv);have HZ:=hid (show z=decide (vt<=24)by rw[HS.out,gE hv]);clear HS hv e0 e1 e2 g0 D;go_wp2_with fail;go_ret;exact⟨by rw[HZ.out]<;>rfl,J⟩
 ·(have gj:l.length=1:=by have h:=M.out;rw[iK,gE (by decide),gL rfl,gR]at h;exact of_decide_eq_true h.1);obtain⟨k,rfl⟩:∃k,l=[k]:=by
   match l,gj with
   |[k],_=>exact⟨k,rfl⟩
  have HS:Hid (z = !cC tags n k):=hid (by rw[<-ga.out,cC];rfl);have HX:=hid (fun(m:Wd (Below W W))v(hv:yg m.wd v k)=>(I.out (by decide) W (gC _ _)).1 k (by simp) m.wd v m.ok hv);obtain⟨bk,off,rfl,-,hc⟩:=HR.out.2 (by simp);obtain⟨ys,hy,gb⟩:=bE.get (l:=[k]) 0 (by simp) HC.out;have gg:∀m:Wd (Below W W),tL (fun _=>True) m.wd k ys:=fun m=>hy.keep fun b _ hlt=>m.ok.block b hlt;obtain⟨A2,ge,gl,rfl,-,-,-⟩:=hy.toV;have k0:=hc 0 _ ((gb 0 (by omega)).trans rfl);have k1:=hc 1 _ ((gb 1 (by omega)).trans rfl);have k2:=hc 2 _ ((gb 2 (by omega)).trans rfl);simp only[kF]at k0;have j0:∀m:Wd (Below W W),m.wd.cell? ⟨bk,off,none⟩=some (.string k.op):=fun m=>cell_kept m.ok k0;have j1:∀m:Wd (Below W W),m.wd.cell? ⟨bk,off+1,none⟩=some (.string k.tag):=fun m=>cell_kept m.ok k1;have j2:∀m:Wd (Below W W),m.wd.cell? ⟨bk,off+2,none⟩=some (.slice A2 k.kids.length ge):=fun m=>cell_kept m.ok k2;have j3:∀m:Wd (Below W W),m.wd.cell? ⟨w,2,none⟩=some (.slice (some ⟨bk,off,none⟩) 1 cp):=fun m=>cell_kept m.ok e2;have HY:=hid (fun m:Wd (Below W W)=>HX.out m (.agg #[.string k.op,.string k.tag,.slice A2 k.kids.length ge]) (by obtain⟨A3,c3,x3,e,h1,h2,h3⟩:=(gg m).toV;injection e with e e';injection e' with e' e'';injection e'' with e'' _;exact⟨A3,c3,x3,by rw[show Value.slice A2 k.kids.length ge=_ from e''],h1,h2,h3⟩));have j4:∀m:Wd (Below W W),m.wd.cell? ⟨w.heap.size+1+1,0,none⟩=some (.func (.func 78) #[] #[.pointer (some ⟨w.heap.size+1,0,none⟩)]):=fun m=>cell_kept m.ok hF;generalize cC tags n k=y at *;clear HX I M HR HC gd HH gg hc gb hy q gi;(go_upto_region 4 with fail);refine ei W ?_;(repeat(go_big_quiet_step ((go_at_call 78;rename_i m;exact PI HY.out m))));refine m7 ?_;intro m;have gk:=aE O m.ok;clear j0 j1 j2 j3 j4 k0 k1 k2 e0 e1 e2 g0 hF;go_wp2_with fail;go_ret;exact⟨by rw[HS.out]<;>rfl,gk⟩
 ·have HS:Hid (z = !l.any fun k =>!cC tags n k):=hid (by rw[<-ga.out,cC];rfl);have HX:=hid (sB _ _ _ B cp l xs W HR.out HC.out (by omega) DU (I.out (by decide) W (gC _ _)).2);generalize(l.any fun k =>!cC tags n k)=y at *;clear I M HR HC gd HH q;go_wp2_with fail;refine HX.out.mono ?_;rintro e w1⟨rfl,D⟩;have J:=aE O D;clear HX e0 e1 e2 g0 hF D;go_wp2_with fail;go_ret;exact⟨by rw[HS.out]<;>rfl,J⟩
 ·have HS:Hid (z=l.any fun k=>cC tags n k):=hid (by rw[<-ga.out,cC];rfl);have HX:=hid (sB _ _ _ B cp l xs W HR.out HC.out (by omega) DT (I.out (by decide) W (gC _ _)).1);change Hid (z=l.any (cC tags n))at HS;generalize l.any (cC tags n)=y at *;clear I M HR HC gd HH q;go_wp2_with fail;refine HX.out.mono ?_;rintro e w1⟨rfl,D⟩;have J:=aE O D;clear HX e0 e1 e2 g0 hF D;go_wp2_with fail;go_ret;exact⟨by rw[HS.out]<;>rfl,J⟩
theorem sD(x:Tx)(v:Value)(w:World)(q:cU x)(h:yg w v x):Calls prog 46 #[v] w fun e w'=>e=.returned (.bool (bo 100 x))/\Below w w w':=by obtain⟨A,cp,xs,rfl,O,M,J⟩:=h;have I:Below w w (w.alloc (.cells #[.string x.op,.string x.tag,.slice A x.kids.length cp] 73)):=bel;have H:=hid (Cj 100 (by omega) x _ _ q (yg.below ⟨A,cp,xs,rfl,O,M,J⟩ I));clear O M J;(go_enter func46,ntmps46);go_wp2_with fail;refine H.out.mono ?_;rintro e w1⟨rfl,hb⟩;have D:=aE I hb;go_wp2_with fail;go_ret;exact⟨rfl,D⟩
theorem Ck:∀n,ry n
 |0=>fun x v A c tags w hs hx D=>by cases x;cases D
 |n+1=>DW n (Ck n)
theorem FT(x:Tx)(v:Value)(A:Option Addr)(c:Nat)(tags:List ByteArray)(w:World)(h:cU x)(hx:yg w v x)(ht:pn w A c tags)(hV:mG w):
  Calls prog 23 #[v,.slice A tags.length c] w fun e w'=>e=.returned (.bool (bo 100 x&&cC tags 100 x))/\Below w w w':=by
 obtain⟨B,cp,xs,rfl,h1,h2,h3⟩:=hx;have O:Below w w (w.alloc (.cells #[.string x.op,.string x.tag,.slice B x.kids.length cp] 73)):=bel;have hE:=aa.new w 73 #[.string x.op,.string x.tag,.slice B x.kids.length cp];have y:=yg.below ⟨B,cp,xs,rfl,h1,h2,h3⟩ O;have H:=hid (sD x _ _ h y);have H2:=hid (fun W(hb:Below _ _ W)I=>Ck 100 x _ A c tags W h (y.below hb) I ((ht.below O).below hb) ((hV.below O).below hb));clear h1 h2 h3 y h ht hV;obtain⟨z,M⟩:∃z,Hid ((bo 100 x&&cC tags 100 x)=z):=⟨_,hid rfl⟩
 rw[M.out];(go_enter func23,ntmps23);go_wp2_with fail;refine H.out.mono ?_;rintro e w1⟨rfl,hb⟩;have J:=aE O hb;have D:=hE.bl hb;have e0:=(D.cell 0).trans rfl;have e1:=(D.cell 1).trans rfl;have e2:=(D.cell 2).trans rfl;clear hE D;cases I:bo 100 x
 ·rw[I]at M;clear H H2 I;go_wp2_with fail;go_ret;exact⟨by rw[<-M.out]<;>rfl,J⟩
 ·have H3:=hid (H2.out _ hb I);rw[I]at M;clear H H2 hb I;go_wp2_with fail;refine H3.out.mono ?_;rintro e w2⟨rfl,q⟩;have ga:=aE J q;clear H3;go_wp2_with fail;go_ret;exact⟨by rw[<-M.out]<;>rfl,ga⟩
def iY:Nat->Tx->Int
 |0,_ =>-1
 |n+1,x=>if x.op=(⟨#[]⟩:BA)then eF x.tag else if x.op=(⟨#[38,38]⟩:BA)then Lib.maxOf (x.kids.map (iY n))else if x.op=(⟨#[124,124]⟩:BA)then Lib.minOf (x.kids.map (iY n))else -1
def AW(n:Nat):Prop:=∀(x:Tx)(v:Value)(w:World),cU x->yg w v x->bo n x=true->mG w ->
 Calls prog 48 #[v] w fun e w'=>e=.returned (.int .i64 (iY n x))/\Below w w w'
theorem Oy:(prog.info? 3).map (fun i=>(i.zero,i.size,i.bytes))=some (some (.int .i64 0),1,8):=by kernel_rfl
def uZ(w:World)(B:Nat)(v:Value)(zs:List Int):Prop:=w.ownsRow B 3 1 v zs.length (zs.map (Value.int .i64))
theorem uZ.row{w:World}{B:Nat}{v:Value}{zs:List Int}(h:uZ w B v zs)(D:0<zs.length):∃g c,v=.slice (some ⟨g,0,none⟩) zs.length c/\∀j,j<zs.length->w.cell? ⟨g,0+j,none⟩=some (.int .i64 (zs.getD j 0)):=by obtain⟨g,c,rfl,-,-⟩:=qX h D;refine⟨g,c,rfl,fun j hj=>?_⟩;have:=World.ownsRow.cells h (g:=g) rfl j (.int .i64 (zs.getD j 0)) (by simp[hj]);rw[iU]at this;exact this
theorem M8{w:World}{B:Nat}{v:Value}{zs:List Int}(h:uZ w B v zs)(D:0<zs.length)(J:zs.length<=1000000):
  Calls prog 83 #[v] w fun e w'=>e=.returned (.int .i64 (Lib.maxOf zs))/\w'=w:=by
 obtain⟨g,c,rfl,I⟩:=h.row D;have:=Any.slices_Max_int Tryz.laysMax g 0 zs.length c zs w D (gA _) (by omega) I
 rwa [jU (gA _)]at this
theorem M9{w:World}{B:Nat}{v:Value}{zs:List Int}(h:uZ w B v zs)(D:0<zs.length)(J:zs.length<=1000000):
  Calls prog 84 #[v] w fun e w'=>e=.returned (.int .i64 (Lib.minOf zs))/\w'=w:=by
 obtain⟨g,c,rfl,I⟩:=h.row D;have:=Any.slices_Min_int Tryz.laysMin g 0 zs.length c zs w D (gA _) (by omega) I
 rwa [jU (gA _)]at this
theorem yT{w w':World}{B:Nat}{e:TypeId}{s n:Nat}{v:Value}{xs:List Value}(h:w.ownsRow B e s v n xs)(hb:Below w w w'):w'.ownsRow B e s v n xs:=by
 refine⟨h.1,?_⟩;rcases h.2 with J|⟨g,cap,cur,M,I,D,r⟩
 ·exact .inl J
 ·exact .inr ⟨g,cap,cur,M,I,(hb.block g (Array.getElem?_eq_some_iff.1 D).1).trans D,r⟩
theorem D2(n:Nat)(hL:AW n):AW (n+1):=by
 intro x v w hs hx hr hV;obtain⟨o,t,l⟩:=x;obtain⟨A,cp,xs,rfl,h1,h2,h3⟩:=hx;simp only[Tx.op_mk,Tx.tag_mk,Tx.kids_mk]at h1 h2 h3 |-;(obtain⟨hl,z,hk⟩:l.length<=1000000/\t.size<=65536/\∀x∈l,cU x:=by cases hs;exact⟨by assumption,by assumption,by assumption⟩);have hB:Below w w (w.alloc (.cells #[.string o,.string t,.slice A l.length cp] 73)):=bel;have hE:=aa.new w 73 #[.string o,.string t,.slice A l.length cp];have e0:=(hE.cell 0).trans rfl;have e1:=(hE.cell 1).trans rfl;have e2:=(hE.cell 2).trans rfl;have gs:Hid (∀x∈l,bo n x=true):=hid (by
  by_cases ho:o=(⟨#[]⟩:BA)
  ·subst ho;rw[iK,gL rfl,gR]at hr;rw[jI (of_decide_eq_true hr.2)];nofun
  ·exact oh hr ho)
 have HR:Hid (bK (fun _=>True) (w.alloc (.cells #[.string o,.string t,.slice A l.length cp] 73)) 3 A l.length xs):=hid (h2.keep fun b _ O=>hB.block b O);have HC:Hid (bE (fun _=>True) (w.alloc (.cells #[.string o,.string t,.slice A l.length cp] 73)) l xs):=hid (h3.keep fun b _ O=>hB.block b O);have HV:=hid (hV.below hB);have yk:=hid hr;have HL:=hid hL;have gr:=hid hk;have g2:maxLen=9223372036854775807:=rfl;clear hs h1 h2 h3 hk hr hV hL hE;(go_enter func48,ntmps48);(go_upto_region 1 with fail);generalize w.alloc (.cells #[.string o,.string t,.slice A l.length cp] 73)=W at *;obtain⟨zs,gh⟩:∃zs,zs=l.map (iY n):=⟨_,rfl⟩
 (have gi:zs.length=l.length:=by rw[gh,jN]);have HZ:=hid gh;clear gh;go_wp2_with fail;go_loopg [3,5,9] l.length (fun gg u3 _ u9 wr=>∃i:Nat,i<=l.length/\l.length-i<=gg/\u9=.int .i64 (i:Int)/\uZ wr W.heap.size u3 (zs.take i)/\Below W W wr)
 case atStart=>exact⟨0,gT _,by omega,rfl,kP _ _ _ _,gC _ _⟩
 case round=>
  obtain⟨i,hi,hg,rfl,D,J⟩:=hrel;have x0:=cell_kept J e0;have x1:=cell_kept J e1;have x2:=cell_kept J e2;clear e0 e1 e2;by_cases O:i<l.length
  ·(have gm:(i:Int)<(l.length:Int):=by omega);(have h0:(0:Int)<=(i:Int):=by omega);have hk:∀b,True->b<W.heap.size->wr.heap[b]? = W.heap[b]? :=fun b _ hb=>J.block b hb;obtain⟨bk,off,rfl,-,hc⟩:=(HR.out.keep hk).2 (by omega);obtain⟨ys,hy,gd⟩:=bE.get i O (HC.out.keep hk);obtain⟨A2,gn,gt,rfl,q1,q2,q3⟩:=hy.toV;have k0:=hc (i*3+0) _ (gd 0 (by omega));have k1:=hc (i*3+1) _ (gd 1 (by omega));have k2:=hc (i*3+2) _ (gd 2 (by omega));simp only[kF]at k0;rw[<-Nat.add_assoc]at k1 k2;have I:Below wr wr (wr.alloc (.cells #[.string l[i].op,.string l[i].tag,.slice A2 l[i].kids.length gn] 73)):=bel;have gb:=hid (HL.out l[i] _ _ (gr.out _ (jF O)) (yg.below ⟨A2,gn,gt,rfl,q1,q2,q3⟩ I) (gs.out _ (jF O)) ((HV.out.below J).below I));have M:=hid (yT D I);have q:=aE J I;have gz:=hid (show zs.take (i+1)=zs.take i++[iY n l[i]]by rw[kC (by omega)];congr 2;simp[HZ.out]);(have g1:(zs.take i).length<=1000000:=by rw[qO];omega);clear hc gd hy q1 q2 q3 hk D I gi;generalize iY n l[i]=y at *;generalize l[i]=x at *;obtain⟨i0,gy,gw,gv,gu⟩:=qr Oy;go_wp2_with fail;refine gb.out.mono ?_;rintro e w1⟨rfl,gj⟩;have ga:=hid (yT M.out gj);have ge:=aE q gj;have gx:=ge.size;have gq:=hid (show aA (w1.alloc (.cells #[.int .i64 y] 3)) (w1.heap.size+1) 1 (some ⟨w1,0,none⟩) 1 [.int .i64 y]from cc (cs:=[.int .i64 y]) (kJ w1 _) rfl (jO _));have gp:Hid (∀u∈[Value.int .i64 y],u.oneCell'=true):=hid (fun u hu=>by rw[List.mem_singleton.1 hu];rfl);clear gj gb M q k0 k1 k2 x0 x1 x2;go_wp2_with (at_builtin;refine du _ rfl (.tmp 13) (.tmp 16) 152 rfl W.heap.size 3 i0 _ 1 8 underlying152 gy gw gv gu rfl (by omega) u3 (zs.take i).length _ rfl (kQ ga.out _) (w1.heap.size+1) (some ⟨w1,0,none⟩) 1 1 [.int .i64 y] rfl gq.out gp.out (by omega) (by omega) (by rw[gP];omega) ?_;intro v' w2 hown hg2 hat);go_roundg (l.length-(i+1))
   case measure=>omega
   case rel=>refine⟨i+1,by omega,gA _,by go_num,?_,(ge.alloc gx _).grown hg2 (by rw[gP];omega) fun k hk=>(qA ga.out k hk).1⟩;unfold uZ;rw[gz.out,gJ,kW];exact hown
  ·(have gm:¬ (i:Int)<(l.length:Int):=by omega);have M:Hid (uZ wr W.heap.size u3 zs):=hid (by rw[jU (by omega)]at D;exact D);have q:=aE hB J;have g0:=hid (HV.out.below J);clear D;have key:o=(⟨#[]⟩:BA)\/o=(⟨#[33]⟩:BA)\/o=(⟨#[38,38]⟩:BA)\/o=(⟨#[124,124]⟩:BA):=yP yk.out;(have gl:zs.length<=1000000:=by omega);(have h2:o=(⟨#[38,38]⟩:BA)\/o=(⟨#[124,124]⟩:BA)->0<zs.length:=fun h=>by rw[gi];exact FQ yk.out h);clear gs gr HL HR HC yk gi;rcases key with rfl|rfl|rfl|rfl
   ·have HS:Hid (iY (n+1) (.mk ⟨#[]⟩ t l)=eF t):=hid rfl;have H1:=hid (sZ t z wr g0.out);generalize eF t=vt at *;clear HZ h2 z;go_wp2_with fail;refine H1.out.mono ?_;rintro e w1⟨rfl,I⟩;have ge:=aE q I;clear I;go_wp2_with fail;go_ret;exact⟨by rw[HS.out];rfl,ge⟩
   ·have HS:Hid (iY (n+1) (.mk ⟨#[33]⟩ t l) = -1):=hid rfl;clear HZ h2 z;go_wp2_with fail;go_ret;exact⟨by rw[HS.out];rfl,q⟩
   ·have HS:Hid (iY (n+1) (.mk ⟨#[38,38]⟩ t l)=Lib.maxOf zs):=hid (by rw[HZ.out];rfl);have H1:=hid (M8 M.out (h2 (.inl rfl)) gl);generalize Lib.maxOf zs=vt at *;clear HZ h2 z;go_wp2_with fail;refine H1.out.mono ?_;rintro e w1⟨rfl,rfl⟩;go_wp2_with fail;go_ret;exact⟨by rw[HS.out];rfl,q⟩
   ·have HS:Hid (iY (n+1) (.mk ⟨#[124,124]⟩ t l)=Lib.minOf zs):=hid (by rw[HZ.out];rfl);have H1:=hid (M9 M.out (h2 (.inr rfl)) gl);generalize Lib.minOf zs=vt at *;clear HZ h2 z;go_wp2_with fail;refine H1.out.mono ?_;rintro e w1⟨rfl,rfl⟩;go_wp2_with fail;go_ret;exact⟨by rw[HS.out];rfl,q⟩
theorem Cv:∀n,AW n
 |0=>fun x v w hs hx D=>by cases x;cases D
 |n+1=>D2 n (Cv n)
def fq(x:Tx):Int:=if bo 100 x=true then iY 100 x else -1
theorem F3(x:Tx)(v:Value)(w:World)(M:cU x)(hx:yg w v x)(hV:mG w):
  Calls prog 24 #[v] w fun e w'=>e=.returned (.int .i64 (fq x))/\Below w w w':=by
 obtain⟨B,cp,xs,rfl,h1,h2,h3⟩:=hx;have y:Below w w (w.alloc (.cells #[.string x.op,.string x.tag,.slice B x.kids.length cp] 73)):=bel;have hE:=aa.new w 73 #[.string x.op,.string x.tag,.slice B x.kids.length cp];have h:=yg.below ⟨B,cp,xs,rfl,h1,h2,h3⟩ y;have H:=hid (sD x _ _ M h);have H2:=hid (fun W(hb:Below _ _ W)I=>Cv 100 x _ W M (h.below hb) I ((hV.below y).below hb));clear h1 h2 h3 h M hV;(go_enter func24,ntmps24);go_wp2_with fail;refine H.out.mono ?_;rintro e w1⟨rfl,hb⟩;have J:=aE y hb;have D:=hE.bl hb;have e0:=(D.cell 0).trans rfl;have e1:=(D.cell 1).trans rfl;have e2:=(D.cell 2).trans rfl;clear hE D;cases I:bo 100 x
 ·have z:Hid (fq x = -1):=hid (by unfold fq;rw[I];rfl);clear H H2 I;go_wp2_with fail;go_ret;exact⟨by rw[z.out];rfl,J⟩
 ·have H3:=hid (H2.out _ hb I);have z:Hid (fq x=iY 100 x):=hid (by unfold fq;rw[I];rfl);clear H H2 hb I;go_wp2_with fail;refine H3.out.mono ?_;rintro e w2⟨rfl,O⟩;have q:=aE J O;clear H3;go_wp2_with fail;go_ret;exact⟨by rw[z.out];rfl,q⟩
end
end Go.Proofs.YtcoiialmdncpfaaGreatDoor
