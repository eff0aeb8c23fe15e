/-
  Parts of the proof: Pframe Look Begin Rblock Rdecl. By an AI agent.
-/
import Derived.Test.YteialcjaiocjdaaGreatDoorCards
import Derived.Test.YteialcjaiocjdaaGreatDoorTie
import Derived.Test.YteialcjaiocjdaaGreatDoorJ00
import Derived.Test.YteialcjaiocjdaaGreatDoorJ18
import Derived.Test.YteialcjaiocjdaaGreatDoorJ05
import Derived.Test.YteialcjaiocjdaaGreatDoorJ10
import Derived.Test.YteialcjaiocjdaaGreatDoorJ21
import Derived.Test.YteialcjaiocjdaaGreatDoorJ20
import Derived.Test.YteialcjaiocjdaaGreatDoorJ19
import Derived.Test.YteialcjaiocjdaaGreatDoorJ06
import Derived.Test.YteialcjaiocjdaaGreatDoorJ09
import Derived.Test.YteialcjaiocjdaaGreatDoorJ07
import Derived.Test.YteialcjaiocjdaaGreatDoorJ04
import Derived.ChangeSlices
import Derived.Lib.LaidU8T
import Derived.Deep.LoopGhost
import Derived.BigQuiet
import Derived.Deep.RegionLaw
import Derived.Deep.RegionHeld2
open Go.Proofs.Tryz
set_option maxRecDepth 100000
set_option maxHeartbeats 8000000
namespace Go.Proofs.YteialcjaiocjdaaGreatDoor
section
open Go.ChangeShapes Go.WideShapes Go.ChangeAt Go.RowKit Go.Shelf Go.Lib
theorem AS{W:World}(h:W.ShapedOpen prog):dw W:=by obtain⟨cs,hh,hs,hr⟩:=h.1 0 #[.int .i64 0] 3 (of_decide_eq_true (by kernel_rfl)) (by kernel_rfl);obtain⟨ts,J,_,M⟩:=hr (by kernel_rfl);rw[show prog.cellTypes prog.depth 3=some [3]by kernel_rfl]at J;cases J;(have O:0<cs.size:=by rw[hs];decide);obtain⟨u,N,D⟩:=M 0 cs[0] (by simp[O]);(have:u=3:=by simpa using N.symm);subst this;(have I:W.cell? ⟨0,0,none⟩=some cs[0]:=by simp[World.cell?,hh,O]);unfold dw;rw[I];unfold Cell.ok at D;rw[underlying3]at D;cases U:cs[0]<;>rw[U]at D<;>simp at D;obtain⟨rfl,-⟩:=D;exact⟨_,rfl⟩
def RU:Ren:=⟨fun n=>n,fun|5=>5|119=>164|138=>166|139=>167|n=>n,fun|3=>1|4=>2|n=>n⟩
theorem O9:U8Types prog RU:=⟨underlying5,underlying164,underlying166,underlying167⟩
theorem Pa:U8Extra prog RU:=⟨by kernel_rfl,by kernel_rfl,by kernel_rfl,by kernel_rfl,by kernel_rfl,by kernel_rfl,by kernel_rfl⟩
def Lq:List (String×DataW Unit):=[("unicode/utf8.acceptRanges",Rows.laid_unicode_utf8_acceptRanges),("unicode/utf8.first",Rows.laid_unicode_utf8_first)]
theorem DV:Rows.laid_unicode_utf8_first=firstData:=by kernel_rfl
theorem Ck:(Rows.laid_unicode_utf8_acceptRanges:DataW Unit)=acceptData:=by kernel_rfl
theorem Pb{W:World}(h:W.ShapedOpen prog)(D:laidMet prog Lq W):iY W:=
 ⟨AS h,utf8Tabs_of_readsT O9 Pa (by rw[<-DV];exact laidMet.reads D (.tail _ (.head _))) (by rw[<-Ck];exact laidMet.reads D (.head _))⟩
def Lr:DataW Unit->List Value
 | .lit (.int k n)=>[.int k n]
 | .agg l=>l.map fun| .lit (.int k n)=>Value.int k n|_=>Value.bool false
 |_=>[]
def tH:DataW Unit->Array Value
 | .agg l=>(l.flatMap Lr).toArray
 |_ =>#[]
def Ls(c:Array Value):Obj->Obj
 | .cells _ t frozen=>.cells c t frozen
 |o=>o
noncomputable def sR (os:Os):World:=
 { World.holding prog os ⟨#[],#[],[]⟩with heap:=((World.holding prog os ⟨#[],#[],[]⟩).heap.modify 2 (Ls (tH Rows.laid_unicode_utf8_acceptRanges))).modify 1 (Ls (tH Rows.laid_unicode_utf8_first)) }
def o7:Value:=.agg #[.int .i64 0,.string ⟨#[]⟩,.slice none 0 0,.int .i64 0]
def Lt{H:Type}:DataW H:=.agg [.lit (.int .i64 0),.lit (.string []),.nil,.lit (.int .i64 0)]
section
variable {H:Type} {enc:TypeId×Value->H}
end
end
section
open Go.RowKit Go.Lib Go.Proofs
attribute [local go_sem ↓] Go.wp_at_zero Go.wp_at_succ
attribute [local go_sem] aR aS aT
def AZ:ByteArray:=(⟨#[32,60,60,61,32,62,62,61,32,38,94,61,32,46,46,46,32,43,61,32,45,61,32,42,61,32,47,61,32,37,61,32,38,61,32,124,61,32,94,61,32,60,60,32,62,62,32,38,94,32,60,45,32,38,32,94,32,58,32]⟩:BA)
def ry(s:ByteArray):Bool:=match lT s with
 |some x=>decide (x.size<=1000)
 |none=>false
def fH(t:ef):Bool :=!(decide (t.kind=3))&&(!(decide (t.kind=6)&&Lib.contains AZ.data.toList ((⟨#[32]⟩++t.text++⟨#[32]⟩:ByteArray)).data.toList)&&(!(decide (t.kind=2)&&(t.text.toList==[105,109,112,111,114,116])) &&
 ((!(decide (t.kind=4))||cW t.text)&&((!(decide (t.kind=5))||ry t.text)&&(decide (t.kind=5)||t.text.data.toList.all (fun c=>c != 32))))))
theorem D8(A:Option Addr)(c:Nat)(l:List ef)(w:World)(hr:co w w.heap.size 3 A l.length (l.flatMap nB))(hl:l.length<=1000000)(hT:iY w)(hz:∀t∈l,t.text.size<=65536)(gh:l.all fH=true):
  Calls prog 49 #[.slice A l.length c] w fun e w'=>e=.returned (.tuple #[.int .i64 0,.int .i64 0])/\Below w w w':=by
 have HR:=hid hr;have HT:=hid hT;have HZ:=hid hz;have HG:=hid (List.all_eq_true.1 gh);clear hr hT hz gh;(go_enter func49,ntmps49);go_wp2_with fail;go_loopg [5,12] l.length (fun g _ u12 wr=>∃i:Nat,i<=l.length/\l.length-i<=g/\u12=.int .i64 (i:Int)/\Below w w wr)
 case atStart=>exact⟨0,gQ _,by omega,rfl,gH _ _⟩
 case round=>
  obtain⟨i,hi,hg,rfl,hB⟩:=hrel;by_cases D:i<l.length
  ·(have M:(i:Int)<(l.length:Int):=by omega);have gm:=hB.size;(have h0:(0:Int)<=(i:Int):=by omega);obtain⟨bk,off,ge,yk,I⟩:=(HR.out.below hB).el fL (by omega) rfl D;subst ge;have k0:=I i D 0 _ rfl;have k1:=I i D 1 _ rfl;have k2:=I i D 2 _ rfl;simp only[gZ]at k0;have gd:=HZ.out _ (gS D);have J:=HG.out _ (gS D);clear I;generalize l[i]=t at *;obtain⟨tk,tt,tp⟩:=t;simp only at k0 k1 k2 gd;unfold fH at J;simp only[gA,qD,gK]at J;obtain⟨h3,U,gg,-,-⟩:=J;(have e3:(tk==3)=false:=by rw[gF];exact h3);by_cases h6:tk=6
   ·subst h6;have gj:=hid (fun w'(hb:Below w w w')=>fk AZ (⟨#[32]⟩++tt++⟨#[32]⟩) w' (HT.out.below hb).tab (jZ (show AZ.size<=100 by decide +kernel) (by omega)));rw[jK rfl,jP]at U;rw[U]at gj;clear h3 e3 U gg;go_wp2_with fail;refine(gj.out _ rk).mono ?_;rintro e w2⟨rfl,rfl⟩;go_wp2_with fail;go_roundg (l.length-(i+1))
    case measure=>omega
    case rel=>exact⟨i+1,by omega,gC _,by go_num,rk⟩
   (have e6:(tk==6)=false:=by rw[gF];exact h6);by_cases h2:tk=2
   ·subst h2;rw[jK rfl,jP]at gg;clear h3 e3 h6 e6 U;go_wp2_with fail;go_roundg (l.length-(i+1))
    case measure=>omega
    case rel=>exact⟨i+1,by omega,gC _,by go_num,rk⟩
   (have e2:(tk==2)=false:=by rw[gF];exact h2);clear h3 h6 h2 gg U;go_wp2_with fail;go_roundg (l.length-(i+1))
   case measure=>omega
   case rel=>exact⟨i+1,by omega,gC _,by go_num,rk⟩
  ·(have M:¬ (i:Int)<(l.length:Int):=by omega);clear hi D;go_wp2_with fail;go_loopg [7,8,9,46] l.length (fun g _ _ _ u46 wy=>∃i:Nat,i<=l.length/\l.length-i<=g/\u46=.int .i64 (i:Int)/\Below w w wy)
   case atStart=>exact⟨0,gQ _,by omega,rfl,hB⟩
   case round=>
    clear M hB;obtain⟨i,hi,hg,rfl,hB⟩:=hrel;by_cases D:i<l.length
    ·(have M:(i:Int)<(l.length:Int):=by omega);have gm:=hB.size;(have h0:(0:Int)<=(i:Int):=by omega);obtain⟨bk,off,ge,yk,I⟩:=(HR.out.below hB).el fL (by omega) rfl D;subst ge;have k0:=I i D 0 _ rfl;have k1:=I i D 1 _ rfl;have k2:=I i D 2 _ rfl;simp only[gZ]at k0;have gd:=HZ.out _ (gS D);have J:=HG.out _ (gS D);clear I;generalize l[i]=t at *;obtain⟨tk,tt,tp⟩:=t;simp only at k0 k1 k2 gd;unfold fH at J;simp only[gA]at J;obtain⟨-,-,-,gb,N,-⟩:=J;by_cases h4:tk=4
     ·subst h4;have gp:=hid (fun w'=>uL tt w' (by simpa using gb));clear gb N;go_wp2_with fail;refine(gp.out _).mono ?_;rintro e w2⟨rfl,ga⟩;have O:Below w w w2:=Below.trans rk (ga.mono (by simp;omega));have gi:=O.size;go_wp2_with fail;go_roundg (l.length-(i+1))
      case measure=>omega
      case rel=>exact⟨i+1,by omega,gC _,by go_num,O⟩
     (have e4:(tk==4)=false:=by rw[gF];exact h4);by_cases h5:tk=5
     ·subst h5;clear h4 gb;cases h:lT tt with
      |none=>simp[ry,h]at N
      |some x=>
       (have N:x.size<=1000:=by simpa[ry,h]using N);have gn:=hid (fun w'(gl:Below w w w')=>tN tt x w' (HT.out.below gl) h);(have hd:decide ((1000:Int)<(x.size:Int))=false:=by rw[gK];omega);clear h N;go_wp2_with fail;refine(gn.out _ rk).mono ?_;rintro e w2⟨rfl,ga⟩;have O:Below w w w2:=Below.trans rk (ga.mono (by simp;omega));have gi:=O.size;clear ga;go_wp2_with fail;go_roundg (l.length-(i+1))
       case measure=>omega
       case rel=>exact⟨i+1,by omega,gC _,by go_num,O⟩
     (have e5:(tk==5)=false:=by rw[gF];exact h5);clear h4 h5 gb N;go_wp2_with fail;go_roundg (l.length-(i+1))
     case measure=>omega
     case rel=>exact⟨i+1,by omega,gC _,by go_num,rk⟩
    ·(have M:¬ (i:Int)<(l.length:Int):=by omega);go_wp2_with fail;go_ret2;exact⟨rfl,hB⟩
end
section
open Go.RowKit Go.Lib Go.Proofs
attribute [local go_sem ↓] Go.wp_at_zero Go.wp_at_succ
def bZ(s:ByteArray):Co:=match ll s with
 | .err p n=>.err p n
 | .toks L=>if L.all fH=true then .toks L else .out
 | .out=>.out
theorem Ft{s:ByteArray}{L:List ef}(h:bZ s=.toks L):ll s=.toks L/\L.all fH=true:=by
 unfold bZ at h;cases hs:ll s with
 |err p n=>rw[hs]at h;cases h
 |out=>rw[hs]at h;cases h
 |toks L'=>
  rw[hs]at h;simp only at h;split at h
  ·injection h with h;rw[<-h];exact⟨rfl,‹_›⟩
  ·cases h
theorem pa{s:ByteArray}{p n:Int}(h:bZ s=.err p n):ll s=.err p n/\n=12:=by
 unfold bZ at h;cases hs:ll s with
 |err p n=>rw[hs]at h;injection h with D h2;subst D;subst h2;exact⟨rfl,(sT hs).2.2⟩
 |out=>rw[hs]at h;cases h
 |toks L'=>rw[hs]at h;simp only at h;split at h<;>cases h
structure yV(E:cw)(w:World)(s:ByteArray)(L:List ef):Prop where
 c:E.c=⟨L,(s.size:Int)⟩
 at_:aU E w ⟨0,false,-1⟩
 base:E.w0.heap.size<=E.R
 tab:iY E.w0
 small:∀t∈E.c.toks,t.text.size<=65536
 few:L.length<=65537
 good:L.all fH=true
def GR(s:ByteArray)(w:World)(r:Co)(e:Ending)(w':World):Prop:=match r with
 | .err p n=>e=.returned (.tuple #[.pointer none,.int .i64 p,.int .i64 n])/\Below w w w'
 | .toks L=>∃E:cw,e=.returned (.tuple #[E.R,.int .i64 0,.int .i64 0])/\yV E w' s L/\w.heap.size<=E.R/\Below w w w'
 | .out=>False
theorem yW(A0:Option Addr)(c:Nat)(s:ByteArray)(w:World)(hv:eK w A0 c s)(hT:iY w)(N:s.size<=10000000000000000)(D:bZ s≠.out):
  Calls prog 21 #[.slice A0 s.size c] w (GR s w (bZ s)):=by
 have U:=hid (Cr A0 c s w hv hT N (fun h=>D (by unfold bZ;rw[h])));have HT:=hid hT;cases O:bZ s with
 |out=>exact absurd O D
 |err p n=>obtain⟨hs,rfl⟩:=pa O;rw[hs]at U;clear hs O D hT hv;(go_enter func21,ntmps21);go_wp2_with fail;refine U.out.mono ?_;rintro e w1⟨rfl,hB⟩;go_wp2_with fail;go_ret3;exact⟨rfl,hB⟩
 |toks L=>obtain⟨hs,hg⟩:=Ft O;have HZ:=hid (uK hs).2.2;have HG:=hid hg;rw[hs]at U;clear hs O D hg hT hv;(go_enter func21,ntmps21);go_wp2_with fail;refine U.out.mono ?_;rintro e w1⟨A,cp,rfl,gb,M,hr,hB⟩;have ga:=hid (D8 A cp L w1 hr (by omega) (HT.out.below hB) HZ.out HG.out);have HR:=hid hr;clear U hr;go_wp2_with fail;refine ga.out.mono ?_;rintro e w2⟨rfl,I⟩;have J:=au hB I;have ge:=hid (HR.out.below I);have gd:=hid (HT.out.below J);clear ga HR;go_wp2_with fail;go_ret3;refine⟨⟨w2.heap.size,A,cp,⟨L,(s.size:Int)⟩,w2⟩,rfl,⟨rfl,⟨aq.new _ _ _,?_,gQ _,by show L.length<=1000000;omega,gb,fun b hb=>jI w2 _ b hb⟩,gC _,gd.out,HZ.out,M,HG.out⟩,J.size,J.alloc J.size _⟩;exact GK (ge.out.below ((gH w1.heap.size w2).alloc I.size _)) I.size
end
section
open Go.RowKit Go.Lib Go.Proofs
attribute [local go_sem ↓] Go.wp_at_zero Go.wp_at_succ
attribute [local go_sem] aR aS aT bu bv bw bz
theorem Cy(a:Array Value)(w:World):(callFunc 113 a).run prog w=.ok (.enter 113 a) w:=by kernel_rfl
theorem Eb(E:cw)(F:fK)(hF:nE E F)(B:Nat)(w0:World)(hB:aq w0 B 41 #[E.R])(gw:B≠E.R):
  ie E 113 #[B] (mR F) w0:=by
 intro w s hw h hno;generalize hres:mR F E.c s=res at *;have gs:=hid hres;have g4:=hid hno;have g2:=hB.grown hw (fun e=>gw (by injection e));have b0:=ce g2;have jo:=g2.lt;have ht:=h.lt;have h1:=(aA.refl h).alloc (.cells bJ 24);clear hres hno hB hw;(go_enter func113,ntmps113);go_wp2_with fail;refine(bL E s _ (h.alloc _)).mono ?_;unfold fY;rintro e w1⟨rfl,gy⟩;have hj:=(aq.new w 24 bJ).below gy (by simp);have jc:=(g2.alloc (.cells bJ 24)).below gy (by simp;omega);have h0:=h1.step gy;have he:=hj.lt;clear gy h1 g2 b0;go_wp2_with fail;refine(aM _ _ _ _ _ ⟨_,_,_,rfl⟩).mono ?_;rintro e w2⟨rfl,gx⟩;have hi:=hj.below gx he;have jb:=jc.below gx (by omega);have hy:=h0.step gx;have jg:=hi.lt;clear gx h0 jc hj;have h3:=aq.new w2 24 #[.int .i64 36,.string ⟨#[]⟩,.slice none 0 0,.int .i64 (az E.c s.at_).pos];have h7:=hi.alloc (.cells #[.int .i64 36,.string ⟨#[]⟩,.slice none 0 0,.int .i64 (az E.c s.at_).pos] 24);have hn:=jb.alloc (.cells #[.int .i64 36,.string ⟨#[]⟩,.slice none 0 0,.int .i64 (az E.c s.at_).pos] 24);have b3:=ce hn;have hf:=hy.alloc (.cells #[.int .i64 36,.string ⟨#[]⟩,.slice none 0 0,.int .i64 (az E.c s.at_).pos] 24);go_wp2_with fail;cases hA:aP E.c s ⟨#[123]⟩with
 |false=>exact absurd (show res=.out by rw[<-gs.out,mR,bV];simp[hA]) g4.out
 | true=>
  have HE:Hid (cS F (az E.c s.at_).pos F.g [] E.c (adv s)=res):=hid (by rw[<-gs.out,mR,bV];simp only[hA,kG,bQ.bind_ok];rfl);refine(de E s _ _ hf.rd hA).mono ?_;rintro e w4⟨rfl,I⟩;have ga:=h3.grown I.gr;have U:=h7.grown I.gr;have gi:=hn.grown I.gr;have gh:=hf.trans I;generalize hL:w2.heap.size=L at *;(have jn:w.heap.size<L:=by omega);generalize(az E.c s.at_).pos=p at *;clear h3 h7 hn hf I hA gs hi jb hy hL b3;go_wp2_with fail;go_loopg [] F.g (fun g wr=>∃(acc:List Nd)(s':St)(u:Value),aq wr L 24 #[.int .i64 36,.string ⟨#[]⟩,u,.int .i64 p]/\ik (w.heap.size+1) (fun b=>b=L) wr u acc/\aq wr w.heap.size 24 bJ/\aq wr B 41 #[E.R]/\acc.length+g<=1000001/\cS F p g acc E.c s'=res/\aA E s' w wr)
  case atStart=>exact⟨[],adv s,_,ga,ik.nil _ _ _,U,gi,by have:=hF.g;simp;omega,HE.out,gh⟩
  case round=>
   clear ga U gh gi HE;obtain⟨acc,M,u,hL,HO,hG,hk,jp,hr,hM⟩:=hrel;have HR:=hid hr;clear hr;cases gk with
   |zero=>exact absurd HR.out.symm (by rw[cS];exact g4.out)
   | succ g1=>
    have b0:=ce hk;cases hA:aP E.c M ⟨#[125]⟩with
    |true=>have HF:=hid (show res=.ok (.mk 36 ⟨#[]⟩ acc p) (adv M)by rw[<-HR.out,cS];simp only[hA,kG]);clear HR;go_wp2_with fail;refine(aZ E M _ _ hM.rd hA).mono ?_;rintro e w4⟨rfl,I⟩;have ga:=hL.grown I.gr;have U:=hG.grown I.gr;have gt:=HO.grown I.gr (by omega);obtain⟨A4,c4,g9,_⟩:=gt.form;subst g9;obtain⟨x0,x1,x2,x3,_,_,_,_⟩:=ab ga;obtain⟨d0,d1,d2,d3,e0,e1,e2,e3⟩:=ab U;clear hA b0;go_wp2_with fail;refine av HF.out (af.of_slice gt.values 36 ⟨#[]⟩ p) (hM.trans I) U (gC _) ht ?_ rfl (by rfl) rfl;rintro b⟨hb,_⟩;constructor<;>omega
    | false=>
     have HE:=hid (show(if d6 E.c M then cS F p g1 acc E.c (adv M)else(F.stmt E.c M).bind fun n s1=>if d6 E.c s1 then cS F p g1 (acc++[n]) E.c (adv s1)else if aP E.c s1 ⟨#[125]⟩then cS F p g1 (acc++[n]) E.c s1 else .out)=res by rw[<-HR.out,cS];simp only[hA,gW,jW]);clear HR;go_wp2_with fail;refine(bB E M _ _ hM.rd hA).mono ?_;rintro e w4⟨rfl,gd⟩;have ga:=hL.bl gd.bel;have U:=hG.bl gd.bel;have gi:=hk.bl gd.bel;have gt:=HO.kept (am.of_below gd.bel (fun b _ hlt=>hlt));have gh:=hM.trans gd.moved;clear hA hL hG HO hM gd b0 hk;have b4:=ce gi;go_wp2_with fail;refine(ld E M _ gh.rd).mono ?_;rintro e w5⟨rfl,gg⟩;have g0:=ga.grown gg.gr;have h6:=U.grown gg.gr;have hm:=gi.grown gg.gr (fun e=>gw (by injection e));have g3:=gt.grown gg.gr (by omega);have gl:=gh.trans gg;clear ga U gt gh gi b4 gg;cases gz:d6 E.c M with
     |true=>
      have jm:Hid (cS F p g1 acc E.c (adv M)=res):=hid (by rw[<-HE.out];simp only[gz,kG]);rw[show fB E.c M=adv M by unfold fB;rw[gz];rfl]at gl;clear HE;go_wp2_with fail;go_roundg g1
      case measure=>omega
      case rel=>exact⟨acc,adv M,_,g0,g3,h6,hm,by omega,jm.out,gl⟩
     |false=>
     have hp:=hid (show((F.stmt E.c M).bind fun n s1=>if d6 E.c s1 then cS F p g1 (acc++[n]) E.c (adv s1)else if aP E.c s1 ⟨#[125]⟩then cS F p g1 (acc++[n]) E.c s1 else .out)=res by rw[<-HE.out];simp only[gz,gW,jW]);rw[show fB E.c M=M by unfold fB;rw[gz];rfl]at gl;clear HE;obtain⟨A4,c4,g9,_⟩:=g3.form;subst g9;obtain⟨x0,x1,x2,x3,y0,y1,y2,y3⟩:=ab g0;have b5:=ce hm;have hc:=g0.lt;cases hP:F.stmt E.c M with
     |out=>exact absurd hp.out.symm (by rw[hP];exact g4.out)
     | ok n2 N=>
      have gv:=hid (show(if d6 E.c N then cS F p g1 (acc++[n2]) E.c (adv N)else if aP E.c N ⟨#[125]⟩then cS F p g1 (acc++[n2]) E.c N else .out)=res by rw[<-hp.out,hP];rfl);have HC:=hid (fun W(hr:aU E W M)=>hF.stmt W M hr (by rw[hP];exact nofun));rw[hP]at HC;clear hp hP;go_wp2_with fail;(have hu:acc.length<=1000000:=by omega);(have hv:E.R<w.heap.size+1:=by omega);(have hq:w.heap.size+1<=w5.heap.size:=by omega);(have jq:B≠L:=by omega);go_region_law (first
       |(refine fM (by rfl) (.tmp 15) (.tmp 18) (by rfl) E N (w.heap.size+1) w5.heap.size (fun b=>b=L) w w7 (.slice A4 acc.length c4) acc n2 A7 c7 (by rfl) (by rfl) jl jh (jN _) hv hq jf (fun b hb=>by rw[hb];exact hc) (fun g hg=>(g3.lt g hg).2) hu ji ?_;intro g c w9 gj;have h2:aq w9 L 24 #[.int .i64 36,.string ⟨#[]⟩,.slice A4 acc.length c4,.int .i64 p]:=(gj.old L ha (.inl rfl)).trans hh;have ja:aq w9 B 41 #[E.R]:=(gj.old B hl.lt (.inr (by omega))).trans hl;have b9:=ce ja;obtain⟨v0,v1,v2,v3,f0,f1,f2,f3⟩:=ab h2)
       |(go_simp;(go_at_call 114);refine(HC.out _ gl.drew.rd).mono ?_;rintro e w7⟨⟨v,rfl,je⟩,ge⟩;obtain⟨A7,c7,rfl,ji⟩:=je.toC;have hh:=g0.drew.grown ge.gr;have h5:=h6.drew.grown ge.gr;have hl:=hm.drew.grown ge.gr (fun e=>gw (by injection e));have b7:=ce hl;have jl:=(g3.kept ((am.refl _ _).drew)).grown ge.gr hv;have jh:=gl.drew.trans ge;have jf:w5.heap.size<=w7.heap.size:=ge.gr.size;have ha:=hh.lt;obtain⟨z0,z1,z2,z3,_,_,_,_⟩:=ab hh))
      all_goals
       have gm:=gj.mov.own (p:=⟨L,2,none⟩) (by show w.heap.size<=L;omega) (by show E.R<L;omega) (.slice (some ⟨g,0,none⟩) (acc.length+1) c);(have g5:aq (w9.setCell ⟨L,2,none⟩ (.slice (some ⟨g,0,none⟩) (acc.length+1) c)) L 24 #[.int .i64 36,.string ⟨#[]⟩,.slice (some ⟨g,0,none⟩) (acc.length+1) c,.int .i64 p]:=by simpa using h2.set_ 2 (.slice (some ⟨g,0,none⟩) (acc.length+1) c));have gq:=ja.far (p:=⟨L,2,none⟩) (by show B≠L;omega) (.slice (some ⟨g,0,none⟩) (acc.length+1) c);have g6:=aq.far (show aq w9 w.heap.size 24 bJ from(gj.old w.heap.size (by have:=h5.lt;omega) (.inr (by omega))).trans h5) (p:=⟨L,2,none⟩) (by show w.heap.size≠L;omega) (.slice (some ⟨g,0,none⟩) (acc.length+1) c);have g8:=gj.own.kept ((am.refl _ _).setCell (p:=⟨L,2,none⟩) (fun hX=>hX.2 rfl) (.slice (some ⟨g,0,none⟩) (acc.length+1) c));clear v0 v1 v2 v3 f0 f1 f2 f3 z0 z1 z2 z3 x0 x1 x2 x3 y0 y1 y2 y3 b5 b7 b9;generalize w9.setCell ⟨L,2,none⟩ (.slice (some ⟨g,0,none⟩) (acc.length+1) c)=w10 at *;have jk:=ce gq;go_wp2_with fail;refine(ld E N _ gm.rd).mono ?_;rintro e w11⟨rfl,D⟩;have gn:=g5.grown D.gr;have gp:=g6.grown D.gr;have gb:=gq.grown D.gr (fun e=>gw (by injection e));have gu:=g8.grown D.gr (by omega);have J:=gm.trans D;have jj:=ce gb;clear gm g5 g6 g8 gq jk;cases hS:d6 E.c N with
       |true=>
        have ho:Hid (cS F p g1 (acc++[n2]) E.c (adv N)=res):=hid (by rw[<-gv.out];simp only[hS,kG]);rw[show fB E.c N=adv N by unfold fB;rw[hS];rfl]at J;clear gv D;go_wp2_with fail;go_roundg g1
        case measure=>omega
        case rel=>exact⟨acc++[n2],adv N,_,gn,gu,gp,gb,by rw[gM];simp;omega,ho.out,J⟩
       | false=>
        rw[show fB E.c N=N by unfold fB;rw[hS];rfl]at J;go_wp2_with fail;refine(bY E N _ _ J.rd).mono ?_;rintro e w12⟨rfl,O⟩;have h4:=gn.bl O;have h8:=gp.bl O;have g7:=gb.bl O;have jd:=gu.kept (am.of_below O (fun b _ hlt=>hlt));have hz:=J.step O;have jr:=ce g7;clear gn gp gu J D gb jj;cases hI:aP E.c N ⟨#[125]⟩with
        |true=>
         have ho:Hid (cS F p g1 (acc++[n2]) E.c N=res):=hid (by rw[<-gv.out];simp only[hS,hI,gW,jW,kG]);clear gv;go_wp2_with fail;go_roundg g1
         case measure=>omega
         case rel=>exact⟨acc++[n2],N,_,h4,jd,h8,g7,by rw[gM];simp;omega,ho.out,hz⟩
        |false=>have HF:Hid (res=.out):=hid (by rw[<-gv.out];simp only[hS,hI,gW,jW]);exact absurd (HF.out) g4.out
theorem iT(E:cw)(F:fK)(hF:nE E F):d9 E (bH F) 76:=by
 intro w s h hno;have ge:=h.lt;have M:=((aA.refl h).alloc (.cells #[E.R] 41)).alloc (.cells bJ 24);have O:aq ((w.alloc (.cells #[E.R] 41)).alloc (.cells bJ 24)) w.heap.size 41 #[E.R]:=(aq.new w _ _).alloc _;(have ga:aq ((w.alloc (.cells #[E.R] 41)).alloc (.cells bJ 24)) (w.heap.size+1) 24 bJ:=by have:=aq.new (w.alloc (.cells #[E.R] 41)) 24 bJ;simpa using this);have HC:=hid (B7 E 113 #[] #[w] (mR F) s _ M.rd Cy (by simpa using Eb E F hF w.heap.size _ O (by omega)) hno);have gd:=hid hno;have gb:=hid (show((w.alloc (.cells #[E.R] 41)).alloc (.cells bJ 24)).heap.size=w.heap.size+2 by simp);generalize D:bH F E.c s=res at *;rw[show cB (mR F) E.c s=res from D]at HC;clear D hno O;(go_enter func76,ntmps76);go_wp2_with fail;refine HC.out.mono ?_;cases D:res with
 |out=>exact absurd D gd.out
 |ok n5 s5=>rintro e w5⟨⟨v5,rfl,I⟩,J⟩;obtain⟨A5,c5,rfl,gg⟩:=I.toC;have N:=ga.grown J.gr;have U:=M.trans J;obtain⟨d0,d1,d2,d3,e0,e1,e2,e3⟩:=ab N;go_wp2_with fail;refine av (by first|rfl|exact D) I U N (jN _) (by omega) ?_ rfl (by rfl) rfl;intro b hb;have:=gb.out;constructor<;>omega
abbrev TM(P Q:Nat)(p0 p1 p2 p3 q0 q1 q2 q3:Value)(w:World):Prop:=
 w.cell? ⟨P,0,none⟩=some p0/\w.cell? ⟨P,1,none⟩=some p1/\w.cell? ⟨P,2,none⟩=some p2/\w.cell? ⟨P,3,none⟩=some p3 /\
 w.cell? ⟨Q,0,none⟩=some q0/\w.cell? ⟨Q,1,none⟩=some q1/\w.cell? ⟨Q,2,none⟩=some q2/\w.cell? ⟨Q,3,none⟩=some q3
theorem nI{w:World}{P Q:Nat}{t t':TypeId}{p0 p1 p2 p3 q0 q1 q2 q3:Value}(I:aq w P t #[p0,p1,p2,p3])(D:aq w Q t' #[q0,q1,q2,q3]):TM P Q p0 p1 p2 p3 q0 q1 q2 q3 w:=
 ⟨by simpa using I.cell 0,by simpa using I.cell 1,by simpa using I.cell 2,by simpa using I.cell 3,by simpa using D.cell 0,by simpa using D.cell 1,by simpa using D.cell 2,by simpa using D.cell 3⟩
theorem LH(E:cw)(F:fK)(hF:nE E F):d9 E (ib F) 58:=by
 intro w s h hno;generalize D:ib F E.c s=res at *;have J:=hid D;have ga:=hid hno;have gl:=h.lt;clear D hno;(go_enter func58,ntmps58);go_wp2_with fail;refine(bL E s _ (h.alloc _)).mono ?_;unfold fY;rintro e w1⟨rfl,g5⟩;have gg:=((cJ.refl h).alloc _).step g5;have gn:=(aq.new w 24 bJ).below g5 (by simp);have g4:=gn.lt;clear g5;go_wp2_with fail;cases hA:aP E.c s ⟨#[102,117,110,99]⟩with
 | true=>
  have HE:=hid (show(cT E.c (adv s)).bind (fun x s1=>(eR F E.c s1).bind fun ps s2=>(n7 F (aD E.c s) E.c s2).bind fun sg s3=>(bH F E.c s3).bind fun b s4=>.ok (.mk 2 x [ps,sg,b] (aD E.c s)) s4)=res by rw[<-J.out,ib,gG hA]);refine(aZ E s _ w1 gg.rd hA).mono ?_;rintro e w2⟨rfl,gu⟩;have gd:=gn.grown gu.gr;have I:=gg.moved.trans gu;have hu:=gu.gr.size;clear J hA gn gg gu;go_wp2_with fail;by_cases hN:(az E.c (adv s).at_).kind=1
  case neg=>exact absurd (show res=.out by rw[<-HE.out,cT,gB hN];rfl) ga.out
  have ha:=hid (show(eR F E.c (adv (adv s))).bind (fun ps s2=>(n7 F (aD E.c s) E.c s2).bind fun sg s3=>(bH F E.c s3).bind fun b s4=>.ok (.mk 2 (az E.c (adv s).at_).text [ps,sg,b] (aD E.c s)) s4)=res by rw[<-HE.out,cT,gG hN];rfl);refine(lg E (adv s) _ I.rd hN).mono ?_;rintro e w3⟨rfl,M⟩;have gi:=gd.grown M.gr;have N:=I.trans M;have hc:=M.gr.size;clear HE hN gd I M;generalize(az E.c (adv s).at_).text=tx at *;generalize hpp:aD E.c s=pp at *;rw[show(az E.c s.at_).pos=pp from hpp];clear hpp;go_wp2_with fail;cases hP:eR F E.c (adv (adv s))with
  |out=>exact absurd ha.out.symm (by rw[hP];exact ga.out)
  | ok ps s2=>
   have g9:=hid (show(n7 F pp E.c s2).bind (fun sg s3=>(bH F E.c s3).bind fun b s4=>.ok (.mk 2 tx [ps,sg,b] pp) s4)=res by rw[<-ha.out,hP];rfl);refine(tO E F hF _ (adv (adv s)) N.rd (by rw[hP];exact nofun)).mono ?_;rw[hP];rintro e w4⟨⟨v,rfl,hv⟩,gt⟩;obtain⟨A4,c4,rfl,gz⟩:=hv.toC;have gz:=gz.mono (Y:=fun b=>w.heap.size+1<=b) (fun b hb _=>by omega);have ho:=gi.grown gt.gr;have hk:=N.trans gt;have h7:=gt.gr.size;clear hP ha N gi gt hv;go_wp2_with fail;have hh:=aq.new w4 24 (nv ps A4 c4);have U:=ho.alloc (.cells (nv ps A4 c4) 24);have gb:=hk.alloc (.cells (nv ps A4 c4) 24);have ge:=gz.keep (w':=w4.alloc (.cells (nv ps A4 c4) 24)) (fun b _ hlt=>jI w4 _ b hlt);(have h6:w4.heap.size+1=(w4.alloc (.cells (nv ps A4 c4) 24)).heap.size:=by simp);generalize hPP:w4.heap.size=P at *;generalize w4.alloc (.cells (nv ps A4 c4) 24)=w5 at *;clear ho hk gz hPP;cases hS:n7 F pp E.c s2 with
   |out=>exact absurd g9.out.symm (by rw[hS];exact ga.out)
   | ok sg s3=>
    have g8:=hid (show(bH F E.c s3).bind (fun b s4=>.ok (.mk 2 tx [ps,sg,b] pp) s4)=res by rw[<-g9.out,hS];rfl);refine(ra E F hF pp _ s2 gb.rd (by rw[hS];exact nofun)).mono ?_;rw[hS];rintro e w6⟨⟨v,rfl,hv⟩,gh⟩;obtain⟨A6,c6,rfl,gp⟩:=hv.toC;have gp:=gp.mono (Y:=fun b=>w.heap.size+1<=b) (fun b hb _=>by omega);have hn:=U.grown gh.gr;have hg:=hh.grown gh.gr;have ge:=ge.keep (w':=w6) (am.of_grown (X:=fun b=>w.heap.size+1<=b) gh.gr).block;have hj:=gb.trans gh;have h5:=gh.gr.size;clear hS g9 gb U hh gh hv;go_wp2_with fail;have g6:=aq.new w6 24 (nv sg A6 c6);have g7:=hg.alloc (.cells (nv sg A6 c6) 24);have hm:=hn.alloc (.cells (nv sg A6 c6) 24);have hi:=hj.alloc (.cells (nv sg A6 c6) 24);have gp:=gp.keep (w':=w6.alloc (.cells (nv sg A6 c6) 24)) (fun b _ hlt=>jI w6 _ b hlt);have ge:=ge.keep (w':=w6.alloc (.cells (nv sg A6 c6) 24)) (fun b _ hlt=>jI w6 _ b hlt);(have h4:w6.heap.size+1=(w6.alloc (.cells (nv sg A6 c6) 24)).heap.size:=by simp);generalize hQQ:w6.heap.size=Q at *;generalize w6.alloc (.cells (nv sg A6 c6) 24)=w7 at *;clear hn hj hQQ hg;have s7:=nI g7 g6;have ht:=nI g7.drew g6.drew;(have hy:P≠E.R:=by omega);(have hw:Q≠E.R:=by omega);(have gx:w.heap.size≠P:=by omega);(have gv:w.heap.size≠Q:=by omega);cases hB:bH F E.c s3 with
    |out=>exact absurd g8.out.symm (by rw[hB];exact ga.out)
    | ok b s4=>
     have HC:=hid (fun W(hr:aU E W s3)=>iT E F hF W s3 hr (by rw[hB];exact nofun));have HF:Hid (res=.ok (.mk 2 tx [ps,sg,b] pp) s4):=hid (by rw[<-g8.out,hB];rfl);rw[hB]at HC;clear g8 hB;go_region_held3 (fun w'=>w'.cell? ⟨P,0,none⟩=some (.int .i64 ps.kind)/\w'.cell? ⟨P,1,none⟩=some (.string ps.text)/\w'.cell? ⟨P,2,none⟩=some (.slice A4 ps.kids.length c4)/\w'.cell? ⟨P,3,none⟩=some (.int .i64 ps.pos)/\w'.cell? ⟨Q,0,none⟩=some (.int .i64 sg.kind)/\w'.cell? ⟨Q,1,none⟩=some (.string sg.text)/\w'.cell? ⟨Q,2,none⟩=some (.slice A6 sg.kids.length c6)/\w'.cell? ⟨Q,3,none⟩=some (.int .i64 sg.pos))
      (first|with_reducible exact s9 _ _ _ _|with_reducible exact hp|with_reducible exact hq _|with_reducible exact s8|with_reducible exact ht|with_reducible exact s7)
      (first
       |(go_at_call 76;refine(HC.out _ hi.drew.rd).mono ?_;rintro e w8⟨⟨v,rfl,hv⟩,O⟩;obtain⟨An,cn,rfl,h1⟩:=hv.toC;have gy:=g7.drew.grown O.gr (fun e=>hy (by injection e));have gw:=g6.drew.grown O.gr (fun e=>hw (by injection e));have s8:=nI gy gw;have hq:=fun o:Obj=>nI (gy.alloc o) (gw.alloc o))
       |(go_at_call 55;refine(aM _ _ _ _ _ ⟨_,_,_,rfl⟩).mono ?_;rintro e w9⟨rfl,gm⟩;have hf:=(gy.alloc _).below gm (by have:=gy.lt;simp;omega);have he:=(gw.alloc _).below gm (by have:=gw.lt;simp;omega);have hp:=nI hf he;have s9:=fun a b c d:Value=>nI ((((hf.far (p:=⟨w,0,none⟩) (by exact gx.symm) a).far (p:=⟨w,1,none⟩) (by exact gx.symm) b).far (p:=⟨w,2,none⟩) (by exact gx.symm) c).far (p:=⟨w,3,none⟩) (by exact gx.symm) d) ((((he.far (p:=⟨w,0,none⟩) (by exact gv.symm) a).far (p:=⟨w,1,none⟩) (by exact gv.symm) b).far (p:=⟨w,2,none⟩) (by exact gv.symm) c).far (p:=⟨w,3,none⟩) (by exact gv.symm) d);have hl:=((hm.drew.grown O.gr).alloc _).below gm (by have:=(hm.drew.grown O.gr).lt;simp;omega);obtain⟨g0,g1,g2,g3,k0,k1,k2,k3⟩:=ab hl))
     (all_goals go_wp2_with fail);have h3:w7.heap.size<=w8.heap.size:=O.gr.size;have h0:=(ge.keep (w:=w7) (w':=w7.drew) (fun _ _ _=>rfl)).keep (w':=w8) (am.of_grown (X:=fun b=>w.heap.size+1<=b) O.gr).block;have hz:=(gp.keep (w:=w7) (w':=w7.drew) (fun _ _ _=>rfl)).keep (w':=w8) (am.of_grown (X:=fun b=>w.heap.size+1<=b) O.gr).block;have h2:w7.drew.heap.size=w7.heap.size:=rfl;have hV:=af.make 3 rfl (ah.cons h0 (ah.cons hz (ah.one (h1.mono (Y:=fun b=>w.heap.size+1<=b) fun b hb _=>by omega)))) 2 tx pp gm;refine av HF.out hV (((hi.drew.trans O).alloc _).step gm) hl (gC _) gl ?_ rfl (by rfl) rfl;rintro b(⟨hb,_⟩|rfl)<;>constructor<;>omega
 | false=>
  refine(bB E s _ w1 gg.rd hA).mono ?_;rintro e w2⟨rfl,gs⟩;have gd:=gn.below gs.bel g4;have I:=gg.moved.trans gs.moved;have hu:=gs.bel.size;clear gn gg gs;go_wp2_with fail;cases hT:aP E.c s ⟨#[116,121,112,101]⟩with
  |true=>
   have HE:Hid (lx F (aD E.c s) E.c (adv s)=res):=hid (by rw[<-J.out,ib,gB (by rw[hA];decide),gG hT]);refine(aZ E s _ w2 I.rd hT).mono ?_;rintro e w3⟨rfl,M⟩;have gi:=gd.grown M.gr;have N:=I.trans M;have hc:=M.gr.size;clear J hA hT gd I M;go_wp2_with fail;refine(Ba E F hF (aD E.c s) _ (adv s) N.rd (by rw[HE.out];exact ga.out)).mono ?_;rw[HE.out];cases D:res with
   |out=>exact absurd D ga.out
   |ok n5 s5=>rintro e w5⟨⟨v5,rfl,gj⟩,gk⟩;obtain⟨A5,c5,rfl,ge⟩:=gj.toC;have U:=gi.grown gk.gr;have gb:=N.trans gk;obtain⟨d0,d1,d2,d3,e0,e1,e2,e3⟩:=ab U;go_wp2_with fail;refine av (by first|rfl|exact D) gj gb U (gC _) gl ?_ rfl (by rfl) rfl;intro b hb;constructor<;>omega
  |false=>
   have HE:Hid (d7 F E.c s=res):=hid (by rw[<-J.out,ib,gB (by rw[hA];decide),gB (by rw[hT];decide)]);refine(bB E s _ w2 I.rd hT).mono ?_;rintro e w3⟨rfl,gq⟩;have gi:=gd.bl gq.bel;have N:=I.trans gq.moved;have hc:=gq.bel.size;clear J hA hT gd I gq;go_wp2_with fail;refine(r9 E F hF _ s N.rd (by rw[HE.out];exact ga.out)).mono ?_;rw[HE.out];cases D:res with
   |out=>exact absurd D ga.out
   |ok n5 s5=>rintro e w5⟨⟨v5,rfl,gj⟩,gk⟩;obtain⟨A5,c5,rfl,ge⟩:=gj.toC;have U:=gi.grown gk.gr;have gb:=N.trans gk;obtain⟨d0,d1,d2,d3,e0,e1,e2,e3⟩:=ab U;go_wp2_with fail;refine av (by first|rfl|exact D) gj gb U (gC _) gl ?_ rfl (by rfl) rfl;intro b hb;constructor<;>omega
end
end Go.Proofs.YteialcjaiocjdaaGreatDoor
