/-
  Parts of the proof: Snote Squot Snext Shelf5 Sstep Tone. By an AI agent.
-/
import Derived.Test.YtcoiialmdncpfaaGreatDoorJ11
import Derived.Test.YtcoiialmdncpfaaGreatDoorJ00
import Derived.Test.YtcoiialmdncpfaaGreatDoorJ05
import Derived.Test.YtcoiialmdncpfaaGreatDoorJ01
import Derived.Test.YtcoiialmdncpfaaGreatDoorJ10
import Derived.Lib.SlBytesRow
import Derived.Shelf.Unicode.DecodeSlow
open Go.Proofs.Tryz
set_option maxRecDepth 100000
set_option maxHeartbeats 8000000
namespace Go.Proofs.YtcoiialmdncpfaaGreatDoor
section
open Go.RowKit Go.Lib Go.Proofs
attribute [local go_sem ↓] Go.wp_at_zero Go.wp_at_succ
theorem qU:type_of% @List.drop_zero:=@List.drop_zero
theorem xe:type_of% @Go.IntWalk.i32_in:=@Go.IntWalk.i32_in
theorem xi:type_of% @Go.Lib.extract_data:=@Go.Lib.extract_data
theorem rz:∀(l:List UInt8)(c:UInt8),Lib.indexByte l c<l.length
 |[],c=>by unfold Lib.indexByte;decide
 |b::l,c=>by
  have ih:=rz l c;unfold Lib.indexByte;simp only[gI];split
  ·omega
  ·split<;>omega
theorem uW(b:UInt8)(l:List UInt8)(c:UInt8)(h:b≠c):Lib.indexByte (b::l) c = -1\/1<=Lib.indexByte (b::l) c:=by
 have I:=Lib.indexByte_ge l c;unfold Lib.indexByte;rw[gE (by simpa using h)];split
 ·exact .inl rfl
 ·rename_i D;right;(have:Lib.indexByte l c ≠ -1:=by simpa using D);omega
def l5(l:List UInt8):Nat:=if Lib.indexByte l 10<0 then l.length else(Lib.indexByte l 10).toNat
theorem uX(l:List UInt8)(h:Lib.hasPrefix l [47,47]=true):1<=l5 l/\l5 l<=l.length:=by
 match l,h with
 |[],h=>simp[Lib.hasPrefix]at h
 |b::r,h=>
  (have hb:b≠10:=by rintro rfl;simp[Lib.hasPrefix]at h);have I:=uW b r 10 hb;have D:=rz (b::r) 10;unfold l5;split
  ·simp
  ·omega
def l6(s:ByteArray)(i:Nat)(l:List cz):Option MV:=
 if Lib.hasPrefix (s.data.toList.drop i) [47,47]=true then some (.go (i+l5 (s.data.toList.drop i)) l)
 else if Lib.hasPrefix (s.data.toList.drop i) [47,42]=true then
  if Lib.index ((s.data.toList.drop i).drop 2) [42,47]<0 then some (.bad i)
  else some (.go (i+((Lib.index ((s.data.toList.drop i).drop 2) [42,47]).toNat+4))
   (if Lib.contains ((s.data.toList.drop i).take ((Lib.index ((s.data.toList.drop i).drop 2) [42,47]).toNat+4)) [10]=true then lN l i else l))
 else none
abbrev NsC.push(c:NsC)(t:cz):NsC:=⟨c.ns++[t]⟩
def sF(s:ByteArray)(i j:Nat):cz:=⟨0,(s.extract i s.size).extract 0 (j-i),i⟩
def Cn[C:NsC](X:Nat)(s:ByteArray)(i:Nat)(w:World)(r:Option MV)(v:Value)(e:Ending)(w':World):Prop:=
 match r with
 |none=>e=.returned (.bool false)/\Below w w w'
 |some (.go j l) =>@sP (C.push (sF s i j)) X s w j l v e w'
 |some (.bad p)=>e=dO p/\Below X w w'
theorem ID[C:NsC](X:Nat)(s:ByteArray)(i:Nat)(l:List cz)(w:World)(h:ij w X s i l)(hT:bQ w)(hl:l.length+1<=65537)(gu:∀t∈l,t.text.size<=65536):
  Calls prog 164 #[X] w (Cn X s i w (l6 s i l) (.bool true)):=by
 obtain⟨lv,nv,gz⟩:=h.out;have hb:=gz.blk;have ho:=h.le;have g6:=h.most;have gg:=hb.lt;obtain⟨x0,x1,x2,x3,-,-,-,-⟩:=ah hb;(have p0:(0:Int)<=(i:Int):=by omega);(have p2:(i:Int)<=(s.size:Int):=by omega);have H1:=hid (fun w=>mh (s.extract i s.size) ⟨#[47,47]⟩ w);have H2:=hid (fun w=>mh (s.extract i s.size) ⟨#[47,42]⟩ w);have H3:=hid (fun w=>cF (s.extract i s.size) 10 w);have gn:=dA s i;have ge:=d8 s i;have H4:=hid (fun w'(hT:bQ w')=>yN ((s.extract i s.size).extract 2 (s.extract i s.size).size) ⟨#[42,47]⟩ w' hT (by rw[dA];omega));have H5:=hid (fun n w'(hT:bQ w')=>dz ((s.extract i s.size).extract 0 n) ⟨#[10]⟩ w' hT (by rw[gW];omega));have g0:l6 s i l=if Lib.hasPrefix (s.extract i s.size).data.toList [47,47]=true then some (.go (i+l5 (s.extract i s.size).data.toList) l)
  else if Lib.hasPrefix (s.extract i s.size).data.toList [47,42]=true then
  if Lib.index ((s.extract i s.size).data.toList.drop 2) [42,47]<0 then some (.bad i)
  else some (.go (i+((Lib.index ((s.extract i s.size).data.toList.drop 2) [42,47]).toNat+4))
   (if Lib.contains ((s.extract i s.size).data.toList.take ((Lib.index ((s.extract i s.size).data.toList.drop 2) [42,47]).toNat+4)) [10]=true then lN l i else l))
  else none:=by rw[ge];rfl
 have z:=hid g0;have gl:=hid (fun w'(h:ij w' X s i l)(hT:bQ w')=>ux X s i l (i:Int) hl w' h hT gu);have gs:=hid gn;have HT:=hid hT;have HH:=hid h;clear g0 ge gu gn hT h gz hb;(go_enter func164,ntmps164);go_wp2_with fail;go_quiet (fail);clear x0 x2 x3;have y1:(w.drewN nq).cell? ⟨X,1,none⟩=some (.int .i64 (i:Int)):=x1;clear x1;have y:=az (gC w.heap.size w) nq;generalize w.drewN nq=w1 at *;have hg:=hid (fun N:Nat=>show sF s i (i+N)=⟨0,(s.extract i s.size).extract 0 N,i⟩by unfold sF;rw[Nat.add_sub_cancel_left]);generalize s.extract i s.size=t at *;(have hj:t.size<=s.size:=by have:=gs.out;omega);rw[d8]at H4;have gt:t.data.toList.length=t.size:=rfl;have gr:=hid gt;clear gt;cases J:Lib.hasPrefix t.data.toList [47,47]
 case' true=>
  rw[J]at H1;have gp:=uX t.data.toList J;have HR:=hid (show l6 s i l=some (.go (i+l5 t.data.toList) l)by rw[z.out,gL J]);have g1:Hid (l5 t.data.toList=if Lib.indexByte t.data.toList 10<0 then t.size else(Lib.indexByte t.data.toList 10).toNat):=hid rfl;clear z H2 H4 H5 gl J;generalize l5 t.data.toList=N at *;(have ha:N<=t.size:=by rw[<-gr.out];exact gp.2);have hc:=gp.1;have ga:t.size=s.size-i:=gs.out;have HI:Hid (i+N<=s.size):=hid (by omega);have hf:=hid ga;clear gp ga;have hi:=hid (fun w=>show Calls prog 184 #[.string t,.int .u8 10] w (fun e w'=>e=.returned (.int .i64 (Lib.indexByte t.data.toList 10))/\w=w')from H3.out w);clear H3;generalize Lib.indexByte t.data.toList 10=ib at *;go_wp2_with fail;refine(H1.out _).mono ?_;rintro e w2⟨rfl,rfl⟩;go_wp2_with fail;refine(hi.out _).mono ?_;rintro e w2⟨rfl,rfl⟩;have gb:=HH.out.below y;have gi:Below X w w1:=y.mono (jV gg);have g7:i+N<=s.size:=HI.out;by_cases q:ib<0
  case' pos=>have hh:Hid (N=t.size):=hid (by have:=g1.out;rw[gL q]at this;exact this);(have gw:decide (ib<0)=true:=by rw[jB];exact q);clear q;(go_upto_region 14 with fail);rw[show(t.size:Int)=(N:Int)by rw[hh.out]]
  case' neg=>(obtain rfl:ib=(N:Int):=by have:=g1.out;rw[gE q]at this;omega);(have gw:decide ((N:Int)<0)=false:=by rw[gH];exact q);clear q;go_upto_region 14 with fail
 case' false=>
  rw[J]at H1;clear H3;cases I:Lib.hasPrefix t.data.toList [47,42]
  case false=>have HR:Hid (l6 s i l=none):=hid (by rw[z.out,gE (by rw[J];decide),gE (by rw[I];decide)]);rw[I]at H2;clear z H4 H5 gl J I;go_wp2_with fail;refine(H1.out _).mono ?_;rintro e w2⟨rfl,rfl⟩;go_wp2_with fail;refine(H2.out _).mono ?_;rintro e w2⟨rfl,rfl⟩;go_wp2_with fail;go_ret;rw[HR.out];exact⟨rfl,y⟩
  case' true=>
   have hn:2<=t.size:=by
    rw[<-gr.out];cases hq:t.data.toList with
    |nil=>rw[hq]at I;simp[Lib.hasPrefix]at I
    | cons a r=>cases r with
      |nil=>rw[hq]at I;simp[Lib.hasPrefix]at I
      |cons b r=>simp
   (have hk:(2:Int)<=(t.size:Int):=by omega);rw[I]at H2;have gd:=Lib.index_room (t.data.toList.drop 2) [42,47];have gx:=Lib.index_ge (t.data.toList.drop 2) [42,47];have M:=hid gd;have g3:=hid gx;have gk:=hid (show l6 s i l=if Lib.index (t.data.toList.drop 2) [42,47]<0 then some (.bad i)else some (.go (i+((Lib.index (t.data.toList.drop 2) [42,47]).toNat+4))
    (if Lib.contains (t.data.toList.take ((Lib.index (t.data.toList.drop 2) [42,47]).toNat+4)) [10]=true then lN l i else l))by rw[z.out,gE (by rw[J];decide),gL I])
   clear gd gx z J I;generalize Lib.index (t.data.toList.drop 2) [42,47]=ix at *;by_cases gh:ix<0
   case pos=>have HR:=hid (show l6 s i l=some (.bad i)by rw[gk.out,gL gh]);(have gm:decide (0<=ix)=false:=by rw[gH];omega);clear gk M g3 gh H5 gl;go_wp2_with fail;refine(H1.out _).mono ?_;rintro e w2⟨rfl,rfl⟩;go_wp2_with fail;refine(H2.out _).mono ?_;rintro e w2⟨rfl,rfl⟩;go_wp2_with fail;refine(H4.out _ (HT.out.below y)).mono ?_;rintro e w2⟨rfl,rfl⟩;go_wp2_with fail;refine(eK X i _).mono ?_;rintro e w2⟨rfl,rfl⟩;unfold dO;refine⟨rfl,?_⟩;rw[HR.out];exact⟨rfl,y.mono (jV gg)⟩
   case' neg=>
    obtain⟨k,rfl⟩:∃k:Nat,ix=(k:Int):=⟨ix.toNat,by omega⟩
    (have hp:k+4<=t.size:=by have:=M.out (by omega);rw[jE,gr.out]at this;simp at this;omega);(have gm:decide ((0:Int)<=(k:Int))=true:=by rw[jB];omega);have gj:=hid (show l6 s i l=some (.go (i+(k+4)) (if Lib.contains (t.data.toList.take (k+4)) [10]=true then lN l i else l))by rw[gk.out,gE gh];rfl);have q4:IntKind.i64.wrap ((k:Int)+4)=(k:Int)+4:=gQ _ (by omega);have ga:t.size=s.size-i:=gs.out;have HI:Hid (i+(k+4)<=s.size):=hid (by omega);have H6:=hid (fun w'(hT:bQ w')=>H5.out (k+4) w' hT);(have ge:(t.extract 0 (k+4)).data.toList=t.data.toList.take (k+4):=by rw[xi];simp);rw[ge]at H6;have hf:=hid ga;clear gk M g3 gh H5 ga ge;generalize Lib.contains (t.data.toList.take (k+4)) [10]=cn at *;go_wp2_with fail;refine(H1.out _).mono ?_;rintro e w2⟨rfl,rfl⟩;go_wp2_with fail;refine(H2.out _).mono ?_;rintro e w2⟨rfl,rfl⟩;go_wp2_with fail;refine(H4.out _ (HT.out.below y)).mono ?_;rintro e w2⟨rfl,rfl⟩;go_wp2_with fail;refine(iq X i _).mono ?_;rintro e w2⟨rfl,rfl⟩;(go_upto_region 12 with fail);rw[show(k:Int)+4=((k+4:Nat):Int)by omega];(have hc:1<=k+4:=by omega);clear gm q4;generalize k+4=N at *;(have ha:(N:Int)<=(t.size:Int):=by omega);(have hs:(0:Int)<=(N:Int):=by omega);have g7:i+N<=s.size:=HI.out;cases x:cn
    case' false=>have HR:=hid (show l6 s i l=some (.go (i+N) l)by rw[gj.out,x];rfl);rw[x]at H6;clear gj x;go_wp2_with fail;refine(H6.out _ (HT.out.below y)).mono ?_;rintro e w2⟨rfl,rfl⟩;have gb:=HH.out.below y;have gi:Below X w w1:=y.mono (jV gg);go_upto_region 14 with fail
    case' true=>have HR:=hid (show l6 s i l=some (.go (i+N) (lN l i))by rw[gj.out,x];rfl);rw[x]at H6;clear gj x;go_wp2_with fail;refine(H6.out _ (HT.out.below y)).mono ?_;rintro e w2⟨rfl,rfl⟩;go_wp2_with fail;refine(gl.out _ (HH.out.below y) (HT.out.below y)).mono ?_;rintro e w1⟨rfl,gb,g9⟩;have gi:Below X w w1:=(y.mono (jV gg)).trans g9;go_upto_region 14 with fail
 all_goals
  obtain⟨g4,hm,O⟩:=gb.out;obtain⟨x0,x1,x2,x3,f0,f1,f2,f3⟩:=ah O.blk;have qn:IntKind.i64.wrap ((i:Int)+(N:Int))=(i:Int)+(N:Int):=gQ _ (by omega);have D:=O.set (i+N) (by omega);rw[show((i+N:Nat):Int)=(i:Int)+(N:Int)by omega]at D;have g2:=hid D;have he:Below X w (w1.setCell ⟨X,1,none⟩ (.int .i64 ((i:Int)+(N:Int)))):=gi.setCell (gA _) _;have gv:=O.nfew;have gy:=gb.few;clear D O gb gi;(go_upto_region 15 with fail);generalize w1.setCell ⟨X,1,none⟩ (.int .i64 ((i:Int)+(N:Int)))=w7 at *;clear x0 x1 x2 x3 f0 f1 f2 f3;have D:=g2.out;have hN:=D.notes;have hr:=D.blk.lt;obtain⟨x0,x1,x2,x3,f0,f1,f2,f3⟩:=ah D.blk;obtain⟨A0,c0,g5,_⟩:=hN.form;subst g5;(have p7:(N:Int)<=(t.size:Int):=by omega);generalize hns:C.ns=ns1 at hN D gv;go_region_law (first
   |(refine ul (by rfl) (.tmp 60) (.tmp 66) (by rfl) (X+1) _ _ ns1 ⟨0,t.extract 0 N,i⟩ (by rfl) _ (by rfl) (by simp) (hN.below (gC _ _).drew) (by simp;omega) (by omega) ?_;intro g c w8 gq;have g8:=(aa.drew D.blk).below gq.bel (jO _);obtain⟨z0,z1,z2,z3,y0,y1,y2,y3⟩:=ah g8))
  all_goals(go_wp2_with fail);go_ret;rw[HR.out];change @sP (C.push (sF s i (i+N))) X s w (i+N) _ (.bool true) _ _;unfold sP;refine⟨rfl,@ij.mk (C.push (sF s i (i+N))) _ _ _ _ _ ⟨g4,.slice (some ⟨g,0,none⟩) (ns1.length+1) c,?_⟩ (by omega) g6 gy,((he.drew).trans (gq.bel.mono (jC _))).setCell (gA _) _⟩;unfold NsC.push;simp only[hns];rw[hg.out];exact(D.below (gC _ _).drew).noteRow gq (by rw[gJ];simp;omega)
def yQ(s:ByteArray)(i:Nat)(l:List cz):MV:=
 match bz (ai s i) (s.data.toList.drop (i+1)) false 0 with
 |some k=>.go (i+k+2) (l++[⟨5,s.extract i (i+k+2),i⟩])
 |none=>.bad i
theorem lw(t:ByteArray)(j:Nat)(h:j<t.size):∃c r,t.data.toList.drop j=c::r/\c.toNat=ai t j/\r=t.data.toList.drop (j+1):=by have h':j<t.data.toList.length:=h;refine⟨t.data.toList[j],t.data.toList.drop (j+1),jX h',?_,rfl⟩;unfold ai;rw[jJ,gO h'];rfl
theorem rA(en:Nat):∀(l:List UInt8)(b:Bool)(k m:Nat),bz en l b k=some m->m<k+l.length
 |[],b,k,m,h=>by cases b<;>simp[bz]at h
 |c::r,true,k,m,h=>by
  rw[bz]at h;split at h
  ·cases h
  ·have:=rA en r false (k+1) m h;simp only[gI];omega
 | c::r,false,k,m,h=>by
  rw[bz]at h;simp only[gI];split at h
  ·have:=rA en r true (k+1) m h;omega
  ·split at h
   ·injection h with h;omega
   ·split at h
    ·cases h
    ·have:=rA en r false (k+1) m h;omega
theorem DX[NsC](X:Nat)(s:ByteArray)(i:Nat)(l:List cz)(w:World)(h:ij w X s i l)(hi:i<s.size)(hl:l.length+1<=65537)(en:Nat)(hf:en=34\/en=96)(gq:ai s i=en):
  Calls prog 172 #[X] w (iX X s w (yQ s i l) (.tuple #[])):=by
 obtain⟨lv,nv,g7⟩:=h.out;have hb:=g7.blk;have ho:=h.le;have hn:=h.most;have gj:=hb.lt;have HH:=hid h;obtain⟨x0,x1,x2,x3,-,-,-,-⟩:=ah hb;(have p0:(0:Int)<=(i:Int):=by omega);(have p2:(i:Int)<(s.size:Int):=by omega);(have p3:(i:Int)+1<=(s.size:Int):=by omega);have q1:IntKind.i64.wrap ((i:Int)+1)=(i:Int)+1:=gQ _ (by omega);have gl:=fun W=>ce s i hi W;rw[gq]at gl;have hR:∀R,bz en (s.data.toList.drop (i+1)) false 0=R->yQ s i l=match R with
   |some k=>.go (i+k+2) (l++[⟨5,s.extract i (i+k+2),i⟩])
   |none=>.bad i:=by rintro R rfl;unfold yQ;rw[gq]
 have z:=hid hR;have g4:=rA en (s.data.toList.drop (i+1)) false 0;generalize hQ:bz en (s.data.toList.drop (i+1)) false 0=R at *;have HR:=hid (z.out R rfl);have ha:Hid (∀m,R=some m->i+m+2<=s.size):=hid (by intro m hm;have:=g4 m hm;rw[jE]at this;have hk:s.data.toList.length=s.size:=rfl;omega);have g5:=dA s (i+1);have g6:=d8 s (i+1);rw[<-g6]at hQ;have hs:=hid g5;have g9:=hid hQ;clear g5 g6 hQ g4 z hR hb g7 h gq hi;rcases hf with rfl|rfl
 ·(go_enter func172,ntmps172);go_wp2_with fail;have gd:=qJ w (s.extract (i+1) s.size) 0;have gt:Below w w (w.iter (s.extract (i+1) s.size) 0):=(gC _ w).alloc (gA _) _;generalize s.extract (i+1) s.size=t at *;clear x0 x1 x2 x3 gl;go_loopg [4,5,6,25,26] t.size (fun g u4 _ _ _ _ wr=>∃(j:Nat)(sl:Bool),j<=t.size/\t.size-j<=g/\u4=.bool sl/\wr.heap[w.heap.size]? = some (.stringIter t j)/\Below w w wr/\bz 34 (t.data.toList.drop j) sl j=R)
  case atStart=>exact⟨0,false,gT _,by omega,rfl,gd,gt,by rw[qU];exact g9.out⟩
  case round=>
   clear gd gt;obtain⟨j,sl,hj,hg,rfl,hit,hB,hq⟩:=hrel;have ga:=hid hit;have z:=hid hq;clear hit hq;by_cases M:j<t.size
   ·have I:=fun ty=>qV (P:=prog) wr w.heap.size t j ty ga.out M;by_cases gb:ai t j<128
    ·obtain⟨c,rr,gr,gs,gp⟩:=lw t j M;have hd:=io t j gb;rw[hd]at I;rw[gr]at z;have gh:=hid gp;have J:=hid gs;have j1:=qZ wr w.heap.size t j (j+1) ga.out;have x:Below w w (wr.iterAt w.heap.size t (j+1)):=bx hB (gA _);generalize wr.iterAt w.heap.size t (j+1)=W1 at I j1 x;have J1:=hid j1;clear hd gr gs gp j1;generalize ai t j=bb at *;cases sl with
     | true=>
      by_cases D:bb=10
      ·subst D;have O:Hid (R=none):=hid (by rw[<-z.out,bz,gL J.out]);go_wp2_with fail;refine(eK X i _).mono ?_;rintro e w2⟨rfl,rfl⟩;unfold dO;refine⟨rfl,?_⟩;rw[HR.out,O.out];exact⟨rfl,x.mono (jV gj)⟩
      ·(have gu:((bb:Int) != 10)=true:=by rw[kE];omega);have O:Hid (bz 34 rr false (j+1)=R):=hid (by rw[<-z.out,bz,gE (by rw[J.out];exact D)]);clear D;go_wp2_with fail;refine(iq X _ _).mono ?_;rintro e w2⟨rfl,rfl⟩;go_wp2_with fail;go_roundg (t.size-(j+1))
       case measure=>omega
       case rel=>exact⟨j+1,false,by omega,gA _,rfl,J1.out,x,by rw[<-gh.out];exact O.out⟩
     | false=>
      by_cases gn:bb=34
      ·subst gn;have O:Hid (R=some j):=hid (by rw[<-z.out,bz,gE (by rw[J.out];omega),gL J.out]);have g0:=ha.out j O.out;have gi:=HH.out.below x;obtain⟨he,hc,gg⟩:=gi.out;obtain⟨x0,x1,x2,x3,f0,f1,f2,f3⟩:=ah gg.blk;have q2:IntKind.i64.wrap ((i:Int)+(j:Int))=(i:Int)+(j:Int):=gQ _ (by omega);have q3:IntKind.i64.wrap ((i:Int)+(j:Int)+2)=(i:Int)+(j:Int)+2:=gQ _ (by omega);have y:=gi.set (i+j+2) (by omega) g0;rw[show((i+j+2:Nat):Int)=(i:Int)+(j:Int)+2 by omega]at y;have gv:=hid y;clear y gg gi;go_wp2_with fail;refine(iD X s (i+j+2) l 5 i (by omega) hl _ gv.out).mono ?_;rintro e w4⟨rfl,gx,g1⟩;go_wp2_with fail;refine jD (qI rfl _ _ _) rfl ?_;rw[HR.out,O.out];exact⟨rfl,gx,((x.mono (jV gj)).setCell (gA _) _).trans g1⟩
      ·by_cases ge:bb=92
       ·subst ge;have O:Hid (bz 34 rr true (j+1)=R):=hid (by rw[<-z.out,bz,gL ⟨J.out,rfl⟩]);go_wp2_with fail;go_roundg (t.size-(j+1))
        case measure=>omega
        case rel=>exact⟨j+1,true,by omega,gA _,rfl,J1.out,x,by rw[<-gh.out];exact O.out⟩
       ·by_cases D:bb=10
        ·subst D;have O:Hid (R=none):=hid (by rw[<-z.out,bz,gE (by rw[J.out];omega),gE (by rw[J.out];omega),gL ⟨J.out,by omega⟩]);go_wp2_with fail;refine(eK X i _).mono ?_;rintro e w2⟨rfl,rfl⟩;unfold dO;refine⟨rfl,?_⟩;rw[HR.out,O.out];exact⟨rfl,x.mono (jV gj)⟩
        ·have O:Hid (bz 34 rr false (j+1)=R):=hid (by rw[<-z.out,bz,gE (by rw[J.out];omega),gE (by rw[J.out];omega),gE (by rw[J.out];omega)]);(have g2:((bb:Int)==92)=false:=by rw[gD];omega);(have hr:((bb:Int)==34)=false:=by rw[gD];omega);(have gu:((bb:Int)==10)=false:=by rw[gD];omega);clear gn ge D;go_wp2_with fail;go_roundg (t.size-(j+1))
         case measure=>omega
         case rel=>exact⟨j+1,false,by omega,gA _,rfl,J1.out,x,by rw[<-gh.out];exact O.out⟩
    ·have hh:=eC t j M (by omega);have gm:=hid (fun b=>oe 34 (by omega) (Utf8.decode t j).2 (t.data.toList.drop j) b j (by rw[jE];have:t.data.toList.length=t.size:=rfl;omega) (fun m hm=>by have:=hh.2.2.2 m hm;unfold ai at this;rw[jJ,vT,<-jJ];exact this));have gz:=hh.1;have gy:=hh.2.1;have yk:=hh.2.2.1;clear hh gb;generalize Utf8.decode t j=q at *;obtain⟨r,k⟩:=q;simp only at gz gy yk I gm;have gw:Hid (bz 34 (t.data.toList.drop (j+k)) false (j+k)=R):=hid (by have:=gm.out sl;rw[z.out,List.drop_drop]at this;rw[this,show(k==0)=false by rw[gD];omega,Bool.and_false]);clear gm;have j1:=qZ wr w.heap.size t j (j+k) ga.out;have x:Below w w (wr.iterAt w.heap.size t (j+k)):=bx hB (gA _);generalize wr.iterAt w.heap.size t (j+k)=W1 at I j1 x;have J1:=hid j1;clear j1;(have g8:((r:Int) != 10)=true:=by rw[kE];omega);(have gu:((r:Int)==10)=false:=by rw[gD];omega);(have g2:((r:Int)==92)=false:=by rw[gD];omega);(have een:((r:Int)==34)=false:=by rw[gD];omega);cases sl with
     |true=>
      go_wp2_with fail;refine(iq X _ _).mono ?_;rintro e w2⟨rfl,rfl⟩;go_wp2_with fail;go_roundg (t.size-(j+k))
      case measure=>omega
      case rel=>exact⟨j+k,false,yk,gA _,rfl,J1.out,x,gw.out⟩
     |false=>
      go_wp2_with fail;go_roundg (t.size-(j+k))
      case measure=>omega
      case rel=>exact⟨j+k,false,yk,gA _,rfl,J1.out,x,gw.out⟩
   ·have g3:=fun ty=>qL (P:=prog) wr w.heap.size t j ty ga.out M;have O:Hid (R=none):=hid (by rw[<-z.out,jZ (by have:t.data.toList.length=t.size:=rfl;omega)];cases sl<;>rfl);go_wp2_with fail;refine(eK X i _).mono ?_;rintro e w2⟨rfl,rfl⟩;unfold dO;refine⟨rfl,?_⟩;rw[HR.out,O.out];exact⟨rfl,hB.mono (jV gj)⟩
 ·(go_enter func172,ntmps172);go_wp2_with fail;have gd:=qJ w (s.extract (i+1) s.size) 0;have gt:Below w w (w.iter (s.extract (i+1) s.size) 0):=(gC _ w).alloc (gA _) _;generalize s.extract (i+1) s.size=t at *;clear x0 x1 x2 x3 gl;go_loopg [4,5,6,25,26] t.size (fun g u4 _ _ _ _ wr=>∃(j:Nat)(sl:Bool),j<=t.size/\t.size-j<=g/\u4=.bool sl/\wr.heap[w.heap.size]? = some (.stringIter t j)/\Below w w wr/\bz 96 (t.data.toList.drop j) sl j=R)
  case atStart=>exact⟨0,false,gT _,by omega,rfl,gd,gt,by rw[qU];exact g9.out⟩
  case round=>
   clear gd gt;obtain⟨j,sl,hj,hg,rfl,hit,hB,hq⟩:=hrel;have ga:=hid hit;have z:=hid hq;clear hit hq;by_cases M:j<t.size
   ·have I:=fun ty=>qV (P:=prog) wr w.heap.size t j ty ga.out M;by_cases gb:ai t j<128
    ·obtain⟨c,rr,gr,gs,gp⟩:=lw t j M;have hd:=io t j gb;rw[hd]at I;rw[gr]at z;have gh:=hid gp;have J:=hid gs;have j1:=qZ wr w.heap.size t j (j+1) ga.out;have x:Below w w (wr.iterAt w.heap.size t (j+1)):=bx hB (gA _);generalize wr.iterAt w.heap.size t (j+1)=W1 at I j1 x;have J1:=hid j1;clear hd gr gs gp j1;generalize ai t j=bb at *;cases sl with
     | true=>
      by_cases D:bb=10
      ·subst D;have O:Hid (R=none):=hid (by rw[<-z.out,bz,gL J.out]);go_wp2_with fail;refine(eK X i _).mono ?_;rintro e w2⟨rfl,rfl⟩;unfold dO;refine⟨rfl,?_⟩;rw[HR.out,O.out];exact⟨rfl,x.mono (jV gj)⟩
      ·(have gu:((bb:Int) != 10)=true:=by rw[kE];omega);have O:Hid (bz 96 rr false (j+1)=R):=hid (by rw[<-z.out,bz,gE (by rw[J.out];exact D)]);clear D;go_wp2_with fail;refine(iq X _ _).mono ?_;rintro e w2⟨rfl,rfl⟩;go_wp2_with fail;go_roundg (t.size-(j+1))
       case measure=>omega
       case rel=>exact⟨j+1,false,by omega,gA _,rfl,J1.out,x,by rw[<-gh.out];exact O.out⟩
     | false=>
      by_cases gn:bb=96
      ·subst gn;have O:Hid (R=some j):=hid (by rw[<-z.out,bz,gE (by rw[J.out];omega),gL J.out]);have g0:=ha.out j O.out;have gi:=HH.out.below x;obtain⟨he,hc,gg⟩:=gi.out;obtain⟨x0,x1,x2,x3,f0,f1,f2,f3⟩:=ah gg.blk;have q2:IntKind.i64.wrap ((i:Int)+(j:Int))=(i:Int)+(j:Int):=gQ _ (by omega);have q3:IntKind.i64.wrap ((i:Int)+(j:Int)+2)=(i:Int)+(j:Int)+2:=gQ _ (by omega);have y:=gi.set (i+j+2) (by omega) g0;rw[show((i+j+2:Nat):Int)=(i:Int)+(j:Int)+2 by omega]at y;have gv:=hid y;clear y gg gi;go_wp2_with fail;refine(iD X s (i+j+2) l 5 i (by omega) hl _ gv.out).mono ?_;rintro e w4⟨rfl,gx,g1⟩;go_wp2_with fail;refine jD (qI rfl _ _ _) rfl ?_;rw[HR.out,O.out];exact⟨rfl,gx,((x.mono (jV gj)).setCell (gA _) _).trans g1⟩
      ·by_cases D:bb=10
       ·subst D;have O:Hid (bz 96 rr false (j+1)=R):=hid (by rw[<-z.out,bz,gE (by omega),gE (by rw[J.out];omega),gE (by omega)]);go_wp2_with fail;refine(iq X _ _).mono ?_;rintro e w2⟨rfl,rfl⟩;go_wp2_with fail;go_roundg (t.size-(j+1))
        case measure=>omega
        case rel=>exact⟨j+1,false,by omega,gA _,rfl,J1.out,x,by rw[<-gh.out];exact O.out⟩
       ·by_cases ge:bb=92
        ·subst ge;have O:Hid (bz 96 rr false (j+1)=R):=hid (by rw[<-z.out,bz,gE (by omega),gE (by rw[J.out];omega),gE (by omega)]);clear gn D;go_wp2_with fail;go_roundg (t.size-(j+1))
         case measure=>omega
         case rel=>exact⟨j+1,false,by omega,gA _,rfl,J1.out,x,by rw[<-gh.out];exact O.out⟩
        ·have O:Hid (bz 96 rr false (j+1)=R):=hid (by rw[<-z.out,bz,gE (by omega),gE (by rw[J.out];omega),gE (by omega)]);(have g2:((bb:Int)==92)=false:=by rw[gD];omega);(have hp:((bb:Int)==96)=false:=by rw[gD];omega);(have gu:((bb:Int)==10)=false:=by rw[gD];omega);clear gn ge D;go_wp2_with fail;go_roundg (t.size-(j+1))
         case measure=>omega
         case rel=>exact⟨j+1,false,by omega,gA _,rfl,J1.out,x,by rw[<-gh.out];exact O.out⟩
    ·have hh:=eC t j M (by omega);have gm:=hid (fun b=>oe 96 (by omega) (Utf8.decode t j).2 (t.data.toList.drop j) b j (by rw[jE];have:t.data.toList.length=t.size:=rfl;omega) (fun m hm=>by have:=hh.2.2.2 m hm;unfold ai at this;rw[jJ,vT,<-jJ];exact this));have gz:=hh.1;have gy:=hh.2.1;have yk:=hh.2.2.1;clear hh gb;generalize Utf8.decode t j=q at *;obtain⟨r,k⟩:=q;simp only at gz gy yk I gm;have gw:Hid (bz 96 (t.data.toList.drop (j+k)) false (j+k)=R):=hid (by have:=gm.out sl;rw[z.out,List.drop_drop]at this;rw[this,show(k==0)=false by rw[gD];omega,Bool.and_false]);clear gm;have j1:=qZ wr w.heap.size t j (j+k) ga.out;have x:Below w w (wr.iterAt w.heap.size t (j+k)):=bx hB (gA _);generalize wr.iterAt w.heap.size t (j+k)=W1 at I j1 x;have J1:=hid j1;clear j1;(have g8:((r:Int) != 10)=true:=by rw[kE];omega);(have gu:((r:Int)==10)=false:=by rw[gD];omega);(have g2:((r:Int)==92)=false:=by rw[gD];omega);(have een:((r:Int)==96)=false:=by rw[gD];omega);cases sl with
     |true=>
      go_wp2_with fail;refine(iq X _ _).mono ?_;rintro e w2⟨rfl,rfl⟩;go_wp2_with fail;go_roundg (t.size-(j+k))
      case measure=>omega
      case rel=>exact⟨j+k,false,yk,gA _,rfl,J1.out,x,gw.out⟩
     |false=>
      go_wp2_with fail;go_roundg (t.size-(j+k))
      case measure=>omega
      case rel=>exact⟨j+k,false,yk,gA _,rfl,J1.out,x,gw.out⟩
   ·have g3:=fun ty=>qL (P:=prog) wr w.heap.size t j ty ga.out M;have O:Hid (R=none):=hid (by rw[<-z.out,jZ (by have:t.data.toList.length=t.size:=rfl;omega)];cases sl<;>rfl);go_wp2_with fail;refine(eK X i _).mono ?_;rintro e w2⟨rfl,rfl⟩;unfold dO;refine⟨rfl,?_⟩;rw[HR.out,O.out];exact⟨rfl,hB.mono (jV gj)⟩
theorem IE(k:Int)(D:k=0\/k=1\/k=2)(w:World):(Instr.index 221 (.agg #[.int .i64 1,.int .i64 2,.int .i64 3]) (.int .i64 k)).run prog w=.ok (.int .i64 (k+1)) w:=by rcases D with rfl|rfl|rfl;all_goals simp[Instr.index,run_underlying underlying221,asIntOf,go_sem]
theorem Co(s:ByteArray):cr s=0\/cr s=1\/cr s=2:=by
 unfold cr;split
 ·exact .inr (.inl rfl)
 ·split
  ·exact .inr (.inr rfl)
  ·exact .inl rfl
theorem DY(l:List UInt8):d7 l<=l.length:=by unfold d7;exact(List.takeWhile_sublist _).length_le
theorem Pe{l:List UInt8}(h:Lib.hasPrefix l [239,187,191]=true):3<=l.length:=(List.isPrefixOf_iff_prefix.1 h).length_le
end
section
open Go.RowKit Go.Lib Go.Proofs
structure fQ(w:World):Prop where
 tab:bQ w
 u8:Lib.Utf8Tabs 3 4 w
theorem fQ.below{w w':World}(h:fQ w)(hb:Below w w w'):fQ w':=⟨h.tab.below hb,Go.Proofs.Utf8Tabs_below h.u8 hb⟩
theorem yq(g o c j:Nat)(s:ByteArray)(w:World)(hT:fQ w)(hb:Lib.Bytes w g o s)(I:j<s.size):
  Calls prog 162 #[.slice (some ⟨g,o+j,none⟩) (s.size-j) (c-j)] w fun e w'=>e=.returned (.tuple #[.int .i32 (Utf8.decode s j).1,.int .i64 (Utf8.decode s j).2])/\Below w w w':=by(have D:(s.extract j s.size).size=s.size-j:=by rw[gW];omega);have h:=Any7.utf8_DecodeRune Tryz.laysDecode (s.extract j s.size) g (o+j) (c-j) w hT.u8 (fun m hm=>by rw[D]at hm;rw[uy,eD,show o+j+m=o+(j+m)by omega,hb (j+m) (by omega)];(have:(s[j+m]'(by omega)).toNat=ai s (j+m):=by unfold ai;rw[jJ,gO (by show j+m<s.data.toList.length;have:s.data.toList.length=s.size:=rfl;omega)];rfl);rw[this]);rw[D]at h;(have hd:Lib.decodeGo (s.extract j s.size)=Utf8.decode s j:=by unfold Lib.decodeGo;rw[gE (by rw[D];omega),BP,kF]);rw[hd]at h;exact h
theorem uz(s old new:ByteArray)(w:World)(hT:bQ w)(M:s.size<=65536)(J:1<=old.size)(D:new.size=0):
  Calls prog 185 #[s,old,new] w fun e w'=>
   e=.returned (.string ⟨(Lib.replaceAll s.data.toList old.data.toList new.data.toList).toArray⟩)/\Below w w w':=by obtain⟨m,I⟩:=hT;exact Any.strings_ReplaceAll Tryz.laysReplace Tryz.xReplace s old new m w (by omega) I J (by rw[D];omega)
theorem dJ(r:Int)(w:World):Calls prog 229 #[.int .i32 r] w fun e w'=>e=.returned (.bool (Lib.validRune r))/\w'=w:=by exact(Any.utf8_ValidRune Tryz.laysValid r w)
def MI(B b:Nat)(bs:List Value)(w:World):Prop:=Lib.IsBuilder 264 5 B b bs w
theorem tK(B b:Nat)(bs:List Value)(s:ByteArray)(w:World)(h:MI B b bs w)(D:bs.length+s.size<=140737488355328)(I:B<=w.heap.size):
  Calls prog 231 #[b,s] w fun e w'=>(∃v,e=.returned v)/\MI B b (bs++Lib.strCells s) w'/\Below B w w':=
 (Any.Builder_WriteString (P:=prog) (ρ:=Tryz.laysReplace_ren) { Tryz.laysReplace with } Tryz.xReplace B b bs s w h D I).mono fun _ _ h=>⟨⟨_,h.1⟩,.inr h.2.1,h.2.2⟩
def NW:Go.Shelf.Ren:={ Tryz.laysReplace_ren with f:=fun|167=>232|n=>Tryz.laysReplace_ren.f n }
theorem Ob:Go.Proofs.Lays.n167 prog NW:=
 {Tryz.laysReplace with
  f167:=func232.trans (qD some (by kernel_rfl))
  f240:=func278.trans (qD some (by kernel_rfl))
  f276:=Tryz.laysReplace.f276.trans (qD some (by kernel_rfl)) }
theorem PK:Go.Proofs.Builder.Extra prog NW:={
 sizeBuilder:=by kernel_rfl
 liesBuilder:=by kernel_rfl
 t5:=underlying5
 a5:=isAgg5
 z5:=sizeOf5
 v5:=zeroValue5
 infoByte:=by kernel_rfl
 cellsByte:=by kernel_rfl
 sizeByte:=by kernel_rfl
 neB5:=by decide }
theorem yr(B b:Nat)(bs:List Value)(c:Int)(w:World)(h:MI B b bs w)(D:bs.length+1<=140737488355328)(I:B<=w.heap.size):
  Calls prog 232 #[b,.int .u8 c] w fun e w'=>e=.returned .nilIface/\MI B b (bs++[.int .u8 c]) w'/\Below B w w':=
 (Any.Builder_WriteByte Ob PK B b bs c w h D I).mono fun _ _ h=>⟨h.1,.inr h.2.1,h.2.2⟩
theorem BQ(B b:Nat)(l:List UInt8)(w:World)(h:MI B b (Lib.byteCells l) w)(D:B<=w.heap.size):
  Calls prog 233 #[b] w fun e w'=>e=.returned (.string ⟨l.toArray⟩)/\Below B w w':=
 Any.Builder_String_any Tryz.laysBString Tryz.xBString B b l w h D
def mm(s:ByteArray)(i:Nat)(l:List cz):MV:=
 if i=0/\Lib.hasPrefix s.data.toList [239,187,191]=true then .go 3 l
 else if ai s i=10 then .go (i+1) (lN l i)
 else if ai s i=32\/ai s i=9\/ai s i=13 then .go (i+1) l
 else match l6 s i l with
  |some r=>r
  |none=>
   if bD (ai s i:Int)=true then .go (i+d7 (s.data.toList.drop i)) (l++[⟨cr (s.extract i (i+d7 (s.data.toList.drop i)))+1,s.extract i (i+d7 (s.data.toList.drop i)),i⟩])
   else if aT (ai s i:Int)=true then .go (i+d7 (s.data.toList.drop i)) (l++[⟨4,s.extract i (i+d7 (s.data.toList.drop i)),i⟩])
   else if ai s i=34\/ai s i=96 then yQ s i l
   else mI s i l
def AT(s:ByteArray)(i:Nat)(l:List cz):Bool:=
 !(decide (i=0/\Lib.hasPrefix s.data.toList [239,187,191]=true)) && !(decide (ai s i=10)) && !(decide (ai s i=32\/ai s i=9\/ai s i=13))&&(l6 s i l).isSome
def nn(s:ByteArray)(i:Nat)(l:List cz)(j:Nat)(ns:List cz):List cz:=if AT s i l=true then ns++[sF s i j]else ns
def uY[C:NsC](X:Nat)(s:ByteArray)(i:Nat)(l:List cz)(w:World)(r:MV)(e:Ending)(w':World):Prop:=
 match r with
 | .go j l' =>@sP ⟨nn s i l j C.ns⟩ X s w j l' (.tuple #[]) e w'
 | .bad p=>e=dO p/\Below X w w'
inductive NZ where
 |ok (l:List cz)
 |bad (p:Nat)
def mn(s:ByteArray):Nat->Nat->List cz->NZ
 |0,_,_=>.bad 0
 | g+1,i,l=>
  if i<s.size then
   match mm s i l with
   | .go j l'=>mn s g j l'
   | .bad p=>.bad p
  else .ok (lN l (s.size:Int))
def ol(s:ByteArray):Nat->Nat->List cz->List cz->List cz
 |0,_,_,ns=>ns
 | g+1,i,l,ns=>
  if i<s.size then
   match mm s i l with
   | .go j l'=>ol s g j l' (nn s i l j ns)
   | .bad _=>ns
  else ns
inductive tb where
 |toks (l:List cz)
 |err (p:Int) (e:Int)
def EU:NZ->tb
 | .ok l=>.toks l
 | .bad p=>.err p 3
def ex(s:ByteArray):tb:=
 if 65536<s.size then .err 65536 12
 else match mT s with
  |some p=>.err p 2
  |none=>EU (mn s (s.size+1) 0 [])
def fV(s:ByteArray):List cz:=ol s (s.size+1) 0 [] []
def Ou(t:cz):Prop:=t.text.size<=65536/\(t.kind=5\/t.text.size<=3\/∀x r,t.text.data.toList=x::r->bG (x.toNat:Int)=true)
def lR(i:Nat)(l:List cz):Prop:=l.length<=i/\∀t∈l,Ou t
theorem lR.push{i j:Nat}{l:List cz}{t:cz}(h:lR i l)(J:i+1<=j)(I:Ou t):lR j (l++[t]):=by
 refine⟨by rw[gJ];have:=h.1;simp;omega,fun u D=>?_⟩;rcases List.mem_append.1 D with D|D
 ·exact h.2 u D
 ·(obtain rfl:u=t:=by simpa using D);exact I
theorem lR.le{i j:Nat}{l:List cz}(h:lR i l)(D:i<=j):lR j l:=⟨gM h.1 D,h.2⟩
theorem lR.line{i j:Nat}{l:List cz}(h:lR i l)(D:i+1<=j)(p:Int):lR j (lN l p):=by
 unfold lN;split
 ·exact h.push D ⟨show(1:Nat)<=65536 by decide,.inr (.inl (show(1:Nat)<=3 by decide))⟩
 ·exact h.le (by omega)
theorem pL(s:ByteArray)(i j:Nat)(h:s.size<=65536):(s.extract i j).size<=65536:=by rw[gW];omega
theorem Cp(s:ByteArray)(i:Nat):(s.data.toList.drop i).length=s.size-i:=by rw[jE];rfl
theorem tc(l:List UInt8)(c:UInt8)(r:List UInt8)(h:l=c::r)(D:bG (c.toNat:Int)=true):1<=d7 l:=by subst h;unfold d7;rw[List.takeWhile_cons,gL (by simpa using D)];simp
theorem yR{s:ByteArray}{i n:Nat}{c:UInt8}{r:List UInt8}{k p:Int}(J:s.size<=65536)(h:s.data.toList.drop i=c::r)(M:bG (c.toNat:Int)=true):Ou ⟨k,s.extract i (i+n),p⟩:=by
 refine⟨pL _ _ _ J,.inr (.inr fun x q D=>?_)⟩;rw[ByteArray.data_extract,vK,vm,h]at D;cases I:i+n-i with
 |zero=>rw[I]at D;cases D
 |succ m=>rw[I]at D;injection D with D;exact D▸M
theorem Cq(s:ByteArray)(i:Nat)(D:i<s.size):∃c r,s.data.toList.drop i=c::r/\c.toNat=ai s i:=by obtain⟨c,r,J,I,_⟩:=lw s i D;exact⟨c,r,J,I⟩
theorem Cr(s:ByteArray)(i:Nat)(l:List cz)(y:s.size<=65536)(hi:i<s.size)(h:lR i l)(j:Nat)(l':List cz)(D:mm s i l=.go j l'):i<j/\j<=s.size/\lR j l':=by
 unfold mm at D;split at D
 ·rename_i h0;injection D with e1 I;subst e1 I;have h3:3<=s.size:=Pe h0.2;exact⟨by omega,h3,h.le (by omega)⟩
 ·split at D
  ·injection D with e1 I;subst e1 I;exact⟨by omega,by omega,h.line (gA _) _⟩
  ·split at D
   ·injection D with e1 I;subst e1 I;exact⟨by omega,by omega,h.le (by omega)⟩
   ·have hd:=Cp s i;cases J:l6 s i l with
    | some r=>
     rw[J]at D;have D:r=.go j l':=D;subst D;unfold l6 at J;split at J
     ·rename_i z;have hb:=uX _ z;injection J with J;injection J with e1 I;subst e1 I;exact⟨by omega,by omega,h.le (by omega)⟩
     ·split at J
      ·split at J
       ·injection J with J;cases J
       ·rename_i hx;have M:=Lib.index_room ((s.data.toList.drop i).drop 2) [42,47] (by omega);rw[jE,hd]at M;injection J with J;injection J with e1 I;subst e1 I;(have h2:i+((Lib.index ((s.data.toList.drop i).drop 2) [42,47]).toNat+4)<=s.size:=by have I:(([42,47]:List UInt8).length:Int)=2:=rfl;rw[I]at M;omega);refine⟨by omega,h2,?_⟩;split
        ·exact h.line (by omega) _
        ·exact h.le (by omega)
      ·cases J
    | none=>
     rw[J]at D;obtain⟨c,r,O,q⟩:=Cq s i hi;have hw:=DY (s.data.toList.drop i);simp only at D;split at D
     ·rename_i hl;(have x:bG (c.toNat:Int)=true:=by rw[q];unfold bG;rw[hl];rfl);have z:=tc _ c r O x;injection D with e1 I;subst e1 I;exact⟨by omega,by omega,h.push (by omega) (yR y O x)⟩
     ·split at D
      ·rename_i hl;(have x:bG (c.toNat:Int)=true:=by rw[q];unfold bG;rw[hl];simp);have z:=tc _ c r O x;injection D with e1 I;subst e1 I;exact⟨by omega,by omega,h.push (by omega) (yR y O x)⟩
      ·split at D
       ·unfold yQ at D;split at D
        ·rename_i k hk;have hb:=rA _ _ _ _ _ hk;rw[Cp]at hb;injection D with e1 I;subst e1 I;exact⟨by omega,by omega,h.push (by omega) ⟨pL _ _ _ y,.inl rfl⟩⟩
        ·cases D
       ·unfold mI at D;split at D
        ·cases D
        ·rename_i ga;(have hb:dP s i<=s.size-i/\dP s i<=3:=by unfold dP;(repeat' split)<;>omega);injection D with e1 I;subst e1 I;exact⟨by omega,by omega,h.push (by omega) ⟨pL _ _ _ y,.inr (.inl (by show(s.extract _ _).size<=3;rw[gW];omega))⟩⟩
theorem Pf[C:NsC]{X:Nat}{s:ByteArray}{i:Nat}{l:List cz}{w:World}{r:MV}{e:Ending}{w':World}(D:AT s i l=false)(h:iX X s w r (.tuple #[]) e w'):uY X s i l w r e w':=by
 cases r with
 |go j l'=>unfold uY nn;rw[D];exact h
 |bad p=>exact h
theorem M1[C:NsC]{X:Nat}{s:ByteArray}{i:Nat}{l:List cz}{w:World}{r:MV}{e:Ending}{w':World}(D:AT s i l=true)(h:Cn X s i w (some r) (.tuple #[]) e w'):uY X s i l w r e w':=by
 cases r with
 |go j l'=>unfold uY nn;rw[D];exact h
 |bad p=>exact h
theorem DZ[C:NsC](X:Nat)(s:ByteArray)(i:Nat)(l:List cz)(w:World)(h:ij w X s i l)(hT:bQ w)(hi:i<s.size)(hv:lR i l):
  Calls prog 117 #[X] w (uY X s i l w (mm s i l)):=by
 have g9:=h.most;(have hl:l.length+1<=65537:=by have:=hv.1;omega);have gk:=fun t h=>(hv.2 t h).1;obtain⟨lv,nv,gq⟩:=h.out;have gi:=gq.blk.lt;obtain⟨x0,x1,x2,x3,f0,f1,f2,f3⟩:=ah gq.blk;have gl:=fun W=>ce s i hi W;have HM:=hid (fun w=>mh s ⟨#[239,187,191]⟩ w);rw[show(⟨#[239,187,191]⟩:BA).data.toList=[239,187,191]from rfl]at HM;have HL:=hid (ux X s i l (i:Int) hl w h hT gk);have HN:=hid (ID X s i l w h hT hl gk);have HW:=hid (fun f ent any w'(hb:Below w w w')=>Fw f ent any X s i l w' (h.below hb));have gd:=hid (fun w'(hb:Below w w w')=>DX X s i l w' (h.below hb) hi hl);have gb:=hid (fun w'(hb:Below w w w')=>It X s i l w' (h.below hb) (hT.below hb) hl hi);have y:=hid (fun w=>fm (ai s i:Int) w);have z:=hid (fun w=>lM (ai s i:Int) w);have I:=hid fun n=>h.set n;have he:=il s i;have q1:IntKind.i64.wrap ((i:Int)+1)=(i:Int)+1:=gQ _ (by omega);have HB:=hid ((gC X w).setCell (p:=⟨X,1,none⟩) (by exact gA X));obtain⟨R,q⟩:∃R,mm s i l=R:=⟨_,rfl⟩;have J:=hid fun hn e w' =>@Pf C X s i l w R e w' hn;have M:=hid fun hn e w' =>@M1 C X s i l w R e w' hn;rw[q];unfold AT at J M;unfold mm at q;clear h hT gq hv gk;by_cases h0:i=0/\Lib.hasPrefix s.data.toList [239,187,191]=true
 ·rw[gL h0]at q;have HN:=hid (J.out (by simp[h0]));obtain⟨rfl,hm⟩:=h0;have I:=hid (I.out 3 (by omega) (Pe hm));rw[hm]at HM;subst q;clear hm J M y z gd gb HL HW;go_in;go_wp2_with fail;refine c0 (HM.out _) ?_;go_wp2_with fail;go_end0;exact HN.out _ _ ⟨rfl,I.out,HB.out _⟩
 rw[gE h0]at q;have HM:=hid (fun(hz:i=0)w=>by have:=HM.out w;rwa [Bool.eq_false_iff.2 fun e=>h0 ⟨hz,e⟩]at this);rw[gV h0]at J M;clear h0;generalize ai s i=c at *;by_cases gg:c=10
 ·subst gg;rw[gL rfl]at q;subst q;have HN:=hid (J.out (by simp));clear J M y z gd gb HW I;cases hz:((i:Int)==0);all_goals
   go_in;go_wp2_with fail;try
    refine c0 (HM.out (by have:=beq_iff_eq.1 hz;omega) _) ?_
    go_wp2_with fail
   refine cb HL.out fun w2 D=>?_;have I:Hid (ij _ _ _ _ _):=hid (D.1.set (i+1) (by omega) (by omega));obtain⟨g8,g6,gu⟩:=D.1.out;clear x0 x1 x2 x3 f0 f1 f2 f3 HL;obtain⟨x0,x1,x2,x3,f0,f1,f2,f3⟩:=ah gu.blk;go_wp2_with fail;go_end0;exact HN.out _ _ ⟨rfl,I.out,D.2.setCell (by exact gA X) _⟩
 rw[gE gg]at q;by_cases ga:c=32\/c=9\/c=13
 ·rw[gL ga]at q;subst q;have HN:=hid (J.out (by simp[ga]));have I:=hid (I.out (i+1) (by omega) (by omega));clear J M y z gd gb HL HW gg;rcases ga with rfl|rfl|rfl<;>cases hz:((i:Int)==0);all_goals
   go_in;go_wp2_with fail;try
    refine c0 (HM.out (by have:=beq_iff_eq.1 hz;omega) _) ?_
    go_wp2_with fail
   go_end0;exact HN.out _ _ ⟨rfl,I.out,HB.out _⟩
 rw[gE ga]at q;rw[gV gg,gV ga]at J M;(have g2:((c:Int)==10)=false:=by rw[gD];omega);(have g0:((c:Int)==32)=false:=by rw[gD];omega);(have e9:((c:Int)==9)=false:=by rw[gD];omega);(have g1:((c:Int)==13)=false:=by rw[gD];omega);have qc:IntKind.i32.wrap (c:Int)=(c:Int):=xe _ (by omega);clear gg ga HL I HB;cases hr:l6 s i l with
 | some r=>
  rw[hr]at HN q;obtain rfl:r=R:=q;have HP:=hid (M.out (by rw[hr];rfl));clear hr J M y z gd gb HW;cases r<;>cases hz:((i:Int)==0);all_goals
   go_in;go_wp2_with fail;try
    refine c0 (HM.out (by have:=beq_iff_eq.1 hz;omega) _) ?_
    go_wp2_with fail
   refine HN.out.mono ?_
  iterate 2
   rintro e w2⟨rfl,gy,D⟩
   go_wp2_with fail
   go_end0
   exact HP.out _ _ ⟨rfl,gy,D⟩
  all_goals rintro e w2⟨rfl,D⟩;unfold dO;exact⟨rfl,HP.out _ _ ⟨rfl,D⟩⟩
 |none=>
 rw[hr]at HN q;have HP:=hid (J.out (by rw[hr];rfl));clear J M;simp only at q;have gj:=hid q;clear hr q;(have hk:bD (c:Int)=true\/bD (c:Int)=false/\(aT (c:Int)=true\/aT (c:Int)=false/\(c=34\/c=96\/c≠34/\c≠96)):=by cases bD (c:Int)<;>cases aT (c:Int)<;>by_cases h:c=34<;>by_cases h':c=96<;>simp[h,h']);rcases hk with hL|⟨hL,hF|⟨hF,rfl|rfl|⟨n34,n96⟩⟩⟩<;>cases hz:((i:Int)==0);all_goals
  (try have hg:((c:Int)==34)=false:=by rw[gD];omega);(try have hf:((c:Int)==96)=false:=by rw[gD];omega);(try have g4:=hid (show ¬ (c=34\/c=96)by omega));(try clear n34 n96);rw[hL]at y gj;(try rw[hF]at z gj);(try clear hF);clear hL;go_in;go_wp2_with fail;try
   refine c0 (HM.out (by have:=beq_iff_eq.1 hz;omega) _) ?_
   go_wp2_with fail
  refine cb HN.out fun w2 D=>?_;go_wp2_with fail;refine c0 (y.out _) ?_;go_wp2_with fail;try
   refine c0 (z.out _) ?_
   go_wp2_with fail
  have O:=gj.out;clear gj
 rotate_left 4
 iterate 6
  focus
   simp only[gX,kK]at O
   first|rw[gE g4.out]at O|simp only[true_or,or_true,kS]at O
   subst O
   first
   |(cases hq:yQ s i l<;>have hc:=gd.out _ D _ (by first|exact .inl rfl|exact .inr rfl) rfl<;>rw[hq]at hc HP)
   |(cases hq:mI s i l<;>have hc:=gb.out _ D<;>rw[hq]at hc HP)
   ·refine hc.mono ?_;rintro e2 w3⟨rfl,gx,gp⟩;go_wp2_with fail;go_end0;rw[hq];exact HP.out _ _ ⟨rfl,gx,(D.mono (jV gi)).trans gp⟩
   ·refine hc.mono ?_;rintro e2 w3⟨rfl,gp⟩;unfold dO;exact⟨rfl,HP.out _ _ ⟨rfl,(D.mono (jV gi)).trans gp⟩⟩
 rotate_left 2
 iterate 2
  simp only[gX,kK,kS]at O
  subst O
  refine(HW.out _ Od Of _ D).mono ?_
  rintro e2 w4⟨rfl,x,gn⟩
  generalize hwl:i+d7 (s.data.toList.drop i)=e at *
  have gz:i<=e:=by omega
  obtain⟨gw,gv,ge⟩:=x.out
  have gs:=x.le
  clear x0 x1 x2 x3 f0 f1 f2 f3 hwl
  obtain⟨x0,x1,x2,x3,f0,f1,f2,f3⟩:=ah ge.blk
  have p0:(0:Int)<=(i:Int):=by omega
  have p1:(i:Int)<=(e:Int):=by omega
  have p2:(e:Int)<=(s.size:Int):=by omega
  have gr:=hid (iD X s e l 4 i (by omega) hl w4 x)
  go_wp2_with fail
  refine gr.out.mono ?_
  rintro e3 w6⟨rfl,gh,gm⟩
  go_wp2_with fail
  go_end0
  exact HP.out _ _ ⟨rfl,gh,((D.mono (jV gi)).trans gn).trans gm⟩
 all_goals
  simp only[kS]at O;subst O;refine(HW.out _ Oc Oe _ D).mono ?_;rintro e2 w4⟨rfl,x,gn⟩;generalize hwl:i+d7 (s.data.toList.drop i)=e at *;(have gz:i<=e:=by omega);obtain⟨gw,gv,ge⟩:=x.out;have gs:=x.le;clear x0 x1 x2 x3 f0 f1 f2 f3 hwl;obtain⟨x0,x1,x2,x3,f0,f1,f2,f3⟩:=ah ge.blk;(have p0:(0:Int)<=(i:Int):=by omega);(have p1:(i:Int)<=(e:Int):=by omega);(have p2:(e:Int)<=(s.size:Int):=by omega);have hk:=Co (s.extract i e);have g3:=hid (fun w=>BI (s.extract i e) w);have gr:=hid (fun(w':World)(hb:Below w4 w4 w')=>iD X s e l (cr (s.extract i e)+1) i (by omega) hl w' (x.below hb));have ha:=fun W=>IE (cr (s.extract i e)) hk W;generalize cr (s.extract i e)=kw at *;clear gl HM y z HN HW gd gb g2 g0 e9 g1 qc x2 x3 f0 f1 f2 f3;(go_upto_region 13 with fail);go_region_held3 (fun w'=>w'.cell? ⟨X,0,none⟩=some (.string s)/\w'.cell? ⟨X,1,none⟩=some (.int .i64 (e:Int)))
   (first|exact⟨z0,z1⟩|go_keep)
   (first
    |(go_at_call 170;refine(g3.out _).mono ?_;rintro e3 w5⟨rfl,rfl⟩)
    |(go_at_call 169;refine(gr.out _ (gC _ _).drew).mono ?_;rintro e3 w6⟨rfl,gh,gm⟩;obtain⟨g7,g5,gt⟩:=gh.out;obtain⟨z0,z1,-,-,-,-,-,-⟩:=ah gt.blk))
  all_goals(go_wp2_with fail);go_end0;exact HP.out _ _ ⟨rfl,gh,((D.mono (jV gi)).trans gn).drew.trans gm⟩
theorem fj{g d:Nat}{F:eZ}(hF:pQ g F){P:Nd->Bool}{f:FuncId}(h:∀(w:World)(n:Nd)(A:Option Addr)(cp:Nat),Below w w (w.alloc (.cells (nv n A cp) 41))->aa (w.alloc (.cells (nv n A cp) 41)) w.heap.size 41 (nv n A cp) ->
  Hid (dy (w.alloc (.cells (nv n A cp) 41)) (.agg (nv n A cp)) n)->Hid (dy w (.agg (nv n A cp)) n)->Hid (bQ (w.alloc (.cells (nv n A cp) 41)))->Hid (pQ g F)->Hid (ie d n)->Calls prog f #[.agg (nv n A cp)] w fun e w'=>e=.returned (.bool (P n))/\Below w w w'):eT d P f:=by intro w v n hT hv hd;obtain⟨A,cp,rfl,I⟩:=hv.toC;have D:=(cH w (nv n A cp)).1;exact h w n A cp D (cH w _).2 (hid (aq.below hv D)) (hid hv) (hid (hT.below D)) (hid hF) (hid hd)
end
end Go.Proofs.YtcoiialmdncpfaaGreatDoor
