/-
  Parts of the proof: Swhile Ssign Snote Squot Snext. By an AI agent.
-/
import Derived.Test.YtiebcdeafofgdaaGreatDoorJ07
import Derived.Test.YtiebcdeafofgdaaGreatDoorJ06
set_option maxRecDepth 100000
set_option maxHeartbeats 8000000
namespace Go.Proofs.YtiebcdeafofgdaaGreatDoor
section
open Go.RowKit Go.Lib Go.Proofs
attribute [local go_sem ↓] Go.wp_at_zero Go.wp_at_succ
theorem kW:type_of% @List.drop_zero:=@List.drop_zero
theorem qk:type_of% @Go.results_none:=@Go.results_none
theorem qt:type_of% @Go.IntWalk.i32_in:=@Go.IntWalk.i32_in
theorem qy:type_of% @List.takeWhile_cons:=@List.takeWhile_cons
theorem qE:type_of% @Go.rounds_succ:=@Go.rounds_succ
theorem vm:type_of% @List.drop_drop:=@List.drop_drop
theorem vr:type_of% @Go.Lib.extract_data:=@Go.Lib.extract_data
def a6(c:Int):Bool:=bo c||aW c
def bX(l:List UInt8):Nat:=(l.takeWhile fun c=>a6 (c.toNat:Int)).length
theorem oY{α:Type}[Inhabited α](p:α->Bool):∀(l:List α)(j:Nat),j<=l.length->(∀k,k<j->p (l.getD k default)=true)->(j<l.length->p (l.getD j default)=false)->(l.takeWhile p).length=j
 |[],j,h,_,_=>by simp at h;simp[h]
 |x::l,0,_,_,h=>by have:=h (by simp);rw[qy,gA (by simpa using this)];rfl
 |x::l,j+1,I,D,J=>by have M:=D 0 (by omega);rw[qy,gE (by simpa using M),gM,oY p l j (by simpa using I) (fun k hk=>by simpa using D (k+1) (by omega)) (fun h=>by simpa using J (by simpa using h))]
theorem fw(s:ByteArray)(i:Nat):(s.extract i s.size).data.toList=s.data.toList.drop i:=by rw[ByteArray.data_extract,Array.toList_extract];rw[qg];exact jK (by rw[gR];exact Nat.le_of_eq rfl)
theorem fx(s:ByteArray)(i:Nat):(s.extract i s.size).size=s.size-i:=by have:=jH List.length (fw s i);rw[gR]at this;exact this
theorem RU(a:Array Value)(w:World):(callFunc 99 a).run Tryz.prog w=.ok (.enter 99 a) w:=by kernel_rfl
theorem RV(a:Array Value)(w:World):(callFunc 103 a).run Tryz.prog w=.ok (.enter 103 a) w:=by kernel_rfl
theorem RW(c:Int)(w:World):Calls Tryz.prog 99 #[.int .i32 c] w fun e w'=>e=.returned (.bool (a6 c))/\w=w':=by
 unfold a6;cases D:bo c<;>cases hF:aW c;all_goals
  (go_enter Tryz.func99,Tryz.ntmps99);(go_wp2_with fail);refine(fg _ _).mono ?_;rw[D];rintro e w1⟨rfl,rfl⟩;(go_wp2_with fail);try
   refine(lg _ _).mono ?_
   rw[hF]
   rintro e w1⟨rfl,rfl⟩
   go_wp2_with fail
  go_ret;exact⟨rfl,rfl⟩
theorem RX(c:Int)(w:World):Calls Tryz.prog 103 #[.int .i32 c] w fun e w'=>e=.returned (.bool (a6 c))/\w=w':=by
 unfold a6;cases D:bo c<;>cases hF:aW c;all_goals
  (go_enter Tryz.func103,Tryz.ntmps103);(go_wp2_with fail);refine(fg _ _).mono ?_;rw[D];rintro e w1⟨rfl,rfl⟩;(go_wp2_with fail);try
   refine(lg _ _).mono ?_
   rw[hF]
   rintro e w1⟨rfl,rfl⟩
   go_wp2_with fail
  go_ret;exact⟨rfl,rfl⟩
theorem rM{c:Int}(h:128<=c):a6 c=false:=by unfold a6;rw[mG h,fF h];rfl
theorem AP(f:FuncId)(hf:∀a w,(callFunc f a).run Tryz.prog w=.ok (.enter f a) w)(hC:∀(c:Int)(w:World),Calls Tryz.prog f #[.int .i32 c] w fun e w'=>e=.returned (.bool (a6 c))/\w=w')
  (X:Nat)(s:ByteArray)(i:Nat)(l:List cY)(w:World)(h:iQ w X s i l):
  Calls Tryz.prog 98 #[.pointer (some ⟨X,0,none⟩),.func (.func f) #[] #[]] w (sJ X s w (i+bX (s.data.toList.drop i)) l (.tuple #[])):=by
 obtain⟨lv,nv,ns,gs⟩:=h.out;have hb:=gs.blk;have gh:=hb.lt;have gp:=h.le;have gw:=h.most;have HH:=hid h;obtain⟨x0,x1,x2,x3,f0,f1,f2,f3⟩:=ag hb;(have p0:(0:Int)<=(i:Int):=by omega);(have p2:(i:Int)<=(s.size:Int):=by omega);(go_enter Tryz.func98,Tryz.ntmps98);(go_upto_region 0 with fail);go_cut [15] (fun yk wx=>∃b,yk=.pointer (some ⟨b,0,none⟩)/\wx.heap[b]? = some (.stringIter (s.extract i s.size) 0)/\w.heap.size<=b/\Below w w wx)
 case first=>go_region_law (fail);(all_goals go_wp2_with fail);all_goals go_meet;exact⟨_,rfl,qz w.drew _ 0,d5 _,((gG w.heap.size w).drew.alloc (d5 _) _)⟩
 case rest=>
  obtain⟨b,rfl,hit,gr,gb⟩:=hcut;have HT:=hid (fw s i);have gt:=hid (fx s i);generalize s.extract i s.size=t at *;have gv:t.size=s.size-i:=gt.out;clear x0 x1 x2 x3 f0 f1 f2 f3;(go_wp2_with fail);go_loopg [4,5,16,17] t.size (fun g _ _ _ _ wr=>∃j:Nat,j<=t.size/\t.size-j<=g/\wr.heap[b]? = some (.stringIter t j)/\Below w w wr/\(∀k,k<j->a6 ((t.data.toList.getD k 0).toNat:Int)=true))
  case atStart=>exact⟨0,gP _,by omega,hit,gb,fun k hk=>by omega⟩
  case round=>
   clear hit gb;obtain⟨j,hj,hg,hit,hB,ga⟩:=hrel;have gg:=hid hit;have HA:=hid ga;clear hit ga;by_cases I:j<t.size
   ·have hw:=rW t j I;have gd:=oX t j I;have J:=fun ty=>qI (P:=Tryz.prog) wr b t j ty gg.out I;generalize hbb:(t.data.toList.getD j 0).toNat=bb at *;generalize hd:Utf8.decode t j=q at *;obtain⟨r,k⟩:=q;simp only at hw J gd;have U:a6 (r:Int)=a6 (bb:Int)/\(a6 (r:Int)=true->k=1):=by
     rcases gd with⟨e,_⟩|⟨h1,h2⟩
     ·injection e with e1 e2;subst e1 e2;exact⟨rfl,fun _=>rfl⟩
     ·rw[rM (by omega),rM (by omega)];exact⟨rfl,by simp⟩
    have gj:=hid hbb;have D:=hid U;have j1:=qL wr b t j (j+k) gg.out;have j2:Below w w (wr.iterAt b t (j+k)):=cW hB gr;generalize wr.iterAt b t (j+k)=W1 at J j1 j2;have J1:=hid j1;have N:=HH.out.below j2;obtain⟨gn,gl,gm,M⟩:=N.out;have ge:=M.blk;obtain⟨x0,x1,x2,x3,f0,f1,f2,f3⟩:=ag ge;clear U gd j1 hd hbb;cases hW:a6 (r:Int)with
    |true=>
     have hk:=D.out.2 hW;have gi:Hid (∀k',k'<j+k->a6 ((t.data.toList.getD k' 0).toNat:Int)=true):=hid (by
      intro k' hk';by_cases e:k'=j
      ·subst e;rw[gj.out,<-D.out.1,hW]
      ·exact HA.out k' (by omega))
     clear x0 x1 x2 x3 f0 f1 f2 f3 D HA;(go_wp2_with fail);refine(hC _ _).mono ?_;rw[hW];rintro e w1⟨rfl,rfl⟩;(go_wp2_with fail);go_roundg (t.size-(j+k))
     case measure=>omega
     case rel=>exact⟨j+k,hw.2,d5 _,J1.out,j2,gi.out⟩
    |false=>have HL:Hid (i+bX (s.data.toList.drop i)=i+j):=hid (by rw[<-HT.out];congr 1;refine oY _ _ j (by simpa using hj) (fun k' hk'=>HA.out k' hk') (fun _=>?_);have:=D.out.1;rw[hW,<-gj.out]at this;exact this.symm);clear D HA;(go_wp2_with fail);refine(hC _ _).mono ?_;rw[hW];rintro e w1⟨rfl,rfl⟩;have q1:IntKind.i64.wrap ((i:Int)+(j:Int))=(i:Int)+(j:Int):=gO _ (by omega);(go_wp2_with fail);refine jL (qk rfl _ _ _) rfl ?_;rw[HL.out];have O:=N.set (i+j) (by omega) (by omega);rw[show((i+j:Nat):Int)=(i:Int)+(j:Int)by omega]at O;exact⟨rfl,O,(j2.mono (jN gh)).setCell (d5 _) _⟩
   ·(have gq:j=t.size:=by omega);have HL:Hid (i+bX (s.data.toList.drop i)=s.size):=hid (by rw[<-HT.out,show bX t.data.toList=j from oY _ _ j (by simpa using hj) (fun k' hk'=>HA.out k' hk') (fun h=>absurd h (by rw[gq];simp))];omega);have gu:=fun ty=>qA (P:=Tryz.prog) wr b t j ty gg.out I;have N:=HH.out.below hB;obtain⟨gn,gl,gm,M⟩:=N.out;have ge:=M.blk;obtain⟨x0,x1,x2,x3,f0,f1,f2,f3⟩:=ag ge;(go_wp2_with fail);go_end0;rw[HL.out];exact⟨rfl,N.set s.size gp (d5 _),(hB.mono (jN gh)).setCell (d5 _) _⟩
theorem dm(s p:ByteArray)(w:World):Calls Tryz.prog 95 #[.string s,.string p] w fun e w'=>e=.returned (.bool (Lib.hasPrefix s.data.toList p.data.toList))/\w=w':=
 (Any.strings_HasPrefix Tryz.laysPrefix s p w).mono fun _ _ h=>⟨h.1,h.2.symm⟩
theorem rN(s:ByteArray)(c:Int)(w:World):Calls Tryz.prog 115 #[.string s,.int .u8 c] w fun e w'=>e=.returned (.int .i64 (Lib.indexByte s.data.toList (UInt8.ofNat c.toNat)))/\w=w':=
 (Any.strings_IndexByte Tryz.laysIndexByte s c w).mono fun _ _ h=>⟨h.1,h.2.symm⟩
theorem G0(s sub:ByteArray)(w:World)(hT:dk w)(hs:s.size<=2000000000):
  Calls Tryz.prog 108 #[.string s,.string sub] w fun e w'=>e=.returned (.int .i64 (Lib.index s.data.toList sub.data.toList))/\w=w':=by obtain⟨m,D⟩:=hT;exact(Any.strings_Index Tryz.laysIndex s sub m w (by omega) D).mono fun _ _ h=>⟨h.1,h.2.symm⟩
def fy(p:Nat):Ending:=.panicked [{ v:=.iface 83 (.agg #[.int .i64 (p:Int)]),recovered:=false }]
theorem l7(X:Nat)(p:Int)(w:World):Calls Tryz.prog 142 #[X,.bool true,.int .i64 p] w fun e w'=>e=.returned (.tuple #[])/\w=w':=by(go_enter Tryz.func142,Tryz.ntmps142);(go_wp2_with fail);go_end0;exact⟨rfl,rfl⟩
theorem iv(X:Nat)(p:Nat)(w:World):Calls Tryz.prog 142 #[X,.bool false,.int .i64 (p:Int)] w fun e w'=>e=fy p/\w=w':=by(go_enter Tryz.func142,Tryz.ntmps142);(go_wp2_with fail);exact⟨rfl,rfl,rfl⟩
inductive RZ where
 |go (i:Nat) (l:List cY)
 |bad (p:Nat)
def iL(X:Nat)(s:ByteArray)(w:World)(r:RZ)(v:Value)(e:Ending)(w':World):Prop:=
 match r with
 | .go i l=>sJ X s w i l v e w'
 | .bad p=>e=fy p/\Below X w w'
def pJ:ByteArray:=(⟨#[60,60,61,32,62,62,61,32,38,94,61,32,46,46,46]⟩:BA)
def rE:ByteArray:=(⟨#[38,38,32,124,124,32,61,61,32,33,61,32,60,61,32,62,61,32,58,61,32,43,43,32,45,45,32,43,61,32,45,61,32,42,61,32,47,61,32,37,61,32,38,61,32,124,61,32,94,61,32,60,60,32,62,62,32,38,94,32,60,45]⟩:BA)
def uO:ByteArray:=(⟨#[43,32,45,32,42,32,47,32,37,32,38,32,124,32,94,32,60,32,62,32,61,32,33,32,40,32,41,32,91,32,93,32,123,32,125,32,44,32,59,32,46,32,58,32,126]⟩:BA)
theorem Db{fn:Func}{q:Tmp}{ty:TypeId}(I:fn.results = #[.cell q 125])(tmps:Array Value){w:World}{g:Nat}{a b c:Value}(J:tmps.getD q undef=.pointer (some ⟨g,0,none⟩))(hb:au w g ty #[a,b,c]):
  (results fn tmps).run Tryz.prog w=.ok (.agg #[a,b,c]) w:=by obtain⟨O,N,M⟩:=Tn hb;unfold results;rw[I];(have D:tmps[q]?.getD undef=.pointer (some ⟨g,0,none⟩):=by simpa using J);simp[D,go_sem,O,N,M]
theorem G1(w:World):Calls Tryz.prog 143 #[] w fun e w'=>e=.returned (.agg #[.string pJ,.string rE,.string uO])/\Below w w w':=by(go_enter Tryz.func143,Tryz.ntmps143);(go_wp2_with fail);refine jL (Db (ty:=125) rfl _ (g:=w.heap.size) (by rfl) (a:=.string pJ) (b:=.string rE) (c:=.string uO) (au.new w _ _)) rfl ?_;exact⟨rfl,(gG _ _).alloc (d5 _) _⟩
theorem BU(a b c:ByteArray)(i:Nat)(D:i<3)(w:World):(Instr.index 125 (.agg #[.string a,.string b,.string c]) (.int .i64 (i:Int))).run Tryz.prog w=.ok (.string (if i=0 then a else if i=1 then b else c)) w:=by
 rcases i with _|_|_|i
 ·simp[Instr.index,run_underlying Tryz.underlying125,asIntOf,go_sem]
 ·simp[Instr.index,run_underlying Tryz.underlying125,asIntOf,go_sem]
 ·simp[Instr.index,run_underlying Tryz.underlying125,asIntOf,go_sem]
 ·omega
def nN(row:ByteArray)(t:ByteArray)(n:Nat):Bool:=Lib.contains ((⟨#[32]⟩++row++⟨#[32]⟩:ByteArray)).data.toList ((⟨#[32]⟩++t.extract 0 n++⟨#[32]⟩:ByteArray)).data.toList
def dX(s:ByteArray)(i:Nat):Nat:=
 if 3<=s.size-i/\nN pJ (s.extract i s.size) 3=true then 3
 else if 2<=s.size-i/\nN rE (s.extract i s.size) 2=true then 2
 else if 1<=s.size-i/\nN uO (s.extract i s.size) 1=true then 1
 else 0
def mL(s:ByteArray)(i:Nat)(l:List cY):RZ:=
 if dX s i=0 then .bad i else .go (i+dX s i) (l++[⟨6,s.extract i (i+dX s i),i⟩])
theorem LC(X:Nat)(s:ByteArray)(i:Nat)(l:List cY)(w:World)(h:iQ w X s i l)(hT:dk w)(hl:l.length+1<=65537)(hi:i<s.size):
  Calls Tryz.prog 105 #[X] w (iL X s w (mL s i l) (.tuple #[])):=by
 obtain⟨lv,nv,ns,gl⟩:=h.out;have hb:=gl.blk;have gz:=h.le;have gy:=h.most;have ga:=hb.lt;have HH:=hid h;obtain⟨x0,x1,x2,x3,-,-,-,-⟩:=ag hb;(have p0:(0:Int)<=(i:Int):=by omega);(have p2:(i:Int)<=(s.size:Int):=by omega);have gg:=fx s i;have M:Hid (dX s i=if 3<=(s.extract i s.size).size/\nN pJ (s.extract i s.size) 3=true then 3 else if 2<=(s.extract i s.size).size/\nN rE (s.extract i s.size) 2=true then 2 else if 1<=(s.extract i s.size).size/\nN uO (s.extract i s.size) 1=true then 1 else 0):=hid (by rw[gg];rfl);have H3:=hid (fun w'(hb:Below w w w')=>eZ (⟨#[32]⟩++pJ++⟨#[32]⟩) (⟨#[32]⟩++(s.extract i s.size).extract 0 3++⟨#[32]⟩) w' (hT.below hb) (jB (show _<=100 by decide +kernel) (by omega)));have H2:=hid (fun w'(hb:Below w w w')=>eZ (⟨#[32]⟩++rE++⟨#[32]⟩) (⟨#[32]⟩++(s.extract i s.size).extract 0 2++⟨#[32]⟩) w' (hT.below hb) (jB (show _<=100 by decide +kernel) (by omega)));have H1:=hid (fun w'(hb:Below w w w')=>eZ (⟨#[32]⟩++uO++⟨#[32]⟩) (⟨#[32]⟩++(s.extract i s.size).extract 0 1++⟨#[32]⟩) w' (hT.below hb) (jB (show _<=100 by decide +kernel) (by omega)));rw[show Lib.contains ((⟨#[32]⟩++uO++⟨#[32]⟩:ByteArray)).data.toList ((⟨#[32]⟩++(s.extract i s.size).extract 0 1++⟨#[32]⟩:ByteArray)).data.toList=nN uO (s.extract i s.size) 1 from rfl]at H1;rw[show Lib.contains ((⟨#[32]⟩++rE++⟨#[32]⟩:ByteArray)).data.toList ((⟨#[32]⟩++(s.extract i s.size).extract 0 2++⟨#[32]⟩:ByteArray)).data.toList=nN rE (s.extract i s.size) 2 from rfl]at H2;rw[show Lib.contains ((⟨#[32]⟩++pJ++⟨#[32]⟩:ByteArray)).data.toList ((⟨#[32]⟩++(s.extract i s.size).extract 0 3++⟨#[32]⟩:ByteArray)).data.toList=nN pJ (s.extract i s.size) 3 from rfl]at H3;clear hT;generalize nN pJ (s.extract i s.size) 3=c3 at *;generalize nN rE (s.extract i s.size) 2=c2 at *;generalize nN uO (s.extract i s.size) 1=c1 at *;(have g3:pJ.size<=100:=by decide +kernel);(have g2:rE.size<=100:=by decide +kernel);(have g1:uO.size<=100:=by decide +kernel);have gm:=hid (fun w=>G1 w);generalize pJ=r3 at *;generalize rE=r2 at *;generalize uO=r1 at *;(go_enter Tryz.func105,Tryz.ntmps105);(go_wp2_with fail);go_quiet (fail);have hB:=bC (gG w.heap.size w) nq;generalize w.drewN nq=w1 at *;generalize s.extract i s.size=t at *;clear x0 x1 x2 x3;(go_wp2_with fail);refine(gm.out _).mono ?_;rintro e w2⟨rfl,gj⟩;have I:=a8 hB gj;clear gj gm;have HQ:=HH.out.below I;obtain⟨gs,gq,gr,ge⟩:=HQ.out;have gk:=ge.blk;obtain⟨x0,x1,x2,x3,f0,f1,f2,f3⟩:=ag gk;have gx:∀W:World,(Instr.index 125 (.agg #[.string r3,.string r2,.string r1]) (.int .i64 0)).run Tryz.prog W=.ok (.string r3) W:=fun W=>BU r3 r2 r1 0 (by omega) W;have gw:∀W:World,(Instr.index 125 (.agg #[.string r3,.string r2,.string r1]) (.int .i64 1)).run Tryz.prog W=.ok (.string r2) W:=fun W=>BU r3 r2 r1 1 (by omega) W;have gv:∀W:World,(Instr.index 125 (.agg #[.string r3,.string r2,.string r1]) (.int .i64 2)).run Tryz.prog W=.ok (.string r1) W:=fun W=>BU r3 r2 r1 2 (by omega) W;(have k1:1<=t.size:=by omega);have gb:=hid gg;clear hb gk HH h gg gl ge;(go_wp2_with fail);refine wp_loop_rounds 4 ?_;by_cases k3:3<=t.size
 ·(have gp:(3:Int)<=(t.size:Int):=by omega);rw[qE];cases c3 with
  |true=>(go_wp2_with fail);refine(H3.out _ I).mono ?_;rintro e w3⟨rfl,rfl⟩;have HS:Hid (dX s i=3):=hid (by rw[M.out];simp[k3]);have q1:IntKind.i64.wrap ((i:Int)+3)=(i:Int)+3:=gO _ (by omega);(have q2:IntKind.i64.wrap ((i:Int)+3-3)=(i:Int):=by rw[show(i:Int)+3-3=(i:Int)by omega];exact gO _ (by omega));(have N:i+3<=s.size:=by have:=gb.out;omega);have D:=HQ.set (i+3) (by omega) N;rw[show((i+3:Nat):Int)=(i:Int)+3 by omega]at D;have J:=hid D;clear D;(go_wp2_with fail);have D:=J.out;refine(mj X s (i+3) l 6 i (by omega) hl _ D).mono ?_;rintro e w4⟨rfl,O,U⟩;(go_wp2_with fail);refine jL (qk rfl _ _ _) rfl ?_;unfold iL mL;rw[gA (by rw[HS.out];omega),HS.out];exact⟨rfl,O,((I.mono (jN ga)).setCell (d5 _) _).trans U⟩
  |false=>
   (go_wp2_with fail);refine(H3.out _ I).mono ?_;rintro e w3⟨rfl,rfl⟩;(go_wp2_with fail);(have k2:2<=t.size:=by omega);(have gh:(2:Int)<=(t.size:Int):=by omega);rw[qE];cases c2 with
   |true=>(go_wp2_with fail);refine(H2.out _ I).mono ?_;rintro e w3⟨rfl,rfl⟩;have HS:Hid (dX s i=2):=hid (by rw[M.out];simp[k2]);have q1:IntKind.i64.wrap ((i:Int)+2)=(i:Int)+2:=gO _ (by omega);(have q2:IntKind.i64.wrap ((i:Int)+2-2)=(i:Int):=by rw[show(i:Int)+2-2=(i:Int)by omega];exact gO _ (by omega));(have N:i+2<=s.size:=by have:=gb.out;omega);have D:=HQ.set (i+2) (by omega) N;rw[show((i+2:Nat):Int)=(i:Int)+2 by omega]at D;have J:=hid D;clear D;(go_wp2_with fail);have D:=J.out;refine(mj X s (i+2) l 6 i (by omega) hl _ D).mono ?_;rintro e w4⟨rfl,O,U⟩;(go_wp2_with fail);refine jL (qk rfl _ _ _) rfl ?_;unfold iL mL;rw[gA (by rw[HS.out];omega),HS.out];exact⟨rfl,O,((I.mono (jN ga)).setCell (d5 _) _).trans U⟩
   |false=>
    (go_wp2_with fail);refine(H2.out _ I).mono ?_;rintro e w3⟨rfl,rfl⟩;(go_wp2_with fail);(have gi:(1:Int)<=(t.size:Int):=by omega);rw[qE];cases c1 with
    |true=>(go_wp2_with fail);refine(H1.out _ I).mono ?_;rintro e w3⟨rfl,rfl⟩;have HS:Hid (dX s i=1):=hid (by rw[M.out];simp[k1]);have q1:IntKind.i64.wrap ((i:Int)+1)=(i:Int)+1:=gO _ (by omega);(have q2:IntKind.i64.wrap ((i:Int)+1-1)=(i:Int):=by rw[show(i:Int)+1-1=(i:Int)by omega];exact gO _ (by omega));(have N:i+1<=s.size:=by have:=gb.out;omega);have D:=HQ.set (i+1) (by omega) N;rw[show((i+1:Nat):Int)=(i:Int)+1 by omega]at D;have J:=hid D;clear D;(go_wp2_with fail);have D:=J.out;refine(mj X s (i+1) l 6 i (by omega) hl _ D).mono ?_;rintro e w4⟨rfl,O,U⟩;(go_wp2_with fail);refine jL (qk rfl _ _ _) rfl ?_;unfold iL mL;rw[gA (by rw[HS.out];omega),HS.out];exact⟨rfl,O,((I.mono (jN ga)).setCell (d5 _) _).trans U⟩
    |false=>(go_wp2_with fail);refine(H1.out _ I).mono ?_;rintro e w3⟨rfl,rfl⟩;(go_wp2_with fail);have HS:Hid (dX s i=0):=hid (by rw[M.out];simp[]);rw[qE];(go_wp2_with fail);refine(iv X i _).mono ?_;rintro e w4⟨rfl,rfl⟩;unfold fy;refine⟨rfl,?_⟩;unfold iL mL;rw[gE HS.out];exact⟨rfl,I.mono (jN ga)⟩
 ·(have gt:decide (3<=t.size)=false:=by rw[gK];exact k3);(have gp:decide ((3:Int)<=(t.size:Int))=false:=by rw[gK];omega);have gd:=hid k3;clear k3;rw[qE];(go_wp2_with fail);by_cases k2:2<=t.size
  ·(have gh:(2:Int)<=(t.size:Int):=by omega);rw[qE];cases c2 with
   |true=>(go_wp2_with fail);refine(H2.out _ I).mono ?_;rintro e w3⟨rfl,rfl⟩;have HS:Hid (dX s i=2):=hid (by rw[M.out];simp[gd.out,k2]);have q1:IntKind.i64.wrap ((i:Int)+2)=(i:Int)+2:=gO _ (by omega);(have q2:IntKind.i64.wrap ((i:Int)+2-2)=(i:Int):=by rw[show(i:Int)+2-2=(i:Int)by omega];exact gO _ (by omega));(have N:i+2<=s.size:=by have:=gb.out;omega);have D:=HQ.set (i+2) (by omega) N;rw[show((i+2:Nat):Int)=(i:Int)+2 by omega]at D;have J:=hid D;clear D;(go_wp2_with fail);have D:=J.out;refine(mj X s (i+2) l 6 i (by omega) hl _ D).mono ?_;rintro e w4⟨rfl,O,U⟩;(go_wp2_with fail);refine jL (qk rfl _ _ _) rfl ?_;unfold iL mL;rw[gA (by rw[HS.out];omega),HS.out];exact⟨rfl,O,((I.mono (jN ga)).setCell (d5 _) _).trans U⟩
   |false=>
    (go_wp2_with fail);refine(H2.out _ I).mono ?_;rintro e w3⟨rfl,rfl⟩;(go_wp2_with fail);(have gi:(1:Int)<=(t.size:Int):=by omega);rw[qE];cases c1 with
    |true=>(go_wp2_with fail);refine(H1.out _ I).mono ?_;rintro e w3⟨rfl,rfl⟩;have HS:Hid (dX s i=1):=hid (by rw[M.out];simp[gd.out,k1]);have q1:IntKind.i64.wrap ((i:Int)+1)=(i:Int)+1:=gO _ (by omega);(have q2:IntKind.i64.wrap ((i:Int)+1-1)=(i:Int):=by rw[show(i:Int)+1-1=(i:Int)by omega];exact gO _ (by omega));(have N:i+1<=s.size:=by have:=gb.out;omega);have D:=HQ.set (i+1) (by omega) N;rw[show((i+1:Nat):Int)=(i:Int)+1 by omega]at D;have J:=hid D;clear D;(go_wp2_with fail);have D:=J.out;refine(mj X s (i+1) l 6 i (by omega) hl _ D).mono ?_;rintro e w4⟨rfl,O,U⟩;(go_wp2_with fail);refine jL (qk rfl _ _ _) rfl ?_;unfold iL mL;rw[gA (by rw[HS.out];omega),HS.out];exact⟨rfl,O,((I.mono (jN ga)).setCell (d5 _) _).trans U⟩
    |false=>(go_wp2_with fail);refine(H1.out _ I).mono ?_;rintro e w3⟨rfl,rfl⟩;(go_wp2_with fail);have HS:Hid (dX s i=0):=hid (by rw[M.out];simp[gd.out]);rw[qE];(go_wp2_with fail);refine(iv X i _).mono ?_;rintro e w4⟨rfl,rfl⟩;unfold fy;refine⟨rfl,?_⟩;unfold iL mL;rw[gE HS.out];exact⟨rfl,I.mono (jN ga)⟩
  ·(have gu:decide (2<=t.size)=false:=by rw[gK];exact k2);(have gh:decide ((2:Int)<=(t.size:Int))=false:=by rw[gK];omega);have gn:=hid k2;clear k2;rw[qE];(go_wp2_with fail);(have gi:(1:Int)<=(t.size:Int):=by omega);rw[qE];cases c1 with
   |true=>(go_wp2_with fail);refine(H1.out _ I).mono ?_;rintro e w3⟨rfl,rfl⟩;have HS:Hid (dX s i=1):=hid (by rw[M.out];simp[gd.out,gn.out,k1]);have q1:IntKind.i64.wrap ((i:Int)+1)=(i:Int)+1:=gO _ (by omega);(have q2:IntKind.i64.wrap ((i:Int)+1-1)=(i:Int):=by rw[show(i:Int)+1-1=(i:Int)by omega];exact gO _ (by omega));(have N:i+1<=s.size:=by have:=gb.out;omega);have D:=HQ.set (i+1) (by omega) N;rw[show((i+1:Nat):Int)=(i:Int)+1 by omega]at D;have J:=hid D;clear D;(go_wp2_with fail);have D:=J.out;refine(mj X s (i+1) l 6 i (by omega) hl _ D).mono ?_;rintro e w4⟨rfl,O,U⟩;(go_wp2_with fail);refine jL (qk rfl _ _ _) rfl ?_;unfold iL mL;rw[gA (by rw[HS.out];omega),HS.out];exact⟨rfl,O,((I.mono (jN ga)).setCell (d5 _) _).trans U⟩
   |false=>(go_wp2_with fail);refine(H1.out _ I).mono ?_;rintro e w3⟨rfl,rfl⟩;(go_wp2_with fail);have HS:Hid (dX s i=0):=hid (by rw[M.out];simp[gd.out,gn.out]);rw[qE];(go_wp2_with fail);refine(iv X i _).mono ?_;rintro e w4⟨rfl,rfl⟩;unfold fy;refine⟨rfl,?_⟩;unfold iL mL;rw[gE HS.out];exact⟨rfl,I.mono (jN ga)⟩
theorem sK:∀(l:List UInt8)(c:UInt8),Lib.indexByte l c<l.length
 |[],c=>by unfold Lib.indexByte;decide
 |b::l,c=>by
  have ih:=sK l c;unfold Lib.indexByte;simp only[gM];split
  ·omega
  ·split<;>omega
theorem wO(b:UInt8)(l:List UInt8)(c:UInt8)(h:b≠c):Lib.indexByte (b::l) c = -1\/1<=Lib.indexByte (b::l) c:=by
 have I:=Lib.indexByte_ge l c;unfold Lib.indexByte;rw[gA (by simpa using h)];split
 ·exact .inl rfl
 ·rename_i D;right;(have:Lib.indexByte l c ≠ -1:=by simpa using D);omega
def nO(l:List UInt8):Nat:=if Lib.indexByte l 10<0 then l.length else(Lib.indexByte l 10).toNat
theorem wP(l:List UInt8)(h:Lib.hasPrefix l [47,47]=true):1<=nO l/\nO l<=l.length:=by
 match l,h with
 |[],h=>simp[Lib.hasPrefix]at h
 |b::r,h=>
  (have hb:b≠10:=by rintro rfl;simp[Lib.hasPrefix]at h);have I:=wO b r 10 hb;have D:=sK (b::r) 10;unfold nO;split
  ·simp
  ·omega
def iD(s:ByteArray)(i:Nat)(l:List cY):Option RZ:=
 if Lib.hasPrefix (s.data.toList.drop i) [47,47]=true then some (.go (i+nO (s.data.toList.drop i)) l)
 else if Lib.hasPrefix (s.data.toList.drop i) [47,42]=true then
  if Lib.index ((s.data.toList.drop i).drop 2) [42,47]<0 then some (.bad i)
  else some (.go (i+((Lib.index ((s.data.toList.drop i).drop 2) [42,47]).toNat+4))
   (if Lib.contains ((s.data.toList.drop i).take ((Lib.index ((s.data.toList.drop i).drop 2) [42,47]).toNat+4)) [10]=true then fm l i else l))
 else none
def LD(X:Nat)(s:ByteArray)(w:World)(r:Option RZ)(e:Ending)(w':World):Prop:=
 match r with
 |none=>e=.returned (.bool false)/\Below w w w'
 |some r=>iL X s w r (.bool true) e w'
theorem pK(X:Nat)(s:ByteArray)(i:Nat)(l:List cY)(w:World)(h:iQ w X s i l)(hT:dk w)(hl:l.length+1<=65537)(g7:∀t∈l,t.text.size<=65536):
  Calls Tryz.prog 96 #[X] w (LD X s w (iD s i l)):=by
 obtain⟨lv,nv,ns,ha⟩:=h.out;have hb:=ha.blk;have hu:=h.le;have gt:=h.most;have gu:=hb.lt;obtain⟨x0,x1,x2,x3,-,-,-,-⟩:=ag hb;(have p0:(0:Int)<=(i:Int):=by omega);(have p2:(i:Int)<=(s.size:Int):=by omega);have H1:=hid (fun w=>dm (s.extract i s.size) ⟨#[47,47]⟩ w);have H2:=hid (fun w=>dm (s.extract i s.size) ⟨#[47,42]⟩ w);have H3:=hid (fun w=>rN (s.extract i s.size) 10 w);have g0:=fx s i;have gs:=fw s i;have H4:=hid (fun w'(hT:dk w')=>G0 ((s.extract i s.size).extract 2 (s.extract i s.size).size) ⟨#[42,47]⟩ w' hT (by rw[fx];omega));have H5:=hid (fun n w'(hT:dk w')=>eZ ((s.extract i s.size).extract 0 n) ⟨#[10]⟩ w' hT (by rw[jT];omega));have he:iD s i l=if Lib.hasPrefix (s.extract i s.size).data.toList [47,47]=true then some (.go (i+nO (s.extract i s.size).data.toList) l)
  else if Lib.hasPrefix (s.extract i s.size).data.toList [47,42]=true then
  if Lib.index ((s.extract i s.size).data.toList.drop 2) [42,47]<0 then some (.bad i)
  else some (.go (i+((Lib.index ((s.extract i s.size).data.toList.drop 2) [42,47]).toNat+4))
   (if Lib.contains ((s.extract i s.size).data.toList.take ((Lib.index ((s.extract i s.size).data.toList.drop 2) [42,47]).toNat+4)) [10]=true then fm l i else l))
  else none:=by rw[gs];rfl
 have gn:=hid he;have gy:=hid (fun w'(h:iQ w' X s i l)(hT:dk w')=>wL X s i l (i:Int) hl w' h hT g7);have g5:=hid g0;have HT:=hid hT;have HH:=hid h;clear he gs g7 g0 hT h ha hb;(go_enter Tryz.func96,Tryz.ntmps96);(go_wp2_with fail);go_quiet (fail);clear x0 x2 x3;have y1:(w.drewN nq).cell? ⟨X,1,none⟩=some (.int .i64 (i:Int)):=x1;clear x1;have hB:=bC (gG w.heap.size w) nq;generalize w.drewN nq=w1 at *;generalize s.extract i s.size=t at *;(have hp:t.size<=s.size:=by have:=g5.out;omega);rw[fw]at H4;have g6:t.data.toList.length=t.size:=rfl;have g4:=hid g6;clear g6;cases gd:Lib.hasPrefix t.data.toList [47,47]with
 |true=>
  rw[gd]at H1;have g2:=wP t.data.toList gd;have HR:=hid (show iD s i l=some (.go (i+nO t.data.toList) l)by rw[gn.out,gE gd]);have hf:Hid (nO t.data.toList=if Lib.indexByte t.data.toList 10<0 then t.size else(Lib.indexByte t.data.toList 10).toNat):=hid rfl;clear gn H2 H4 H5 gy gd;generalize nO t.data.toList=N at *;(have hj:N<=t.size:=by rw[<-g4.out];exact g2.2);have hk:=g2.1;have gp:t.size=s.size-i:=g5.out;have HI:Hid (i+N<=s.size):=hid (by omega);have hm:=hid gp;clear g2 gp;have ho:=hid (fun w=>show Calls Tryz.prog 115 #[.string t,.int .u8 10] w (fun e w'=>e=.returned (.int .i64 (Lib.indexByte t.data.toList 10))/\w=w')from H3.out w);clear H3;generalize Lib.indexByte t.data.toList 10=ib at *;(go_wp2_with fail);refine(H1.out _).mono ?_;rintro e w2⟨rfl,rfl⟩;(go_wp2_with fail);refine(ho.out _).mono ?_;rintro e w2⟨rfl,rfl⟩;have M:=HH.out.below hB;have gb:Below X w w1:=hB.mono (jN gu);have hh:i+N<=s.size:=HI.out;by_cases gl:ib<0
  ·have hn:Hid (N=t.size):=hid (by have:=hf.out;rw[gE gl]at this;exact this);(have g8:decide (ib<0)=true:=by rw[gS];exact gl);clear gl;(go_upto_region 14 with fail);rw[show(t.size:Int)=(N:Int)by rw[hn.out]];obtain⟨gg,g1,ge,I⟩:=M.out;obtain⟨x0,x1,x2,x3,f0,f1,f2,f3⟩:=ag I.blk;have qn:IntKind.i64.wrap ((i:Int)+(N:Int))=(i:Int)+(N:Int):=gO _ (by omega);have D:=I.set (i+N) (by omega);rw[show((i+N:Nat):Int)=(i:Int)+(N:Int)by omega]at D;have U:=hid D;have gj:Below X w (w1.setCell ⟨X,1,none⟩ (.int .i64 ((i:Int)+(N:Int)))):=gb.setCell (d5 _) _;have gr:=I.nfew;have O:=M.few;clear D I M gb;(go_upto_region 15 with fail);generalize w1.setCell ⟨X,1,none⟩ (.int .i64 ((i:Int)+(N:Int)))=w7 at *;clear x0 x1 x2 x3 f0 f1 f2 f3;have D:=U.out;have hN:=D.notes;have g3:=D.blk.lt;obtain⟨x0,x1,x2,x3,f0,f1,f2,f3⟩:=ag D.blk;obtain⟨A0,c0,gh,_⟩:=hN.form;subst gh;(have p7:(N:Int)<=(t.size:Int):=by omega);go_region_law (first
    |(refine nf (by rfl) (.tmp 60) (.tmp 66) (by rfl) (X+1) _ _ ge ⟨0,t.extract 0 N,i⟩ (by rfl) _ (by rfl) (by simp) (hN.below (gG _ _).drew) (by simp;omega) (by omega) ?_;intro g c w8 J;have gi:=(au.drew D.blk).below J.bel (qd _);obtain⟨z0,z1,z2,z3,y0,y1,y2,y3⟩:=ag gi))
   all_goals(go_wp2_with fail);go_ret;rw[HR.out];exact⟨rfl,⟨⟨gg,_,_,(D.below (gG _ _).drew).noteRow J (by rw[gJ];simp;omega)⟩,by omega,gt,O⟩,((gj.drew).trans (J.bel.mono (jE _))).setCell (d5 _) _⟩
  ·(obtain rfl:ib=(N:Int):=by have:=hf.out;rw[gA gl]at this;omega);(have g8:decide ((N:Int)<0)=false:=by rw[gK];exact gl);clear gl;(go_upto_region 14 with fail);obtain⟨gg,g1,ge,I⟩:=M.out;obtain⟨x0,x1,x2,x3,f0,f1,f2,f3⟩:=ag I.blk;have qn:IntKind.i64.wrap ((i:Int)+(N:Int))=(i:Int)+(N:Int):=gO _ (by omega);have D:=I.set (i+N) (by omega);rw[show((i+N:Nat):Int)=(i:Int)+(N:Int)by omega]at D;have U:=hid D;have gj:Below X w (w1.setCell ⟨X,1,none⟩ (.int .i64 ((i:Int)+(N:Int)))):=gb.setCell (d5 _) _;have gr:=I.nfew;have O:=M.few;clear D I M gb;(go_upto_region 15 with fail);generalize w1.setCell ⟨X,1,none⟩ (.int .i64 ((i:Int)+(N:Int)))=w7 at *;clear x0 x1 x2 x3 f0 f1 f2 f3;have D:=U.out;have hN:=D.notes;have g3:=D.blk.lt;obtain⟨x0,x1,x2,x3,f0,f1,f2,f3⟩:=ag D.blk;obtain⟨A0,c0,gh,_⟩:=hN.form;subst gh;(have p7:(N:Int)<=(t.size:Int):=by omega);go_region_law (first
    |(refine nf (by rfl) (.tmp 60) (.tmp 66) (by rfl) (X+1) _ _ ge ⟨0,t.extract 0 N,i⟩ (by rfl) _ (by rfl) (by simp) (hN.below (gG _ _).drew) (by simp;omega) (by omega) ?_;intro g c w8 J;have gi:=(au.drew D.blk).below J.bel (qd _);obtain⟨z0,z1,z2,z3,y0,y1,y2,y3⟩:=ag gi))
   all_goals(go_wp2_with fail);go_ret;rw[HR.out];exact⟨rfl,⟨⟨gg,_,_,(D.below (gG _ _).drew).noteRow J (by rw[gJ];simp;omega)⟩,by omega,gt,O⟩,((gj.drew).trans (J.bel.mono (jE _))).setCell (d5 _) _⟩
 |false=>
  rw[gd]at H1;clear H3;cases ga:Lib.hasPrefix t.data.toList [47,42]with
  |false=>have HR:Hid (iD s i l=none):=hid (by rw[gn.out,gA (by rw[gd];decide),gA (by rw[ga];decide)]);rw[ga]at H2;clear gn H4 H5 gy gd ga;(go_wp2_with fail);refine(H1.out _).mono ?_;rintro e w2⟨rfl,rfl⟩;(go_wp2_with fail);refine(H2.out _).mono ?_;rintro e w2⟨rfl,rfl⟩;(go_wp2_with fail);go_ret;rw[HR.out];exact⟨rfl,hB⟩
  |true=>
   have ht:2<=t.size:=by
    rw[<-g4.out];cases hq:t.data.toList with
    |nil=>rw[hq]at ga;simp[Lib.hasPrefix]at ga
    |cons a r=>cases r with
      |nil=>rw[hq]at ga;simp[Lib.hasPrefix]at ga
      |cons b r=>simp
   (have hr:(2:Int)<=(t.size:Int):=by omega);rw[ga]at H2;have gq:=Lib.index_room (t.data.toList.drop 2) [42,47];have g9:=Lib.index_ge (t.data.toList.drop 2) [42,47];have gk:=hid gq;have hg:=hid g9;have gx:=hid (show iD s i l=if Lib.index (t.data.toList.drop 2) [42,47]<0 then some (.bad i)else some (.go (i+((Lib.index (t.data.toList.drop 2) [42,47]).toNat+4))
    (if Lib.contains (t.data.toList.take ((Lib.index (t.data.toList.drop 2) [42,47]).toNat+4)) [10]=true then fm l i else l))by rw[gn.out,gA (by rw[gd];decide),gE ga])
   clear gq g9 gn gd ga;generalize Lib.index (t.data.toList.drop 2) [42,47]=ix at *;by_cases gv:ix<0
   ·have HR:=hid (show iD s i l=some (.bad i)by rw[gx.out,gE gv]);(have gz:decide (0<=ix)=false:=by rw[gK];omega);clear gx gk hg gv H5 gy;(go_wp2_with fail);refine(H1.out _).mono ?_;rintro e w2⟨rfl,rfl⟩;(go_wp2_with fail);refine(H2.out _).mono ?_;rintro e w2⟨rfl,rfl⟩;(go_wp2_with fail);refine(H4.out _ (HT.out.below hB)).mono ?_;rintro e w2⟨rfl,rfl⟩;(go_wp2_with fail);refine(iv X i _).mono ?_;rintro e w2⟨rfl,rfl⟩;unfold fy;refine⟨rfl,?_⟩;rw[HR.out];exact⟨rfl,hB.mono (jN gu)⟩
   ·obtain⟨k,rfl⟩:∃k:Nat,ix=(k:Int):=⟨ix.toNat,by omega⟩
    (have hv:k+4<=t.size:=by have:=gk.out (by omega);rw[gR,g4.out]at this;simp at this;omega);(have gz:decide ((0:Int)<=(k:Int))=true:=by rw[gS];omega);have gw:=hid (show iD s i l=some (.go (i+(k+4)) (if Lib.contains (t.data.toList.take (k+4)) [10]=true then fm l i else l))by rw[gx.out,gA gv];rfl);have q4:IntKind.i64.wrap ((k:Int)+4)=(k:Int)+4:=gO _ (by omega);have gp:t.size=s.size-i:=g5.out;have HI:Hid (i+(k+4)<=s.size):=hid (by omega);have H6:=hid (fun w'(hT:dk w')=>H5.out (k+4) w' hT);(have gs:(t.extract 0 (k+4)).data.toList=t.data.toList.take (k+4):=by rw[vr];simp);rw[gs]at H6;have hm:=hid gp;clear gx gk hg gv H5 gp gs;generalize Lib.contains (t.data.toList.take (k+4)) [10]=cn at *;(go_wp2_with fail);refine(H1.out _).mono ?_;rintro e w2⟨rfl,rfl⟩;(go_wp2_with fail);refine(H2.out _).mono ?_;rintro e w2⟨rfl,rfl⟩;(go_wp2_with fail);refine(H4.out _ (HT.out.below hB)).mono ?_;rintro e w2⟨rfl,rfl⟩;(go_wp2_with fail);refine(l7 X i _).mono ?_;rintro e w2⟨rfl,rfl⟩;(go_upto_region 12 with fail);rw[show(k:Int)+4=((k+4:Nat):Int)by omega];(have hk:1<=k+4:=by omega);clear gz q4;generalize k+4=N at *;(have hj:(N:Int)<=(t.size:Int):=by omega);(have hw:(0:Int)<=(N:Int):=by omega);have hh:i+N<=s.size:=HI.out;cases gm:cn with
    |false=>
     have HR:=hid (show iD s i l=some (.go (i+N) l)by rw[gw.out,gm];rfl);rw[gm]at H6;clear gw gm;(go_wp2_with fail);refine(H6.out _ (HT.out.below hB)).mono ?_;rintro e w2⟨rfl,rfl⟩;have M:=HH.out.below hB;have gb:Below X w w1:=hB.mono (jN gu);(go_upto_region 14 with fail);obtain⟨gg,g1,ge,I⟩:=M.out;obtain⟨x0,x1,x2,x3,f0,f1,f2,f3⟩:=ag I.blk;have qn:IntKind.i64.wrap ((i:Int)+(N:Int))=(i:Int)+(N:Int):=gO _ (by omega);have D:=I.set (i+N) (by omega);rw[show((i+N:Nat):Int)=(i:Int)+(N:Int)by omega]at D;have U:=hid D;have gj:Below X w (w1.setCell ⟨X,1,none⟩ (.int .i64 ((i:Int)+(N:Int)))):=gb.setCell (d5 _) _;have gr:=I.nfew;have O:=M.few;clear D I M gb;(go_upto_region 15 with fail);generalize w1.setCell ⟨X,1,none⟩ (.int .i64 ((i:Int)+(N:Int)))=w7 at *;clear x0 x1 x2 x3 f0 f1 f2 f3;have D:=U.out;have hN:=D.notes;have g3:=D.blk.lt;obtain⟨x0,x1,x2,x3,f0,f1,f2,f3⟩:=ag D.blk;obtain⟨A0,c0,gh,_⟩:=hN.form;subst gh;(have p7:(N:Int)<=(t.size:Int):=by omega);go_region_law (first
      |(refine nf (by rfl) (.tmp 60) (.tmp 66) (by rfl) (X+1) _ _ ge ⟨0,t.extract 0 N,i⟩ (by rfl) _ (by rfl) (by simp) (hN.below (gG _ _).drew) (by simp;omega) (by omega) ?_;intro g c w8 J;have gi:=(au.drew D.blk).below J.bel (qd _);obtain⟨z0,z1,z2,z3,y0,y1,y2,y3⟩:=ag gi))
     all_goals(go_wp2_with fail);go_ret;rw[HR.out];exact⟨rfl,⟨⟨gg,_,_,(D.below (gG _ _).drew).noteRow J (by rw[gJ];simp;omega)⟩,by omega,gt,O⟩,((gj.drew).trans (J.bel.mono (jE _))).setCell (d5 _) _⟩
    |true=>
     have HR:=hid (show iD s i l=some (.go (i+N) (fm l i))by rw[gw.out,gm];rfl);rw[gm]at H6;clear gw gm;(go_wp2_with fail);refine(H6.out _ (HT.out.below hB)).mono ?_;rintro e w2⟨rfl,rfl⟩;(go_wp2_with fail);refine(gy.out _ (HH.out.below hB) (HT.out.below hB)).mono ?_;rintro e w3⟨rfl,M,hi⟩;have gb:Below X w w3:=(hB.mono (jN gu)).trans hi;(go_upto_region 14 with fail);obtain⟨gg,g1,ge,I⟩:=M.out;obtain⟨x0,x1,x2,x3,f0,f1,f2,f3⟩:=ag I.blk;have qn:IntKind.i64.wrap ((i:Int)+(N:Int))=(i:Int)+(N:Int):=gO _ (by omega);have D:=I.set (i+N) (by omega);rw[show((i+N:Nat):Int)=(i:Int)+(N:Int)by omega]at D;have U:=hid D;have gj:Below X w (w3.setCell ⟨X,1,none⟩ (.int .i64 ((i:Int)+(N:Int)))):=gb.setCell (d5 _) _;have gr:=I.nfew;have O:=M.few;clear D I M gb;(go_upto_region 15 with fail);generalize w3.setCell ⟨X,1,none⟩ (.int .i64 ((i:Int)+(N:Int)))=w7 at *;clear x0 x1 x2 x3 f0 f1 f2 f3;have D:=U.out;have hN:=D.notes;have g3:=D.blk.lt;obtain⟨x0,x1,x2,x3,f0,f1,f2,f3⟩:=ag D.blk;obtain⟨A0,c0,gh,_⟩:=hN.form;subst gh;(have p7:(N:Int)<=(t.size:Int):=by omega);go_region_law (first
      |(refine nf (by rfl) (.tmp 60) (.tmp 66) (by rfl) (X+1) _ _ ge ⟨0,t.extract 0 N,i⟩ (by rfl) _ (by rfl) (by simp) (hN.below (gG _ _).drew) (by simp;omega) (by omega) ?_;intro g c w8 J;have gi:=(au.drew D.blk).below J.bel (qd _);obtain⟨z0,z1,z2,z3,y0,y1,y2,y3⟩:=ag gi))
     all_goals(go_wp2_with fail);go_ret;rw[HR.out];exact⟨rfl,⟨⟨gg,_,_,(D.below (gG _ _).drew).noteRow J (by rw[gJ];simp;omega)⟩,by omega,gt,O⟩,((gj.drew).trans (J.bel.mono (jE _))).setCell (d5 _) _⟩
def sL(s:ByteArray)(i:Nat)(l:List cY):RZ:=
 match bF (aa s i) (s.data.toList.drop (i+1)) false 0 with
 |some k=>.go (i+k+2) (l++[⟨5,s.extract i (i+k+2),i⟩])
 |none=>.bad i
theorem mT(t:ByteArray)(j:Nat)(h:j<t.size):∃c r,t.data.toList.drop j=c::r/\c.toNat=aa t j/\r=t.data.toList.drop (j+1):=by have h':j<t.data.toList.length:=h;refine⟨t.data.toList[j],t.data.toList.drop (j+1),jX h',?_,rfl⟩;unfold aa;rw[gN,gQ h'];rfl
theorem sM(en:Nat):∀(l:List UInt8)(b:Bool)(k m:Nat),bF en l b k=some m->m<k+l.length
 |[],b,k,m,h=>by cases b<;>simp[bF]at h
 |c::r,true,k,m,h=>by
  rw[bF]at h;split at h
  ·cases h
  ·have:=sM en r false (k+1) m h;simp only[gM];omega
 |c::r,false,k,m,h=>by
  rw[bF]at h;simp only[gM];split at h
  ·have:=sM en r true (k+1) m h;omega
  ·split at h
   ·injection h with h;omega
   ·split at h
    ·cases h
    ·have:=sM en r false (k+1) m h;omega
theorem EG(X:Nat)(s:ByteArray)(i:Nat)(l:List cY)(w:World)(h:iQ w X s i l)(hi:i<s.size)(hl:l.length+1<=65537)(en:Nat)(hn:en=34\/en=96)(gq:aa s i=en):
  Calls Tryz.prog 104 #[X] w (iL X s w (sL s i l) (.tuple #[])):=by
 obtain⟨lv,nv,ns,g7⟩:=h.out;have hb:=g7.blk;have hr:=h.le;have hp:=h.most;have gj:=hb.lt;have HH:=hid h;obtain⟨x0,x1,x2,x3,-,-,-,-⟩:=ag hb;(have p0:(0:Int)<=(i:Int):=by omega);(have p2:(i:Int)<(s.size:Int):=by omega);(have p3:(i:Int)+1<=(s.size:Int):=by omega);have q1:IntKind.i64.wrap ((i:Int)+1)=(i:Int)+1:=gO _ (by omega);have gl:=fun W=>ef s i hi W;rw[gq]at gl;have hR:∀R,bF en (s.data.toList.drop (i+1)) false 0=R->sL s i l=match R with
   |some k=>.go (i+k+2) (l++[⟨5,s.extract i (i+k+2),i⟩])
   |none=>.bad i:=by rintro R rfl;unfold sL;rw[gq]
 have HQ:=hid hR;have g4:=sM en (s.data.toList.drop (i+1)) false 0;generalize hQ:bF en (s.data.toList.drop (i+1)) false 0=R at *;have HR:=hid (HQ.out R rfl);have ha:Hid (∀m,R=some m->i+m+2<=s.size):=hid (by intro m hm;have:=g4 m hm;rw[gR]at this;have ho:s.data.toList.length=s.size:=rfl;omega);have g5:=fx s (i+1);have g6:=fw s (i+1);rw[<-g6]at hQ;have hv:=hid g5;have g9:=hid hQ;clear g5 g6 hQ g4 HQ hR hb g7 h gq hi;rcases hn with rfl|rfl
 ·(go_enter Tryz.func104,Tryz.ntmps104);(go_wp2_with fail);have gd:=qz w (s.extract (i+1) s.size) 0;have gt:Below w w (w.iter (s.extract (i+1) s.size) 0):=(gG _ w).alloc (d5 _) _;generalize s.extract (i+1) s.size=t at *;clear x0 x1 x2 x3 gl;go_loopg [4,5,6,25,26] t.size (fun g u4 _ _ _ _ wr=>∃(j:Nat)(sl:Bool),j<=t.size/\t.size-j<=g/\u4=.bool sl/\wr.heap[w.heap.size]? = some (.stringIter t j)/\Below w w wr/\bF 34 (t.data.toList.drop j) sl j=R)
  case atStart=>exact⟨0,false,gP _,by omega,rfl,gd,gt,by rw[kW];exact g9.out⟩
  case round=>
   clear gd gt;obtain⟨j,sl,hj,hg,rfl,hit,hB,hq⟩:=hrel;have ga:=hid hit;have HQ:=hid hq;clear hit hq;by_cases M:j<t.size
   ·have I:=fun ty=>qI (P:=Tryz.prog) wr w.heap.size t j ty ga.out M;by_cases gb:aa t j<128
    ·obtain⟨c,rr,gr,gs,gp⟩:=mT t j M;have hd:=l6 t j gb;rw[hd]at I;rw[gr]at HQ;have gh:=hid gp;have J:=hid gs;have j1:=qL wr w.heap.size t j (j+1) ga.out;have O:Below w w (wr.iterAt w.heap.size t (j+1)):=cW hB (d5 _);generalize wr.iterAt w.heap.size t (j+1)=W1 at I j1 O;have J1:=hid j1;clear hd gr gs gp j1;generalize aa t j=bb at *;cases sl with
     |true=>
      by_cases D:bb=10
      ·subst D;have N:Hid (R=none):=hid (by rw[<-HQ.out,bF,gE J.out]);(go_wp2_with fail);refine(iv X i _).mono ?_;rintro e w2⟨rfl,rfl⟩;unfold fy;refine⟨rfl,?_⟩;rw[HR.out,N.out];exact⟨rfl,O.mono (jN gj)⟩
      ·(have gu:((bb:Int) != 10)=true:=by rw[kU];omega);have N:Hid (bF 34 rr false (j+1)=R):=hid (by rw[<-HQ.out,bF,gA (by rw[J.out];exact D)]);clear D;(go_wp2_with fail);refine(l7 X _ _).mono ?_;rintro e w2⟨rfl,rfl⟩;(go_wp2_with fail);go_roundg (t.size-(j+1))
       case measure=>omega
       case rel=>exact⟨j+1,false,by omega,d5 _,rfl,J1.out,O,by rw[<-gh.out];exact N.out⟩
     |false=>
      by_cases gn:bb=34
      ·subst gn;have N:Hid (R=some j):=hid (by rw[<-HQ.out,bF,gA (by rw[J.out];omega),gE J.out]);have g0:=ha.out j N.out;have gi:=HH.out.below O;obtain⟨hk,he,hf,gg⟩:=gi.out;obtain⟨x0,x1,x2,x3,f0,f1,f2,f3⟩:=ag gg.blk;have q2:IntKind.i64.wrap ((i:Int)+(j:Int))=(i:Int)+(j:Int):=gO _ (by omega);have q3:IntKind.i64.wrap ((i:Int)+(j:Int)+2)=(i:Int)+(j:Int)+2:=gO _ (by omega);have U:=gi.set (i+j+2) (by omega) g0;rw[show((i+j+2:Nat):Int)=(i:Int)+(j:Int)+2 by omega]at U;have gv:=hid U;clear U gg gi;(go_wp2_with fail);refine(mj X s (i+j+2) l 5 i (by omega) hl _ gv.out).mono ?_;rintro e w4⟨rfl,gx,g1⟩;(go_wp2_with fail);refine jL (qk rfl _ _ _) rfl ?_;rw[HR.out,N.out];exact⟨rfl,gx,((O.mono (jN gj)).setCell (d5 _) _).trans g1⟩
      ·by_cases ge:bb=92
       ·subst ge;have N:Hid (bF 34 rr true (j+1)=R):=hid (by rw[<-HQ.out,bF,gE ⟨J.out,rfl⟩]);(go_wp2_with fail);go_roundg (t.size-(j+1))
        case measure=>omega
        case rel=>exact⟨j+1,true,by omega,d5 _,rfl,J1.out,O,by rw[<-gh.out];exact N.out⟩
       ·by_cases D:bb=10
        ·subst D;have N:Hid (R=none):=hid (by rw[<-HQ.out,bF,gA (by rw[J.out];omega),gA (by rw[J.out];omega),gE ⟨J.out,by omega⟩]);(go_wp2_with fail);refine(iv X i _).mono ?_;rintro e w2⟨rfl,rfl⟩;unfold fy;refine⟨rfl,?_⟩;rw[HR.out,N.out];exact⟨rfl,O.mono (jN gj)⟩
        ·have N:Hid (bF 34 rr false (j+1)=R):=hid (by rw[<-HQ.out,bF,gA (by rw[J.out];omega),gA (by rw[J.out];omega),gA (by rw[J.out];omega)]);(have g2:((bb:Int)==92)=false:=by rw[gF];omega);(have hu:((bb:Int)==34)=false:=by rw[gF];omega);(have gu:((bb:Int)==10)=false:=by rw[gF];omega);clear gn ge D;(go_wp2_with fail);go_roundg (t.size-(j+1))
         case measure=>omega
         case rel=>exact⟨j+1,false,by omega,d5 _,rfl,J1.out,O,by rw[<-gh.out];exact N.out⟩
    ·have hh:=ln t j M (by omega);have gm:=hid (fun b=>pI 34 (by omega) (Utf8.decode t j).2 (t.data.toList.drop j) b j (by rw[gR];have:t.data.toList.length=t.size:=rfl;omega) (fun m hm=>by have:=hh.2.2.2 m hm;unfold aa at this;rw[gN,kY,<-gN];exact this));have gz:=hh.1;have gy:=hh.2.1;have yk:=hh.2.2.1;clear hh gb;generalize Utf8.decode t j=q at *;obtain⟨r,k⟩:=q;simp only at gz gy yk I gm;have gw:Hid (bF 34 (t.data.toList.drop (j+k)) false (j+k)=R):=hid (by have:=gm.out sl;rw[HQ.out,vm]at this;rw[this,show(k==0)=false by rw[gF];omega,vk]);clear gm;have j1:=qL wr w.heap.size t j (j+k) ga.out;have O:Below w w (wr.iterAt w.heap.size t (j+k)):=cW hB (d5 _);generalize wr.iterAt w.heap.size t (j+k)=W1 at I j1 O;have J1:=hid j1;clear j1;(have g8:((r:Int) != 10)=true:=by rw[kU];omega);(have gu:((r:Int)==10)=false:=by rw[gF];omega);(have g2:((r:Int)==92)=false:=by rw[gF];omega);(have een:((r:Int)==34)=false:=by rw[gF];omega);cases sl with
     |true=>
      (go_wp2_with fail);refine(l7 X _ _).mono ?_;rintro e w2⟨rfl,rfl⟩;(go_wp2_with fail);go_roundg (t.size-(j+k))
      case measure=>omega
      case rel=>exact⟨j+k,false,yk,d5 _,rfl,J1.out,O,gw.out⟩
     |false=>
      (go_wp2_with fail);go_roundg (t.size-(j+k))
      case measure=>omega
      case rel=>exact⟨j+k,false,yk,d5 _,rfl,J1.out,O,gw.out⟩
   ·have g3:=fun ty=>qA (P:=Tryz.prog) wr w.heap.size t j ty ga.out M;have N:Hid (R=none):=hid (by rw[<-HQ.out,jU (by have:t.data.toList.length=t.size:=rfl;omega)];cases sl<;>rfl);(go_wp2_with fail);refine(iv X i _).mono ?_;rintro e w2⟨rfl,rfl⟩;unfold fy;refine⟨rfl,?_⟩;rw[HR.out,N.out];exact⟨rfl,hB.mono (jN gj)⟩
 ·(go_enter Tryz.func104,Tryz.ntmps104);(go_wp2_with fail);have gd:=qz w (s.extract (i+1) s.size) 0;have gt:Below w w (w.iter (s.extract (i+1) s.size) 0):=(gG _ w).alloc (d5 _) _;generalize s.extract (i+1) s.size=t at *;clear x0 x1 x2 x3 gl;go_loopg [4,5,6,25,26] t.size (fun g u4 _ _ _ _ wr=>∃(j:Nat)(sl:Bool),j<=t.size/\t.size-j<=g/\u4=.bool sl/\wr.heap[w.heap.size]? = some (.stringIter t j)/\Below w w wr/\bF 96 (t.data.toList.drop j) sl j=R)
  case atStart=>exact⟨0,false,gP _,by omega,rfl,gd,gt,by rw[kW];exact g9.out⟩
  case round=>
   clear gd gt;obtain⟨j,sl,hj,hg,rfl,hit,hB,hq⟩:=hrel;have ga:=hid hit;have HQ:=hid hq;clear hit hq;by_cases M:j<t.size
   ·have I:=fun ty=>qI (P:=Tryz.prog) wr w.heap.size t j ty ga.out M;by_cases gb:aa t j<128
    ·obtain⟨c,rr,gr,gs,gp⟩:=mT t j M;have hd:=l6 t j gb;rw[hd]at I;rw[gr]at HQ;have gh:=hid gp;have J:=hid gs;have j1:=qL wr w.heap.size t j (j+1) ga.out;have O:Below w w (wr.iterAt w.heap.size t (j+1)):=cW hB (d5 _);generalize wr.iterAt w.heap.size t (j+1)=W1 at I j1 O;have J1:=hid j1;clear hd gr gs gp j1;generalize aa t j=bb at *;cases sl with
     |true=>
      by_cases D:bb=10
      ·subst D;have N:Hid (R=none):=hid (by rw[<-HQ.out,bF,gE J.out]);(go_wp2_with fail);refine(iv X i _).mono ?_;rintro e w2⟨rfl,rfl⟩;unfold fy;refine⟨rfl,?_⟩;rw[HR.out,N.out];exact⟨rfl,O.mono (jN gj)⟩
      ·(have gu:((bb:Int) != 10)=true:=by rw[kU];omega);have N:Hid (bF 96 rr false (j+1)=R):=hid (by rw[<-HQ.out,bF,gA (by rw[J.out];exact D)]);clear D;(go_wp2_with fail);refine(l7 X _ _).mono ?_;rintro e w2⟨rfl,rfl⟩;(go_wp2_with fail);go_roundg (t.size-(j+1))
       case measure=>omega
       case rel=>exact⟨j+1,false,by omega,d5 _,rfl,J1.out,O,by rw[<-gh.out];exact N.out⟩
     |false=>
      by_cases gn:bb=96
      ·subst gn;have N:Hid (R=some j):=hid (by rw[<-HQ.out,bF,gA (by rw[J.out];omega),gE J.out]);have g0:=ha.out j N.out;have gi:=HH.out.below O;obtain⟨hk,he,hf,gg⟩:=gi.out;obtain⟨x0,x1,x2,x3,f0,f1,f2,f3⟩:=ag gg.blk;have q2:IntKind.i64.wrap ((i:Int)+(j:Int))=(i:Int)+(j:Int):=gO _ (by omega);have q3:IntKind.i64.wrap ((i:Int)+(j:Int)+2)=(i:Int)+(j:Int)+2:=gO _ (by omega);have U:=gi.set (i+j+2) (by omega) g0;rw[show((i+j+2:Nat):Int)=(i:Int)+(j:Int)+2 by omega]at U;have gv:=hid U;clear U gg gi;(go_wp2_with fail);refine(mj X s (i+j+2) l 5 i (by omega) hl _ gv.out).mono ?_;rintro e w4⟨rfl,gx,g1⟩;(go_wp2_with fail);refine jL (qk rfl _ _ _) rfl ?_;rw[HR.out,N.out];exact⟨rfl,gx,((O.mono (jN gj)).setCell (d5 _) _).trans g1⟩
      ·by_cases D:bb=10
       ·subst D;have N:Hid (bF 96 rr false (j+1)=R):=hid (by rw[<-HQ.out,bF,gA (by omega),gA (by rw[J.out];omega),gA (by omega)]);(go_wp2_with fail);refine(l7 X _ _).mono ?_;rintro e w2⟨rfl,rfl⟩;(go_wp2_with fail);go_roundg (t.size-(j+1))
        case measure=>omega
        case rel=>exact⟨j+1,false,by omega,d5 _,rfl,J1.out,O,by rw[<-gh.out];exact N.out⟩
       ·by_cases ge:bb=92
        ·subst ge;have N:Hid (bF 96 rr false (j+1)=R):=hid (by rw[<-HQ.out,bF,gA (by omega),gA (by rw[J.out];omega),gA (by omega)]);clear gn D;(go_wp2_with fail);go_roundg (t.size-(j+1))
         case measure=>omega
         case rel=>exact⟨j+1,false,by omega,d5 _,rfl,J1.out,O,by rw[<-gh.out];exact N.out⟩
        ·have N:Hid (bF 96 rr false (j+1)=R):=hid (by rw[<-HQ.out,bF,gA (by omega),gA (by rw[J.out];omega),gA (by omega)]);(have g2:((bb:Int)==92)=false:=by rw[gF];omega);(have ht:((bb:Int)==96)=false:=by rw[gF];omega);(have gu:((bb:Int)==10)=false:=by rw[gF];omega);clear gn ge D;(go_wp2_with fail);go_roundg (t.size-(j+1))
         case measure=>omega
         case rel=>exact⟨j+1,false,by omega,d5 _,rfl,J1.out,O,by rw[<-gh.out];exact N.out⟩
    ·have hh:=ln t j M (by omega);have gm:=hid (fun b=>pI 96 (by omega) (Utf8.decode t j).2 (t.data.toList.drop j) b j (by rw[gR];have:t.data.toList.length=t.size:=rfl;omega) (fun m hm=>by have:=hh.2.2.2 m hm;unfold aa at this;rw[gN,kY,<-gN];exact this));have gz:=hh.1;have gy:=hh.2.1;have yk:=hh.2.2.1;clear hh gb;generalize Utf8.decode t j=q at *;obtain⟨r,k⟩:=q;simp only at gz gy yk I gm;have gw:Hid (bF 96 (t.data.toList.drop (j+k)) false (j+k)=R):=hid (by have:=gm.out sl;rw[HQ.out,vm]at this;rw[this,show(k==0)=false by rw[gF];omega,vk]);clear gm;have j1:=qL wr w.heap.size t j (j+k) ga.out;have O:Below w w (wr.iterAt w.heap.size t (j+k)):=cW hB (d5 _);generalize wr.iterAt w.heap.size t (j+k)=W1 at I j1 O;have J1:=hid j1;clear j1;(have g8:((r:Int) != 10)=true:=by rw[kU];omega);(have gu:((r:Int)==10)=false:=by rw[gF];omega);(have g2:((r:Int)==92)=false:=by rw[gF];omega);(have een:((r:Int)==96)=false:=by rw[gF];omega);cases sl with
     |true=>
      (go_wp2_with fail);refine(l7 X _ _).mono ?_;rintro e w2⟨rfl,rfl⟩;(go_wp2_with fail);go_roundg (t.size-(j+k))
      case measure=>omega
      case rel=>exact⟨j+k,false,yk,d5 _,rfl,J1.out,O,gw.out⟩
     |false=>
      (go_wp2_with fail);go_roundg (t.size-(j+k))
      case measure=>omega
      case rel=>exact⟨j+k,false,yk,d5 _,rfl,J1.out,O,gw.out⟩
   ·have g3:=fun ty=>qA (P:=Tryz.prog) wr w.heap.size t j ty ga.out M;have N:Hid (R=none):=hid (by rw[<-HQ.out,jU (by have:t.data.toList.length=t.size:=rfl;omega)];cases sl<;>rfl);(go_wp2_with fail);refine(iv X i _).mono ?_;rintro e w2⟨rfl,rfl⟩;unfold fy;refine⟨rfl,?_⟩;rw[HR.out,N.out];exact⟨rfl,hB.mono (jN gj)⟩
theorem LE(k:Int)(D:k=0\/k=1\/k=2)(w:World):(Instr.index 104 (.agg #[.int .i64 1,.int .i64 2,.int .i64 3]) (.int .i64 k)).run Tryz.prog w=.ok (.int .i64 (k+1)) w:=by rcases D with rfl|rfl|rfl;all_goals simp[Instr.index,run_underlying Tryz.underlying104,asIntOf,go_sem]
theorem Dc(s:ByteArray):bZ s=0\/bZ s=1\/bZ s=2:=by
 unfold bZ;split
 ·exact .inr (.inl rfl)
 ·split
  ·exact .inr (.inr rfl)
  ·exact .inl rfl
theorem EH(l:List UInt8):bX l<=l.length:=by unfold bX;exact(List.takeWhile_sublist _).length_le
theorem G2(X:Nat)(s:ByteArray)(i:Nat)(l:List cY)(w:World)(h:iQ w X s i l)(hi:i<s.size)(U:i=0)(D:Lib.hasPrefix s.data.toList [239,187,191]=true):
  Calls Tryz.prog 73 #[X] w (sJ X s w 3 l (.tuple #[])):=by
 obtain⟨lv,nv,ns,I⟩:=h.out;have hb:=I.blk;have ga:=h.most;have gb:=hb.lt;obtain⟨x0,x1,x2,x3,f0,f1,f2,f3⟩:=ag hb;have N:=fun W=>ef s i hi W;subst U;have O:=hid (fun w=>dm s ⟨#[239,187,191]⟩ w);rw[show(⟨#[239,187,191]⟩:BA).data.toList=[239,187,191]from rfl,D]at O;have h3:3<=s.size:=by
  show 3<=s.data.toList.length;cases M:s.data.toList with
  |nil=>rw[M]at D;simp[Lib.hasPrefix]at D
  |cons a r=>cases r with
    |nil=>rw[M]at D;simp[Lib.hasPrefix]at D
    |cons b r=>cases r with
      |nil=>rw[M]at D;simp[Lib.hasPrefix]at D
      |cons c r=>simp
 have J:=hid (h.set 3 (by omega) h3);clear D I hb h;(go_enter Tryz.func73,Tryz.ntmps73);(go_wp2_with fail);refine(O.out _).mono ?_;rintro e w2⟨rfl,rfl⟩;(go_wp2_with fail);go_end0;exact⟨rfl,J.out,(gG X w).setCell (by exact d5 X) _⟩
theorem EI(X:Nat)(s:ByteArray)(i:Nat)(l:List cY)(w:World)(h:iQ w X s i l)(hi:i<s.size)(hm:i=0->Lib.hasPrefix s.data.toList [239,187,191]=false)(c:Nat)(O:c=32\/c=9\/c=13)(hc:aa s i=c):
  Calls Tryz.prog 73 #[X] w (sJ X s w (i+1) l (.tuple #[])):=by
 obtain⟨lv,nv,ns,M⟩:=h.out;have hb:=M.blk;have ga:=h.most;have gb:=hb.lt;obtain⟨x0,x1,x2,x3,f0,f1,f2,f3⟩:=ag hb;have I:=fun W=>ef s i hi W;rw[hc]at I;have HM:=hid (fun(J:i=0)w=>dm s ⟨#[239,187,191]⟩ w);have U:=hid (fun(J:i=0)w=>show Calls Tryz.prog 95 #[.string s,.string ⟨#[239,187,191]⟩] w (fun e w'=>e=.returned (.bool false)/\w=w')by have:=HM.out J w;rw[show(⟨#[239,187,191]⟩:BA).data.toList=[239,187,191]from rfl,hm J]at this;exact this);clear hm HM;have D:=h.set (i+1) (by omega) (by omega);rw[show((i+1:Nat):Int)=(i:Int)+1 by omega]at D;have N:=hid D;have q1:IntKind.i64.wrap ((i:Int)+1)=(i:Int)+1:=gO _ (by omega);clear D hc M hb;rcases O with rfl|rfl|rfl;all_goals
  cases J:((i:Int)==0);all_goals
   (go_enter Tryz.func73,Tryz.ntmps73);(go_wp2_with fail);try
    refine(U.out (by have:=beq_iff_eq.1 J;omega) _).mono ?_
    rintro e w2⟨rfl,rfl⟩
    go_wp2_with fail
   go_end0;exact⟨rfl,N.out,(gG X w).setCell (by exact d5 X) _⟩
theorem O2(X:Nat)(s:ByteArray)(i:Nat)(l:List cY)(w:World)(h:iQ w X s i l)(hi:i<s.size)(hm:i=0->Lib.hasPrefix s.data.toList [239,187,191]=false)(hc:aa s i=10)(hl:l.length+1<=65537)(hT:dk w)(M:∀t∈l,t.text.size<=65536):
  Calls Tryz.prog 73 #[X] w (sJ X s w (i+1) (fm l i) (.tuple #[])):=by
 obtain⟨lv,nv,ns,U⟩:=h.out;have hb:=U.blk;have gi:=h.most;have gj:=hb.lt;obtain⟨x0,x1,x2,x3,f0,f1,f2,f3⟩:=ag hb;have I:=fun W=>ef s i hi W;rw[hc]at I;have HM:=hid (fun(J:i=0)w=>dm s ⟨#[239,187,191]⟩ w);have gd:=hid (fun(J:i=0)w=>show Calls Tryz.prog 95 #[.string s,.string ⟨#[239,187,191]⟩] w (fun e w'=>e=.returned (.bool false)/\w=w')by have:=HM.out J w;rw[show(⟨#[239,187,191]⟩:BA).data.toList=[239,187,191]from rfl,hm J]at this;exact this);clear hm HM;have q1:IntKind.i64.wrap ((i:Int)+1)=(i:Int)+1:=gO _ (by omega);have HL:=hid (wL X s i l (i:Int) hl w h hT M);clear hc U hb h hT M;cases J:((i:Int)==0);all_goals
  (go_enter Tryz.func73,Tryz.ntmps73);(go_wp2_with fail);try
   refine(gd.out (by have:=beq_iff_eq.1 J;omega) _).mono ?_
   rintro e w2⟨rfl,rfl⟩
   go_wp2_with fail
  refine HL.out.mono ?_;rintro e w2⟨rfl,N,gb⟩;have D:=N.set (i+1) (by omega) (by omega);rw[show((i+1:Nat):Int)=(i:Int)+1 by omega]at D;have ga:=hid D;obtain⟨gh,ge,gg,O⟩:=N.out;clear x0 x1 x2 x3 f0 f1 f2 f3 D HL;obtain⟨x0,x1,x2,x3,f0,f1,f2,f3⟩:=ag O.blk;(go_wp2_with fail);go_end0;exact⟨rfl,ga.out,gb.setCell (by exact d5 X) _⟩
theorem G3(X:Nat)(s:ByteArray)(i:Nat)(l:List cY)(w:World)(h:iQ w X s i l)(hi:i<s.size)(hm:i=0->Lib.hasPrefix s.data.toList [239,187,191]=false)(hn:aa s i≠10/\aa s i≠32/\aa s i≠9/\aa s i≠13)(hl:l.length+1<=65537)(hT:dk w)(J:∀t∈l,t.text.size<=65536)(r:RZ)(hr:iD s i l=some r):
  Calls Tryz.prog 73 #[X] w (iL X s w r (.tuple #[])):=by
 obtain⟨lv,nv,ns,M⟩:=h.out;have hb:=M.blk;have ga:=h.most;have gb:=hb.lt;obtain⟨x0,x1,x2,x3,f0,f1,f2,f3⟩:=ag hb;have U:=fun W=>ef s i hi W;have HM:=hid (fun(D:i=0)w=>dm s ⟨#[239,187,191]⟩ w);have N:=hid (fun(D:i=0)w=>show Calls Tryz.prog 95 #[.string s,.string ⟨#[239,187,191]⟩] w (fun e w'=>e=.returned (.bool false)/\w=w')by have:=HM.out D w;rw[show(⟨#[239,187,191]⟩:BA).data.toList=[239,187,191]from rfl,hm D]at this;exact this);clear hm HM;have HN:=hid (pK X s i l w h hT hl J);have gd:=eU s i;generalize aa s i=c at *;obtain⟨m1,m2,m3,m4⟩:=hn;(have gh:((c:Int)==10)=false:=by rw[gF];omega);(have ge:((c:Int)==32)=false:=by rw[gF];omega);(have e9:((c:Int)==9)=false:=by rw[gF];omega);(have gg:((c:Int)==13)=false:=by rw[gF];omega);have qc:IntKind.i32.wrap (c:Int)=(c:Int):=qt _ (by omega);clear m1 m2 m3 m4;rw[hr]at HN;clear hr M hb h hT J;cases r with
 |go i2 l2=>
  cases D:((i:Int)==0);all_goals
   (go_enter Tryz.func73,Tryz.ntmps73);(go_wp2_with fail);try
    refine(N.out (by have:=beq_iff_eq.1 D;omega) _).mono ?_
    rintro e w2⟨rfl,rfl⟩
    go_wp2_with fail
   refine HN.out.mono ?_;rintro e w2⟨rfl,O,I⟩;(go_wp2_with fail);go_end0;exact⟨rfl,O,I⟩
 |bad p=>
  cases D:((i:Int)==0);all_goals
   (go_enter Tryz.func73,Tryz.ntmps73);(go_wp2_with fail);try
    refine(N.out (by have:=beq_iff_eq.1 D;omega) _).mono ?_
    rintro e w2⟨rfl,rfl⟩
    go_wp2_with fail
   refine HN.out.mono ?_;rintro e w2⟨rfl,I⟩;unfold fy;exact⟨rfl,rfl,I⟩
theorem Dd(X:Nat)(s:ByteArray)(i:Nat)(l:List cY)(w:World)(h:iQ w X s i l)(hi:i<s.size)(hm:i=0->Lib.hasPrefix s.data.toList [239,187,191]=false)(hn:aa s i≠10/\aa s i≠32/\aa s i≠9/\aa s i≠13)(hl:l.length+1<=65537)(hT:dk w)(N:∀t∈l,t.text.size<=65536)(hr:iD s i l=none)(hc:bo (aa s i:Int)=true):
  Calls Tryz.prog 73 #[X] w (sJ X s w (i+bX (s.data.toList.drop i)) (l++[⟨bZ (s.extract i (i+bX (s.data.toList.drop i)))+1,s.extract i (i+bX (s.data.toList.drop i)),i⟩]) (.tuple #[])):=by
 obtain⟨lv,nv,ns,ge⟩:=h.out;have hb:=ge.blk;have g0:=h.most;have gi:=hb.lt;obtain⟨x0,x1,x2,x3,f0,f1,f2,f3⟩:=ag hb;have I:=fun W=>ef s i hi W;have HW:=hid (fun w'(hb:Below w w w')=>AP 99 RU RW X s i l w' (h.below hb));have HM:=hid (fun(M:i=0)w=>dm s ⟨#[239,187,191]⟩ w);have gh:=hid (fun(M:i=0)w=>show Calls Tryz.prog 95 #[.string s,.string ⟨#[239,187,191]⟩] w (fun e w'=>e=.returned (.bool false)/\w=w')by have:=HM.out M w;rw[show(⟨#[239,187,191]⟩:BA).data.toList=[239,187,191]from rfl,hm M]at this;exact this);clear hm HM;have J:=hid (fun w=>fg (aa s i:Int) w);rw[hc]at J;clear hc;have HN:=hid (pK X s i l w h hT hl N);have g3:=eU s i;generalize aa s i=c at *;obtain⟨m1,m2,m3,m4⟩:=hn;(have gq:((c:Int)==10)=false:=by rw[gF];omega);(have gn:((c:Int)==32)=false:=by rw[gF];omega);(have e9:((c:Int)==9)=false:=by rw[gF];omega);(have gp:((c:Int)==13)=false:=by rw[gF];omega);have qc:IntKind.i32.wrap (c:Int)=(c:Int):=qt _ (by omega);clear m1 m2 m3 m4;rw[hr]at HN;generalize hwl:i+bX (s.data.toList.drop i)=e at *;(have g2:i<=e:=by omega);clear hr ge hb h hT N hwl;have gj:(e:Int)=(e:Int):=rfl;clear gj;cases M:((i:Int)==0);all_goals
  (go_enter Tryz.func73,Tryz.ntmps73);(go_wp2_with fail);try
   refine(gh.out (by have:=beq_iff_eq.1 M;omega) _).mono ?_
   rintro e w2⟨rfl,rfl⟩
   go_wp2_with fail
  refine HN.out.mono ?_;rintro e2 w2⟨rfl,ga⟩;(go_wp2_with fail);refine(J.out _).mono ?_;rintro e2 w3⟨rfl,rfl⟩;(go_wp2_with fail);refine(HW.out _ ga).mono ?_;rintro e2 w4⟨rfl,D,gm⟩;obtain⟨gz,gv,gx,gd⟩:=D.out;have U:=gd.blk;have gt:=D.le;clear x0 x1 x2 x3 f0 f1 f2 f3;obtain⟨x0,x1,x2,x3,f0,f1,f2,f3⟩:=ag U;(have p0:(0:Int)<=(i:Int):=by omega);(have p1:(i:Int)<=(e:Int):=by omega);(have p2:(e:Int)<=(s.size:Int):=by omega);have hk:=Dc (s.extract i e);have gr:=hid (fun w=>CY (s.extract i e) w);have gg:=fun(w':World)(hb:Below w4 w4 w')=>mj X s e l (bZ (s.extract i e)+1) i (by omega) hl w' (D.below hb);have gs:=hid gg;clear gg;have g1:=fun W=>LE (bZ (s.extract i e)) hk W;generalize bZ (s.extract i e)=kw at *;clear I gh J HN HW gq gn e9 gp qc x2 x3 f0 f1 f2 f3 U;(go_upto_region 13 with fail);go_region_held3 (fun w'=>w'.cell? ⟨X,0,none⟩=some (.string s)/\w'.cell? ⟨X,1,none⟩=some (.int .i64 (e:Int)))
   (first|exact⟨z0,z1⟩|go_keep)
   (first
    |(go_at_call 102;refine(gr.out _).mono ?_;rintro e3 w5⟨rfl,rfl⟩)
    |(go_at_call 101;refine(gs.out _ (gG _ _).drew).mono ?_;rintro e3 w6⟨rfl,O,gl⟩;obtain⟨gy,gu,gw,gb⟩:=O.out;have gk:=gb.blk;obtain⟨z0,z1,-,-,-,-,-,-⟩:=ag gk))
  all_goals(go_wp2_with fail);go_end0;exact⟨rfl,O,((ga.mono (jN gi)).trans gm).drew.trans gl⟩
theorem De(X:Nat)(s:ByteArray)(i:Nat)(l:List cY)(w:World)(h:iQ w X s i l)(hi:i<s.size)(hm:i=0->Lib.hasPrefix s.data.toList [239,187,191]=false)(hn:aa s i≠10/\aa s i≠32/\aa s i≠9/\aa s i≠13)(hl:l.length+1<=65537)(hT:dk w)(J:∀t∈l,t.text.size<=65536)(hr:iD s i l=none)(M:bo (aa s i:Int)=false)(hc:aW (aa s i:Int)=true):
  Calls Tryz.prog 73 #[X] w (sJ X s w (i+bX (s.data.toList.drop i)) (l++[⟨4,s.extract i (i+bX (s.data.toList.drop i)),i⟩]) (.tuple #[])):=by
 obtain⟨lv,nv,ns,U⟩:=h.out;have hb:=U.blk;have gs:=h.most;have ge:=hb.lt;obtain⟨x0,x1,x2,x3,f0,f1,f2,f3⟩:=ag hb;have gh:=fun W=>ef s i hi W;have HW:=hid (fun w'(hb:Below w w w')=>AP 103 RV RX X s i l w' (h.below hb));have HM:=hid (fun(I:i=0)w=>dm s ⟨#[239,187,191]⟩ w);have gl:=hid (fun(I:i=0)w=>show Calls Tryz.prog 95 #[.string s,.string ⟨#[239,187,191]⟩] w (fun e w'=>e=.returned (.bool false)/\w=w')by have:=HM.out I w;rw[show(⟨#[239,187,191]⟩:BA).data.toList=[239,187,191]from rfl,hm I]at this;exact this);clear hm HM;have ga:=hid (fun w=>fg (aa s i:Int) w);have gb:=hid (fun w=>lg (aa s i:Int) w);rw[M]at ga;rw[hc]at gb;clear hc M;have HN:=hid (pK X s i l w h hT hl J);have gu:=eU s i;generalize aa s i=c at *;obtain⟨m1,m2,m3,m4⟩:=hn;(have gx:((c:Int)==10)=false:=by rw[gF];omega);(have gv:((c:Int)==32)=false:=by rw[gF];omega);(have e9:((c:Int)==9)=false:=by rw[gF];omega);(have gw:((c:Int)==13)=false:=by rw[gF];omega);have qc:IntKind.i32.wrap (c:Int)=(c:Int):=qt _ (by omega);clear m1 m2 m3 m4;rw[hr]at HN;generalize hwl:i+bX (s.data.toList.drop i)=e at *;(have gt:i<=e:=by omega);clear hr U hb h hT J hwl;have gg:(e:Int)=(e:Int):=rfl;clear gg;cases I:((i:Int)==0);all_goals
  (go_enter Tryz.func73,Tryz.ntmps73);(go_wp2_with fail);try
   refine(gl.out (by have:=beq_iff_eq.1 I;omega) _).mono ?_
   rintro e w2⟨rfl,rfl⟩
   go_wp2_with fail
  refine HN.out.mono ?_;rintro e2 w2⟨rfl,N⟩;(go_wp2_with fail);refine(ga.out _).mono ?_;rintro e2 w3⟨rfl,rfl⟩;(go_wp2_with fail);refine(gb.out _).mono ?_;rintro e2 w3⟨rfl,rfl⟩;(go_wp2_with fail);refine(HW.out _ N).mono ?_;rintro e2 w4⟨rfl,D,gk⟩;obtain⟨gr,gp,gq,O⟩:=D.out;have gj:=O.blk;have gn:=D.le;clear x0 x1 x2 x3 f0 f1 f2 f3;obtain⟨x0,x1,x2,x3,f0,f1,f2,f3⟩:=ag gj;(have p0:(0:Int)<=(i:Int):=by omega);(have p1:(i:Int)<=(e:Int):=by omega);(have p2:(e:Int)<=(s.size:Int):=by omega);have gm:=hid (mj X s e l 4 i (by omega) hl w4 D);(go_wp2_with fail);refine gm.out.mono ?_;rintro e3 w6⟨rfl,gd,gi⟩;(go_wp2_with fail);go_end0;exact⟨rfl,gd,((N.mono (jN ge)).trans gk).trans gi⟩
theorem EJ(X:Nat)(s:ByteArray)(i:Nat)(l:List cY)(w:World)(h:iQ w X s i l)(hi:i<s.size)(hm:i=0->Lib.hasPrefix s.data.toList [239,187,191]=false)(hn:aa s i≠10/\aa s i≠32/\aa s i≠9/\aa s i≠13)(hl:l.length+1<=65537)(hT:dk w)(gd:∀t∈l,t.text.size<=65536)(hr:iD s i l=none)(gh:bo (aa s i:Int)=false)(gg:aW (aa s i:Int)=false)(en:Nat)(N:en=34\/en=96)(he:aa s i=en):
  Calls Tryz.prog 73 #[X] w (iL X s w (sL s i l) (.tuple #[])):=by
 obtain⟨lv,nv,ns,gi⟩:=h.out;have hb:=gi.blk;have gn:=h.most;have ge:=hb.lt;obtain⟨x0,x1,x2,x3,f0,f1,f2,f3⟩:=ag hb;have gl:=fun W=>ef s i hi W;have J:=hid (fun w'(hb:Below w w w')=>EG X s i l w' (h.below hb) hi hl en N he);have HM:=hid (fun(M:i=0)w=>dm s ⟨#[239,187,191]⟩ w);have gj:=hid (fun(M:i=0)w=>show Calls Tryz.prog 95 #[.string s,.string ⟨#[239,187,191]⟩] w (fun e w'=>e=.returned (.bool false)/\w=w')by have:=HM.out M w;rw[show(⟨#[239,187,191]⟩:BA).data.toList=[239,187,191]from rfl,hm M]at this;exact this);clear hm HM;have ga:=hid (fun w=>fg (aa s i:Int) w);have gb:=hid (fun w=>lg (aa s i:Int) w);rw[gh]at ga;rw[gg]at gb;clear gh gg;have HN:=hid (pK X s i l w h hT hl gd);have gp:=eU s i;generalize aa s i=c at *;obtain⟨m1,m2,m3,m4⟩:=hn;(have gs:((c:Int)==10)=false:=by rw[gF];omega);(have gq:((c:Int)==32)=false:=by rw[gF];omega);(have e9:((c:Int)==9)=false:=by rw[gF];omega);(have gr:((c:Int)==13)=false:=by rw[gF];omega);have qc:IntKind.i32.wrap (c:Int)=(c:Int):=qt _ (by omega);clear m1 m2 m3 m4;rw[hr]at HN;subst he;have gm:=hid N;clear hr gi hb h hT gd N;rcases gm.out with rfl|rfl;all_goals
  cases I:sL s i l with
  |go i2 l2=>
   rw[I]at J;clear I;cases M:((i:Int)==0);all_goals
    (go_enter Tryz.func73,Tryz.ntmps73);(go_wp2_with fail);try
     refine(gj.out (by have:=beq_iff_eq.1 M;omega) _).mono ?_
     rintro e w2⟨rfl,rfl⟩
     go_wp2_with fail
    refine HN.out.mono ?_;rintro U w2⟨rfl,D⟩;(go_wp2_with fail);refine(ga.out _).mono ?_;rintro U w3⟨rfl,rfl⟩;(go_wp2_with fail);refine(gb.out _).mono ?_;rintro U w3⟨rfl,rfl⟩;(go_wp2_with fail);refine(J.out _ D).mono ?_;rintro U w3⟨rfl,gk,O⟩;(go_wp2_with fail);go_end0;exact⟨rfl,gk,(D.mono (jN ge)).trans O⟩
  |bad p=>
   rw[I]at J;clear I;cases M:((i:Int)==0);all_goals
    (go_enter Tryz.func73,Tryz.ntmps73);(go_wp2_with fail);try
     refine(gj.out (by have:=beq_iff_eq.1 M;omega) _).mono ?_
     rintro e w2⟨rfl,rfl⟩
     go_wp2_with fail
    refine HN.out.mono ?_;rintro U w2⟨rfl,D⟩;(go_wp2_with fail);refine(ga.out _).mono ?_;rintro U w3⟨rfl,rfl⟩;(go_wp2_with fail);refine(gb.out _).mono ?_;rintro U w3⟨rfl,rfl⟩;(go_wp2_with fail);refine(J.out _ D).mono ?_;rintro U w3⟨rfl,O⟩;unfold fy;exact⟨rfl,rfl,(D.mono (jN ge)).trans O⟩
theorem G4(X:Nat)(s:ByteArray)(i:Nat)(l:List cY)(w:World)(h:iQ w X s i l)(hi:i<s.size)(hm:i=0->Lib.hasPrefix s.data.toList [239,187,191]=false)(hn:aa s i≠10/\aa s i≠32/\aa s i≠9/\aa s i≠13)(hl:l.length+1<=65537)(hT:dk w)(gb:∀t∈l,t.text.size<=65536)(hr:iD s i l=none)(gg:bo (aa s i:Int)=false)(ge:aW (aa s i:Int)=false)(hq:aa s i≠34/\aa s i≠96):
  Calls Tryz.prog 73 #[X] w (iL X s w (mL s i l) (.tuple #[])):=by
 obtain⟨lv,nv,ns,gh⟩:=h.out;have hb:=gh.blk;have gl:=h.most;have gd:=hb.lt;obtain⟨x0,x1,x2,x3,f0,f1,f2,f3⟩:=ag hb;have gk:=fun W=>ef s i hi W;have J:=hid (fun w'(hb:Below w w w')=>LC X s i l w' (h.below hb) (hT.below hb) hl hi);have HM:=hid (fun(M:i=0)w=>dm s ⟨#[239,187,191]⟩ w);have gi:=hid (fun(M:i=0)w=>show Calls Tryz.prog 95 #[.string s,.string ⟨#[239,187,191]⟩] w (fun e w'=>e=.returned (.bool false)/\w=w')by have:=HM.out M w;rw[show(⟨#[239,187,191]⟩:BA).data.toList=[239,187,191]from rfl,hm M]at this;exact this);clear hm HM;have U:=hid (fun w=>fg (aa s i:Int) w);have ga:=hid (fun w=>lg (aa s i:Int) w);rw[gg]at U;rw[ge]at ga;clear gg ge;have HN:=hid (pK X s i l w h hT hl gb);have gm:=eU s i;generalize aa s i=c at *;obtain⟨m1,m2,m3,m4⟩:=hn;(have gs:((c:Int)==10)=false:=by rw[gF];omega);(have gq:((c:Int)==32)=false:=by rw[gF];omega);(have e9:((c:Int)==9)=false:=by rw[gF];omega);(have gr:((c:Int)==13)=false:=by rw[gF];omega);have qc:IntKind.i32.wrap (c:Int)=(c:Int):=qt _ (by omega);clear m1 m2 m3 m4;rw[hr]at HN;(have gp:((c:Int)==34)=false:=by rw[gF];omega);(have gn:((c:Int)==96)=false:=by rw[gF];omega);clear hr gh hb h hT gb hq;cases I:mL s i l with
 |go i2 l2=>
  rw[I]at J;clear I;cases M:((i:Int)==0);all_goals
   (go_enter Tryz.func73,Tryz.ntmps73);(go_wp2_with fail);try
    refine(gi.out (by have:=beq_iff_eq.1 M;omega) _).mono ?_
    rintro e w2⟨rfl,rfl⟩
    go_wp2_with fail
   refine HN.out.mono ?_;rintro O w2⟨rfl,D⟩;(go_wp2_with fail);refine(U.out _).mono ?_;rintro O w3⟨rfl,rfl⟩;(go_wp2_with fail);refine(ga.out _).mono ?_;rintro O w3⟨rfl,rfl⟩;(go_wp2_with fail);refine(J.out _ D).mono ?_;rintro O w3⟨rfl,gj,N⟩;(go_wp2_with fail);go_end0;exact⟨rfl,gj,(D.mono (jN gd)).trans N⟩
 |bad p=>
  rw[I]at J;clear I;cases M:((i:Int)==0);all_goals
   (go_enter Tryz.func73,Tryz.ntmps73);(go_wp2_with fail);try
    refine(gi.out (by have:=beq_iff_eq.1 M;omega) _).mono ?_
    rintro e w2⟨rfl,rfl⟩
    go_wp2_with fail
   refine HN.out.mono ?_;rintro O w2⟨rfl,D⟩;(go_wp2_with fail);refine(U.out _).mono ?_;rintro O w3⟨rfl,rfl⟩;(go_wp2_with fail);refine(ga.out _).mono ?_;rintro O w3⟨rfl,rfl⟩;(go_wp2_with fail);refine(J.out _ D).mono ?_;rintro O w3⟨rfl,N⟩;unfold fy;exact⟨rfl,rfl,(D.mono (jN gd)).trans N⟩
end
end Go.Proofs.YtiebcdeafofgdaaGreatDoor
