/-
  Parts of the proof: Ssign Snote. By an AI agent.
-/
import Derived.Test.YtiebcdeafofgdaaGreatDoorJ15
open Go.Proofs.Tryz
set_option maxRecDepth 100000
set_option maxHeartbeats 8000000
namespace Go.Proofs.YtiebcdeafofgdaaGreatDoor
section
open Go.RowKit Go.Lib Go.Proofs
attribute [local go_sem ↓] Go.wp_at_zero Go.wp_at_succ
theorem qK:type_of% @Go.rounds_succ:=@Go.rounds_succ
theorem vA:type_of% @Go.Lib.extract_data:=@Go.Lib.extract_data
theorem cR(s p:ByteArray)(w:World):Calls prog 95 #[s,p] w fun e w'=>e=.returned (.bool (Lib.hasPrefix s.data.toList p.data.toList))/\w=w':=
 (Any.strings_HasPrefix Tryz.laysPrefix s p w).mono fun _ _ h=>⟨h.1,h.2.symm⟩
theorem pS(s:ByteArray)(c:Int)(w:World):Calls prog 115 #[s,.int .u8 c] w fun e w'=>e=.returned (.int .i64 (Lib.indexByte s.data.toList (UInt8.ofNat c.toNat)))/\w=w':=
 (Any.strings_IndexByte Tryz.laysIndexByte s c w).mono fun _ _ h=>⟨h.1,h.2.symm⟩
theorem Gf(s sub:ByteArray)(w:World)(I:cP w)(hs:s.size<=2000000000):
  Calls prog 108 #[s,sub] w fun e w'=>e=.returned (.int .i64 (Lib.index s.data.toList sub.data.toList))/\w=w':=by obtain⟨m,D⟩:=I;exact(Any.strings_Index Tryz.laysIndex s sub m w (by omega) D).mono fun _ _ h=>⟨h.1,h.2.symm⟩
def fb(p:Nat):Ending:=.panicked [{ v:=.iface 83 (.agg #[(p:Int)]),recovered:=false }]
theorem lg(X:Nat)(p:Int)(w:World):Calls prog 142 #[X,.bool true,p] w fun e w'=>e=.returned (.tuple #[])/\w=w':=by(go_enter func142,ntmps142);go_wp2_with fail;go_end0;exact⟨rfl,rfl⟩
theorem fI(X:Nat)(p:Nat)(w:World):Calls prog 142 #[X,.bool false,(p:Int)] w fun e w'=>e=fb p/\w=w':=by(go_enter func142,ntmps142);go_wp2_with fail;exact⟨rfl,rfl,rfl⟩
inductive RO where
 |go (i:Nat) (l:List cO)
 |bad (p:Nat)
def fU(X:Nat)(s:ByteArray)(w:World)(r:RO)(v:Value)(e:Ending)(w':World):Prop:=
 match r with
 | .go i l=>rK X s w i l v e w'
 | .bad p=>e=fb p/\Below X w w'
def oC:ByteArray:=(⟨#[60,60,61,32,62,62,61,32,38,94,61,32,46,46,46]⟩:BA)
def oP:ByteArray:=(⟨#[38,38,32,124,124,32,61,61,32,33,61,32,60,61,32,62,61,32,58,61,32,43,43,32,45,45,32,43,61,32,45,61,32,42,61,32,47,61,32,37,61,32,38,61,32,124,61,32,94,61,32,60,60,32,62,62,32,38,94,32,60,45]⟩:BA)
def sN:ByteArray:=(⟨#[43,32,45,32,42,32,47,32,37,32,38,32,124,32,94,32,60,32,62,32,61,32,33,32,40,32,41,32,91,32,93,32,123,32,125,32,44,32,59,32,46,32,58,32,126]⟩:BA)
theorem BT{fn:Func}{q:Tmp}{ty:TypeId}(I:fn.results = #[.cell q 125])(tmps:Array Value){w:World}{g:Nat}{a b c:Value}(J:tmps.getD q undef=.pointer (some ⟨g,0,none⟩))(hb:an w g ty #[a,b,c]):
  (results fn tmps).run prog w=.ok (.agg #[a,b,c]) w:=by obtain⟨O,N,M⟩:=Tj hb;unfold results;rw[I];(have D:tmps[q]?.getD undef=.pointer (some ⟨g,0,none⟩):=by simpa using J);simp[D,go_sem,O,N,M]
theorem Gg(w:World):Calls prog 143 #[] w fun e w'=>e=.returned (.agg #[.string oC,.string oP,.string sN])/\Below w w w':=by(go_enter func143,ntmps143);go_wp2_with fail;refine jV (BT (ty:=125) rfl _ (g:=w.heap.size) (by rfl) (a:=.string oC) (b:=.string oP) (c:=.string sN) (an.new w _ _)) rfl ?_;exact⟨rfl,(gG _ _).alloc (gA _) _⟩
theorem Ar(a b c:ByteArray)(i:Nat)(D:i<3)(w:World):(Instr.index 125 (.agg #[a,b,c]) (.int .i64 (i:Int))).run prog w=.ok (.string (if i=0 then a else if i=1 then b else c)) w:=by
 rcases i with _|_|_|i
 ·simp[Instr.index,run_underlying underlying125,asIntOf,go_sem]
 ·simp[Instr.index,run_underlying underlying125,asIntOf,go_sem]
 ·simp[Instr.index,run_underlying underlying125,asIntOf,go_sem]
 ·omega
def mD(row:ByteArray)(t:ByteArray)(n:Nat):Bool:=Lib.contains ((⟨#[32]⟩++row++⟨#[32]⟩:ByteArray)).data.toList ((⟨#[32]⟩++t.extract 0 n++⟨#[32]⟩:ByteArray)).data.toList
def dC(s:ByteArray)(i:Nat):Nat:=
 if 3<=s.size-i/\mD oC (s.extract i s.size) 3=true then 3
 else if 2<=s.size-i/\mD oP (s.extract i s.size) 2=true then 2
 else if 1<=s.size-i/\mD sN (s.extract i s.size) 1=true then 1
 else 0
def lQ(s:ByteArray)(i:Nat)(l:List cO):RO:=
 if dC s i=0 then .bad i else .go (i+dC s i) (l++[⟨6,s.extract i (i+dC s i),i⟩])
theorem I4(X:Nat)(s:ByteArray)(i:Nat)(l:List cO)(w:World)(h:f6 w X s i l)(hT:cP w)(hl:l.length+1<=65537)(hi:i<s.size):
  Calls prog 105 #[X] w (fU X s w (lQ s i l) (.tuple #[])):=by
 obtain⟨lv,nv,ns,gl⟩:=h.out;have hb:=gl.blk;have gz:=h.le;have gy:=h.most;have ga:=hb.lt;have HH:=hid h;obtain⟨x0,x1,x2,x3,-,-,-,-⟩:=ab hb;(have p0:(0:Int)<=(i:Int):=by omega);(have p2:(i:Int)<=(s.size:Int):=by omega);have gg:=fa s i;have M:Hid (dC s i=if 3<=(s.extract i s.size).size/\mD oC (s.extract i s.size) 3=true then 3 else if 2<=(s.extract i s.size).size/\mD oP (s.extract i s.size) 2=true then 2 else if 1<=(s.extract i s.size).size/\mD sN (s.extract i s.size) 1=true then 1 else 0):=hid (by rw[gg];rfl);have H3:=hid (fun w'(hb:Below w w w')=>ef (⟨#[32]⟩++oC++⟨#[32]⟩) (⟨#[32]⟩++(s.extract i s.size).extract 0 3++⟨#[32]⟩) w' (hT.below hb) (kC (show _<=100 by decide +kernel) (by omega)));have H2:=hid (fun w'(hb:Below w w w')=>ef (⟨#[32]⟩++oP++⟨#[32]⟩) (⟨#[32]⟩++(s.extract i s.size).extract 0 2++⟨#[32]⟩) w' (hT.below hb) (kC (show _<=100 by decide +kernel) (by omega)));have H1:=hid (fun w'(hb:Below w w w')=>ef (⟨#[32]⟩++sN++⟨#[32]⟩) (⟨#[32]⟩++(s.extract i s.size).extract 0 1++⟨#[32]⟩) w' (hT.below hb) (kC (show _<=100 by decide +kernel) (by omega)));rw[show Lib.contains ((⟨#[32]⟩++sN++⟨#[32]⟩:ByteArray)).data.toList ((⟨#[32]⟩++(s.extract i s.size).extract 0 1++⟨#[32]⟩:ByteArray)).data.toList=mD sN (s.extract i s.size) 1 from rfl]at H1;rw[show Lib.contains ((⟨#[32]⟩++oP++⟨#[32]⟩:ByteArray)).data.toList ((⟨#[32]⟩++(s.extract i s.size).extract 0 2++⟨#[32]⟩:ByteArray)).data.toList=mD oP (s.extract i s.size) 2 from rfl]at H2;rw[show Lib.contains ((⟨#[32]⟩++oC++⟨#[32]⟩:ByteArray)).data.toList ((⟨#[32]⟩++(s.extract i s.size).extract 0 3++⟨#[32]⟩:ByteArray)).data.toList=mD oC (s.extract i s.size) 3 from rfl]at H3;clear hT;generalize mD oC (s.extract i s.size) 3=c3 at *;generalize mD oP (s.extract i s.size) 2=c2 at *;generalize mD sN (s.extract i s.size) 1=c1 at *;(have g3:oC.size<=100:=by decide +kernel);(have g2:oP.size<=100:=by decide +kernel);(have g1:sN.size<=100:=by decide +kernel);have gm:=hid (fun w=>Gg w);generalize oC=r3 at *;generalize oP=r2 at *;generalize sN=r1 at *;(go_enter func105,ntmps105);go_wp2_with fail;go_quiet (fail);have hB:=bg (gG w.heap.size w) nq;generalize w.drewN nq=w1 at *;generalize s.extract i s.size=t at *;clear x0 x1 x2 x3;go_wp2_with fail;refine(gm.out _).mono ?_;rintro e w2⟨rfl,gj⟩;have I:=aD hB gj;clear gj gm;have HQ:=HH.out.below I;obtain⟨gs,gq,gr,ge⟩:=HQ.out;have gk:=ge.blk;obtain⟨x0,x1,x2,x3,f0,f1,f2,f3⟩:=ab gk;have gx:∀W:World,(Instr.index 125 (.agg #[.string r3,.string r2,.string r1]) (.int .i64 0)).run prog W=.ok (.string r3) W:=fun W=>Ar r3 r2 r1 0 (by omega) W;have gw:∀W:World,(Instr.index 125 (.agg #[.string r3,.string r2,.string r1]) (.int .i64 1)).run prog W=.ok (.string r2) W:=fun W=>Ar r3 r2 r1 1 (by omega) W;have gv:∀W:World,(Instr.index 125 (.agg #[.string r3,.string r2,.string r1]) (.int .i64 2)).run prog W=.ok (.string r1) W:=fun W=>Ar r3 r2 r1 2 (by omega) W;(have k1:1<=t.size:=by omega);have gb:=hid gg;clear hb gk HH h gg gl ge;go_wp2_with fail;refine wp_loop_rounds 4 ?_;by_cases k3:3<=t.size
 ·(have gp:(3:Int)<=(t.size:Int):=by omega);rw[qK];cases c3 with
  |true=>go_wp2_with fail;refine(H3.out _ I).mono ?_;rintro e w3⟨rfl,rfl⟩;have HS:Hid (dC s i=3):=hid (by rw[M.out];simp[k3]);have q1:IntKind.i64.wrap ((i:Int)+3)=(i:Int)+3:=gQ _ (by omega);(have q2:IntKind.i64.wrap ((i:Int)+3-3)=(i:Int):=by rw[show(i:Int)+3-3=(i:Int)by omega];exact gQ _ (by omega));(have N:i+3<=s.size:=by have:=gb.out;omega);have D:=HQ.set (i+3) (by omega) N;rw[show((i+3:Nat):Int)=(i:Int)+3 by omega]at D;have J:=hid D;clear D;go_wp2_with fail;have D:=J.out;refine(lu X s (i+3) l 6 i (by omega) hl _ D).mono ?_;rintro e w4⟨rfl,O,U⟩;go_wp2_with fail;refine jV (qj rfl _ _ _) rfl ?_;unfold fU lQ;rw[d5 (by rw[HS.out];omega),HS.out];exact⟨rfl,O,((I.mono (jR ga)).setCell (gA _) _).trans U⟩
  | false=>
   go_wp2_with fail;refine(H3.out _ I).mono ?_;rintro e w3⟨rfl,rfl⟩;go_wp2_with fail;(have k2:2<=t.size:=by omega);(have gh:(2:Int)<=(t.size:Int):=by omega);rw[qK];cases c2 with
   |true=>go_wp2_with fail;refine(H2.out _ I).mono ?_;rintro e w3⟨rfl,rfl⟩;have HS:Hid (dC s i=2):=hid (by rw[M.out];simp[k2]);have q1:IntKind.i64.wrap ((i:Int)+2)=(i:Int)+2:=gQ _ (by omega);(have q2:IntKind.i64.wrap ((i:Int)+2-2)=(i:Int):=by rw[show(i:Int)+2-2=(i:Int)by omega];exact gQ _ (by omega));(have N:i+2<=s.size:=by have:=gb.out;omega);have D:=HQ.set (i+2) (by omega) N;rw[show((i+2:Nat):Int)=(i:Int)+2 by omega]at D;have J:=hid D;clear D;go_wp2_with fail;have D:=J.out;refine(lu X s (i+2) l 6 i (by omega) hl _ D).mono ?_;rintro e w4⟨rfl,O,U⟩;go_wp2_with fail;refine jV (qj rfl _ _ _) rfl ?_;unfold fU lQ;rw[d5 (by rw[HS.out];omega),HS.out];exact⟨rfl,O,((I.mono (jR ga)).setCell (gA _) _).trans U⟩
   |false=>
    go_wp2_with fail;refine(H2.out _ I).mono ?_;rintro e w3⟨rfl,rfl⟩;go_wp2_with fail;(have gi:(1:Int)<=(t.size:Int):=by omega);rw[qK];cases c1 with
    |true=>go_wp2_with fail;refine(H1.out _ I).mono ?_;rintro e w3⟨rfl,rfl⟩;have HS:Hid (dC s i=1):=hid (by rw[M.out];simp[k1]);have q1:IntKind.i64.wrap ((i:Int)+1)=(i:Int)+1:=gQ _ (by omega);(have q2:IntKind.i64.wrap ((i:Int)+1-1)=(i:Int):=by rw[show(i:Int)+1-1=(i:Int)by omega];exact gQ _ (by omega));(have N:i+1<=s.size:=by have:=gb.out;omega);have D:=HQ.set (i+1) (by omega) N;rw[show((i+1:Nat):Int)=(i:Int)+1 by omega]at D;have J:=hid D;clear D;go_wp2_with fail;have D:=J.out;refine(lu X s (i+1) l 6 i (by omega) hl _ D).mono ?_;rintro e w4⟨rfl,O,U⟩;go_wp2_with fail;refine jV (qj rfl _ _ _) rfl ?_;unfold fU lQ;rw[d5 (by rw[HS.out];omega),HS.out];exact⟨rfl,O,((I.mono (jR ga)).setCell (gA _) _).trans U⟩
    |false=>go_wp2_with fail;refine(H1.out _ I).mono ?_;rintro e w3⟨rfl,rfl⟩;go_wp2_with fail;have HS:Hid (dC s i=0):=hid (by rw[M.out];simp[]);rw[qK];go_wp2_with fail;refine(fI X i _).mono ?_;rintro e w4⟨rfl,rfl⟩;unfold fb;refine⟨rfl,?_⟩;unfold fU lQ;rw[gF HS.out];exact⟨rfl,I.mono (jR ga)⟩
 ·(have gt:decide (3<=t.size)=false:=by rw[gJ];exact k3);(have gp:decide ((3:Int)<=(t.size:Int))=false:=by rw[gJ];omega);have gd:=hid k3;clear k3;rw[qK];go_wp2_with fail;by_cases k2:2<=t.size
  ·(have gh:(2:Int)<=(t.size:Int):=by omega);rw[qK];cases c2 with
   |true=>go_wp2_with fail;refine(H2.out _ I).mono ?_;rintro e w3⟨rfl,rfl⟩;have HS:Hid (dC s i=2):=hid (by rw[M.out];simp[gd.out,k2]);have q1:IntKind.i64.wrap ((i:Int)+2)=(i:Int)+2:=gQ _ (by omega);(have q2:IntKind.i64.wrap ((i:Int)+2-2)=(i:Int):=by rw[show(i:Int)+2-2=(i:Int)by omega];exact gQ _ (by omega));(have N:i+2<=s.size:=by have:=gb.out;omega);have D:=HQ.set (i+2) (by omega) N;rw[show((i+2:Nat):Int)=(i:Int)+2 by omega]at D;have J:=hid D;clear D;go_wp2_with fail;have D:=J.out;refine(lu X s (i+2) l 6 i (by omega) hl _ D).mono ?_;rintro e w4⟨rfl,O,U⟩;go_wp2_with fail;refine jV (qj rfl _ _ _) rfl ?_;unfold fU lQ;rw[d5 (by rw[HS.out];omega),HS.out];exact⟨rfl,O,((I.mono (jR ga)).setCell (gA _) _).trans U⟩
   |false=>
    go_wp2_with fail;refine(H2.out _ I).mono ?_;rintro e w3⟨rfl,rfl⟩;go_wp2_with fail;(have gi:(1:Int)<=(t.size:Int):=by omega);rw[qK];cases c1 with
    |true=>go_wp2_with fail;refine(H1.out _ I).mono ?_;rintro e w3⟨rfl,rfl⟩;have HS:Hid (dC s i=1):=hid (by rw[M.out];simp[gd.out,k1]);have q1:IntKind.i64.wrap ((i:Int)+1)=(i:Int)+1:=gQ _ (by omega);(have q2:IntKind.i64.wrap ((i:Int)+1-1)=(i:Int):=by rw[show(i:Int)+1-1=(i:Int)by omega];exact gQ _ (by omega));(have N:i+1<=s.size:=by have:=gb.out;omega);have D:=HQ.set (i+1) (by omega) N;rw[show((i+1:Nat):Int)=(i:Int)+1 by omega]at D;have J:=hid D;clear D;go_wp2_with fail;have D:=J.out;refine(lu X s (i+1) l 6 i (by omega) hl _ D).mono ?_;rintro e w4⟨rfl,O,U⟩;go_wp2_with fail;refine jV (qj rfl _ _ _) rfl ?_;unfold fU lQ;rw[d5 (by rw[HS.out];omega),HS.out];exact⟨rfl,O,((I.mono (jR ga)).setCell (gA _) _).trans U⟩
    |false=>go_wp2_with fail;refine(H1.out _ I).mono ?_;rintro e w3⟨rfl,rfl⟩;go_wp2_with fail;have HS:Hid (dC s i=0):=hid (by rw[M.out];simp[gd.out]);rw[qK];go_wp2_with fail;refine(fI X i _).mono ?_;rintro e w4⟨rfl,rfl⟩;unfold fb;refine⟨rfl,?_⟩;unfold fU lQ;rw[gF HS.out];exact⟨rfl,I.mono (jR ga)⟩
  ·(have gu:decide (2<=t.size)=false:=by rw[gJ];exact k2);(have gh:decide ((2:Int)<=(t.size:Int))=false:=by rw[gJ];omega);have gn:=hid k2;clear k2;rw[qK];go_wp2_with fail;(have gi:(1:Int)<=(t.size:Int):=by omega);rw[qK];cases c1 with
   |true=>go_wp2_with fail;refine(H1.out _ I).mono ?_;rintro e w3⟨rfl,rfl⟩;have HS:Hid (dC s i=1):=hid (by rw[M.out];simp[gd.out,gn.out,k1]);have q1:IntKind.i64.wrap ((i:Int)+1)=(i:Int)+1:=gQ _ (by omega);(have q2:IntKind.i64.wrap ((i:Int)+1-1)=(i:Int):=by rw[show(i:Int)+1-1=(i:Int)by omega];exact gQ _ (by omega));(have N:i+1<=s.size:=by have:=gb.out;omega);have D:=HQ.set (i+1) (by omega) N;rw[show((i+1:Nat):Int)=(i:Int)+1 by omega]at D;have J:=hid D;clear D;go_wp2_with fail;have D:=J.out;refine(lu X s (i+1) l 6 i (by omega) hl _ D).mono ?_;rintro e w4⟨rfl,O,U⟩;go_wp2_with fail;refine jV (qj rfl _ _ _) rfl ?_;unfold fU lQ;rw[d5 (by rw[HS.out];omega),HS.out];exact⟨rfl,O,((I.mono (jR ga)).setCell (gA _) _).trans U⟩
   |false=>go_wp2_with fail;refine(H1.out _ I).mono ?_;rintro e w3⟨rfl,rfl⟩;go_wp2_with fail;have HS:Hid (dC s i=0):=hid (by rw[M.out];simp[gd.out,gn.out]);rw[qK];go_wp2_with fail;refine(fI X i _).mono ?_;rintro e w4⟨rfl,rfl⟩;unfold fb;refine⟨rfl,?_⟩;unfold fU lQ;rw[gF HS.out];exact⟨rfl,I.mono (jR ga)⟩
theorem rM:∀(l:List UInt8)(c:UInt8),Lib.indexByte l c<l.length
 |[],c=>by unfold Lib.indexByte;decide
 |b::l,c=>by
  have ih:=rM l c;unfold Lib.indexByte;simp only[gS];split
  ·omega
  ·split<;>omega
theorem uu(b:UInt8)(l:List UInt8)(c:UInt8)(h:b≠c):Lib.indexByte (b::l) c = -1\/1<=Lib.indexByte (b::l) c:=by
 have I:=Lib.indexByte_ge l c;unfold Lib.indexByte;rw[d5 (by simpa using h)];split
 ·exact .inl rfl
 ·rename_i D;right;(have:Lib.indexByte l c ≠ -1:=by simpa using D);omega
def mE(l:List UInt8):Nat:=if Lib.indexByte l 10<0 then l.length else(Lib.indexByte l 10).toNat
theorem uv(l:List UInt8)(h:Lib.hasPrefix l [47,47]=true):1<=mE l/\mE l<=l.length:=by
 match l,h with
 |[],h=>simp[Lib.hasPrefix]at h
 |b::r,h=>
  (have hb:b≠10:=by rintro rfl;simp[Lib.hasPrefix]at h);have I:=uu b r 10 hb;have D:=rM (b::r) 10;unfold mE;split
  ·simp
  ·omega
def fR(s:ByteArray)(i:Nat)(l:List cO):Option RO:=
 if Lib.hasPrefix (s.data.toList.drop i) [47,47]=true then some (.go (i+mE (s.data.toList.drop i)) l)
 else if Lib.hasPrefix (s.data.toList.drop i) [47,42]=true then
  if Lib.index ((s.data.toList.drop i).drop 2) [42,47]<0 then some (.bad i)
  else some (.go (i+((Lib.index ((s.data.toList.drop i).drop 2) [42,47]).toNat+4))
   (if Lib.contains ((s.data.toList.drop i).take ((Lib.index ((s.data.toList.drop i).drop 2) [42,47]).toNat+4)) [10]=true then dY l i else l))
 else none
def I5(X:Nat)(s:ByteArray)(w:World)(r:Option RO)(e:Ending)(w':World):Prop:=
 match r with
 |none=>e=.returned (.bool false)/\Below w w w'
 |some r=>fU X s w r (.bool true) e w'
theorem oQ(X:Nat)(s:ByteArray)(i:Nat)(l:List cO)(w:World)(h:f6 w X s i l)(hT:cP w)(hl:l.length+1<=65537)(g7:∀t∈l,t.text.size<=65536):
  Calls prog 96 #[X] w (I5 X s w (fR s i l)):=by
 obtain⟨lv,nv,ns,ha⟩:=h.out;have hb:=ha.blk;have ht:=h.le;have gt:=h.most;have gu:=hb.lt;obtain⟨x0,x1,x2,x3,-,-,-,-⟩:=ab hb;(have p0:(0:Int)<=(i:Int):=by omega);(have p2:(i:Int)<=(s.size:Int):=by omega);have H1:=hid (fun w=>cR (s.extract i s.size) ⟨#[47,47]⟩ w);have H2:=hid (fun w=>cR (s.extract i s.size) ⟨#[47,42]⟩ w);have H3:=hid (fun w=>pS (s.extract i s.size) 10 w);have g0:=fa s i;have gs:=eZ s i;have H4:=hid (fun w'(hT:cP w')=>Gf ((s.extract i s.size).extract 2 (s.extract i s.size).size) ⟨#[42,47]⟩ w' hT (by rw[fa];omega));have H5:=hid (fun n w'(hT:cP w')=>ef ((s.extract i s.size).extract 0 n) ⟨#[10]⟩ w' hT (by rw[jW];omega));have hc:fR s i l=if Lib.hasPrefix (s.extract i s.size).data.toList [47,47]=true then some (.go (i+mE (s.extract i s.size).data.toList) l)
  else if Lib.hasPrefix (s.extract i s.size).data.toList [47,42]=true then
  if Lib.index ((s.extract i s.size).data.toList.drop 2) [42,47]<0 then some (.bad i)
  else some (.go (i+((Lib.index ((s.extract i s.size).data.toList.drop 2) [42,47]).toNat+4))
   (if Lib.contains ((s.extract i s.size).data.toList.take ((Lib.index ((s.extract i s.size).data.toList.drop 2) [42,47]).toNat+4)) [10]=true then dY l i else l))
  else none:=by rw[gs];rfl
 have gn:=hid hc;have gy:=hid (fun w'(h:f6 w' X s i l)(hT:cP w')=>uq X s i l (i:Int) hl w' h hT g7);have g5:=hid g0;have HT:=hid hT;have HH:=hid h;clear hc gs g7 g0 hT h ha hb;(go_enter func96,ntmps96);go_wp2_with fail;go_quiet (fail);clear x0 x2 x3;have y1:(w.drewN nq).cell? ⟨X,1,none⟩=some (.int .i64 (i:Int)):=x1;clear x1;have hB:=bg (gG w.heap.size w) nq;generalize w.drewN nq=w1 at *;generalize s.extract i s.size=t at *;(have ho:t.size<=s.size:=by have:=g5.out;omega);rw[eZ]at H4;have g6:t.data.toList.length=t.size:=rfl;have g4:=hid g6;clear g6;cases gd:Lib.hasPrefix t.data.toList [47,47]with
 | true=>
  rw[gd]at H1;have g2:=uv t.data.toList gd;have HR:=hid (show fR s i l=some (.go (i+mE t.data.toList) l)by rw[gn.out,gF gd]);have he:Hid (mE t.data.toList=if Lib.indexByte t.data.toList 10<0 then t.size else(Lib.indexByte t.data.toList 10).toNat):=hid rfl;clear gn H2 H4 H5 gy gd;generalize mE t.data.toList=N at *;(have hi:N<=t.size:=by rw[<-g4.out];exact g2.2);have hj:=g2.1;have gp:t.size=s.size-i:=g5.out;have HI:Hid (i+N<=s.size):=hid (by omega);have hk:=hid gp;clear g2 gp;have hn:=hid (fun w=>show Calls prog 115 #[.string t,.int .u8 10] w (fun e w'=>e=.returned (.int .i64 (Lib.indexByte t.data.toList 10))/\w=w')from H3.out w);clear H3;generalize Lib.indexByte t.data.toList 10=ib at *;go_wp2_with fail;refine(H1.out _).mono ?_;rintro e w2⟨rfl,rfl⟩;go_wp2_with fail;refine(hn.out _).mono ?_;rintro e w2⟨rfl,rfl⟩;have M:=HH.out.below hB;have gb:Below X w w1:=hB.mono (jR gu);have hg:i+N<=s.size:=HI.out;by_cases gl:ib<0
  ·have hm:Hid (N=t.size):=hid (by have:=he.out;rw[gF gl]at this;exact this);(have g8:decide (ib<0)=true:=by rw[gK];exact gl);clear gl;(go_upto_region 14 with fail);rw[show(t.size:Int)=(N:Int)by rw[hm.out]];obtain⟨gg,g1,ge,I⟩:=M.out;obtain⟨x0,x1,x2,x3,f0,f1,f2,f3⟩:=ab I.blk;have qn:IntKind.i64.wrap ((i:Int)+(N:Int))=(i:Int)+(N:Int):=gQ _ (by omega);have D:=I.set (i+N) (by omega);rw[show((i+N:Nat):Int)=(i:Int)+(N:Int)by omega]at D;have U:=hid D;have gj:Below X w (w1.setCell ⟨X,1,none⟩ (.int .i64 ((i:Int)+(N:Int)))):=gb.setCell (gA _) _;have gr:=I.nfew;have O:=M.few;clear D I M gb;(go_upto_region 15 with fail);generalize w1.setCell ⟨X,1,none⟩ (.int .i64 ((i:Int)+(N:Int)))=w7 at *;clear x0 x1 x2 x3 f0 f1 f2 f3;have D:=U.out;have hN:=D.notes;have g3:=D.blk.lt;obtain⟨x0,x1,x2,x3,f0,f1,f2,f3⟩:=ab D.blk;obtain⟨A0,c0,gh,_⟩:=hN.form;subst gh;(have p7:(N:Int)<=(t.size:Int):=by omega);go_region_law (first
    |(refine mh (by rfl) (.tmp 60) (.tmp 66) (by rfl) (X+1) _ _ ge ⟨0,t.extract 0 N,i⟩ (by rfl) _ (by rfl) (by simp) (hN.below (gG _ _).drew) (by simp;omega) (by omega) ?_;intro g c w8 J;have gi:=(an.drew D.blk).below J.bel (qr _);obtain⟨z0,z1,z2,z3,y0,y1,y2,y3⟩:=ab gi))
   all_goals(go_wp2_with fail);go_ret;rw[HR.out];exact⟨rfl,⟨⟨gg,_,_,(D.below (gG _ _).drew).noteRow J (by rw[gL];simp;omega)⟩,by omega,gt,O⟩,((gj.drew).trans (J.bel.mono (jZ _))).setCell (gA _) _⟩
  ·(obtain rfl:ib=(N:Int):=by have:=he.out;rw[d5 gl]at this;omega);(have g8:decide ((N:Int)<0)=false:=by rw[gJ];exact gl);clear gl;(go_upto_region 14 with fail);obtain⟨gg,g1,ge,I⟩:=M.out;obtain⟨x0,x1,x2,x3,f0,f1,f2,f3⟩:=ab I.blk;have qn:IntKind.i64.wrap ((i:Int)+(N:Int))=(i:Int)+(N:Int):=gQ _ (by omega);have D:=I.set (i+N) (by omega);rw[show((i+N:Nat):Int)=(i:Int)+(N:Int)by omega]at D;have U:=hid D;have gj:Below X w (w1.setCell ⟨X,1,none⟩ (.int .i64 ((i:Int)+(N:Int)))):=gb.setCell (gA _) _;have gr:=I.nfew;have O:=M.few;clear D I M gb;(go_upto_region 15 with fail);generalize w1.setCell ⟨X,1,none⟩ (.int .i64 ((i:Int)+(N:Int)))=w7 at *;clear x0 x1 x2 x3 f0 f1 f2 f3;have D:=U.out;have hN:=D.notes;have g3:=D.blk.lt;obtain⟨x0,x1,x2,x3,f0,f1,f2,f3⟩:=ab D.blk;obtain⟨A0,c0,gh,_⟩:=hN.form;subst gh;(have p7:(N:Int)<=(t.size:Int):=by omega);go_region_law (first
    |(refine mh (by rfl) (.tmp 60) (.tmp 66) (by rfl) (X+1) _ _ ge ⟨0,t.extract 0 N,i⟩ (by rfl) _ (by rfl) (by simp) (hN.below (gG _ _).drew) (by simp;omega) (by omega) ?_;intro g c w8 J;have gi:=(an.drew D.blk).below J.bel (qr _);obtain⟨z0,z1,z2,z3,y0,y1,y2,y3⟩:=ab gi))
   all_goals(go_wp2_with fail);go_ret;rw[HR.out];exact⟨rfl,⟨⟨gg,_,_,(D.below (gG _ _).drew).noteRow J (by rw[gL];simp;omega)⟩,by omega,gt,O⟩,((gj.drew).trans (J.bel.mono (jZ _))).setCell (gA _) _⟩
 | false=>
  rw[gd]at H1;clear H3;cases ga:Lib.hasPrefix t.data.toList [47,42]with
  |false=>have HR:Hid (fR s i l=none):=hid (by rw[gn.out,d5 (by rw[gd];decide),d5 (by rw[ga];decide)]);rw[ga]at H2;clear gn H4 H5 gy gd ga;go_wp2_with fail;refine(H1.out _).mono ?_;rintro e w2⟨rfl,rfl⟩;go_wp2_with fail;refine(H2.out _).mono ?_;rintro e w2⟨rfl,rfl⟩;go_wp2_with fail;go_ret;rw[HR.out];exact⟨rfl,hB⟩
  | true=>
   have hr:2<=t.size:=by
    rw[<-g4.out];cases hq:t.data.toList with
    |nil=>rw[hq]at ga;simp[Lib.hasPrefix]at ga
    | cons a r=>cases r with
      |nil=>rw[hq]at ga;simp[Lib.hasPrefix]at ga
      |cons b r=>simp
   (have hp:(2:Int)<=(t.size:Int):=by omega);rw[ga]at H2;have gq:=Lib.index_room (t.data.toList.drop 2) [42,47];have g9:=Lib.index_ge (t.data.toList.drop 2) [42,47];have gk:=hid gq;have hf:=hid g9;have gx:=hid (show fR s i l=if Lib.index (t.data.toList.drop 2) [42,47]<0 then some (.bad i)else some (.go (i+((Lib.index (t.data.toList.drop 2) [42,47]).toNat+4))
    (if Lib.contains (t.data.toList.take ((Lib.index (t.data.toList.drop 2) [42,47]).toNat+4)) [10]=true then dY l i else l))by rw[gn.out,d5 (by rw[gd];decide),gF ga])
   clear gq g9 gn gd ga;generalize Lib.index (t.data.toList.drop 2) [42,47]=ix at *;by_cases gv:ix<0
   ·have HR:=hid (show fR s i l=some (.bad i)by rw[gx.out,gF gv]);(have gz:decide (0<=ix)=false:=by rw[gJ];omega);clear gx gk hf gv H5 gy;go_wp2_with fail;refine(H1.out _).mono ?_;rintro e w2⟨rfl,rfl⟩;go_wp2_with fail;refine(H2.out _).mono ?_;rintro e w2⟨rfl,rfl⟩;go_wp2_with fail;refine(H4.out _ (HT.out.below hB)).mono ?_;rintro e w2⟨rfl,rfl⟩;go_wp2_with fail;refine(fI X i _).mono ?_;rintro e w2⟨rfl,rfl⟩;unfold fb;refine⟨rfl,?_⟩;rw[HR.out];exact⟨rfl,hB.mono (jR gu)⟩
   ·obtain⟨k,rfl⟩:∃k:Nat,ix=(k:Int):=⟨ix.toNat,by omega⟩
    (have hu:k+4<=t.size:=by have:=gk.out (by omega);rw[gY,g4.out]at this;simp at this;omega);(have gz:decide ((0:Int)<=(k:Int))=true:=by rw[gK];omega);have gw:=hid (show fR s i l=some (.go (i+(k+4)) (if Lib.contains (t.data.toList.take (k+4)) [10]=true then dY l i else l))by rw[gx.out,d5 gv];rfl);have q4:IntKind.i64.wrap ((k:Int)+4)=(k:Int)+4:=gQ _ (by omega);have gp:t.size=s.size-i:=g5.out;have HI:Hid (i+(k+4)<=s.size):=hid (by omega);have H6:=hid (fun w'(hT:cP w')=>H5.out (k+4) w' hT);(have gs:(t.extract 0 (k+4)).data.toList=t.data.toList.take (k+4):=by rw[vA];simp);rw[gs]at H6;have hk:=hid gp;clear gx gk hf gv H5 gp gs;generalize Lib.contains (t.data.toList.take (k+4)) [10]=cn at *;go_wp2_with fail;refine(H1.out _).mono ?_;rintro e w2⟨rfl,rfl⟩;go_wp2_with fail;refine(H2.out _).mono ?_;rintro e w2⟨rfl,rfl⟩;go_wp2_with fail;refine(H4.out _ (HT.out.below hB)).mono ?_;rintro e w2⟨rfl,rfl⟩;go_wp2_with fail;refine(lg X i _).mono ?_;rintro e w2⟨rfl,rfl⟩;(go_upto_region 12 with fail);rw[show(k:Int)+4=((k+4:Nat):Int)by omega];(have hj:1<=k+4:=by omega);clear gz q4;generalize k+4=N at *;(have hi:(N:Int)<=(t.size:Int):=by omega);(have hv:(0:Int)<=(N:Int):=by omega);have hg:i+N<=s.size:=HI.out;cases gm:cn with
    | false=>
     have HR:=hid (show fR s i l=some (.go (i+N) l)by rw[gw.out,gm];rfl);rw[gm]at H6;clear gw gm;go_wp2_with fail;refine(H6.out _ (HT.out.below hB)).mono ?_;rintro e w2⟨rfl,rfl⟩;have M:=HH.out.below hB;have gb:Below X w w1:=hB.mono (jR gu);(go_upto_region 14 with fail);obtain⟨gg,g1,ge,I⟩:=M.out;obtain⟨x0,x1,x2,x3,f0,f1,f2,f3⟩:=ab I.blk;have qn:IntKind.i64.wrap ((i:Int)+(N:Int))=(i:Int)+(N:Int):=gQ _ (by omega);have D:=I.set (i+N) (by omega);rw[show((i+N:Nat):Int)=(i:Int)+(N:Int)by omega]at D;have U:=hid D;have gj:Below X w (w1.setCell ⟨X,1,none⟩ (.int .i64 ((i:Int)+(N:Int)))):=gb.setCell (gA _) _;have gr:=I.nfew;have O:=M.few;clear D I M gb;(go_upto_region 15 with fail);generalize w1.setCell ⟨X,1,none⟩ (.int .i64 ((i:Int)+(N:Int)))=w7 at *;clear x0 x1 x2 x3 f0 f1 f2 f3;have D:=U.out;have hN:=D.notes;have g3:=D.blk.lt;obtain⟨x0,x1,x2,x3,f0,f1,f2,f3⟩:=ab D.blk;obtain⟨A0,c0,gh,_⟩:=hN.form;subst gh;(have p7:(N:Int)<=(t.size:Int):=by omega);go_region_law (first
      |(refine mh (by rfl) (.tmp 60) (.tmp 66) (by rfl) (X+1) _ _ ge ⟨0,t.extract 0 N,i⟩ (by rfl) _ (by rfl) (by simp) (hN.below (gG _ _).drew) (by simp;omega) (by omega) ?_;intro g c w8 J;have gi:=(an.drew D.blk).below J.bel (qr _);obtain⟨z0,z1,z2,z3,y0,y1,y2,y3⟩:=ab gi))
     all_goals(go_wp2_with fail);go_ret;rw[HR.out];exact⟨rfl,⟨⟨gg,_,_,(D.below (gG _ _).drew).noteRow J (by rw[gL];simp;omega)⟩,by omega,gt,O⟩,((gj.drew).trans (J.bel.mono (jZ _))).setCell (gA _) _⟩
    | true=>
     have HR:=hid (show fR s i l=some (.go (i+N) (dY l i))by rw[gw.out,gm];rfl);rw[gm]at H6;clear gw gm;go_wp2_with fail;refine(H6.out _ (HT.out.below hB)).mono ?_;rintro e w2⟨rfl,rfl⟩;go_wp2_with fail;refine(gy.out _ (HH.out.below hB) (HT.out.below hB)).mono ?_;rintro e w3⟨rfl,M,hh⟩;have gb:Below X w w3:=(hB.mono (jR gu)).trans hh;(go_upto_region 14 with fail);obtain⟨gg,g1,ge,I⟩:=M.out;obtain⟨x0,x1,x2,x3,f0,f1,f2,f3⟩:=ab I.blk;have qn:IntKind.i64.wrap ((i:Int)+(N:Int))=(i:Int)+(N:Int):=gQ _ (by omega);have D:=I.set (i+N) (by omega);rw[show((i+N:Nat):Int)=(i:Int)+(N:Int)by omega]at D;have U:=hid D;have gj:Below X w (w3.setCell ⟨X,1,none⟩ (.int .i64 ((i:Int)+(N:Int)))):=gb.setCell (gA _) _;have gr:=I.nfew;have O:=M.few;clear D I M gb;(go_upto_region 15 with fail);generalize w3.setCell ⟨X,1,none⟩ (.int .i64 ((i:Int)+(N:Int)))=w7 at *;clear x0 x1 x2 x3 f0 f1 f2 f3;have D:=U.out;have hN:=D.notes;have g3:=D.blk.lt;obtain⟨x0,x1,x2,x3,f0,f1,f2,f3⟩:=ab D.blk;obtain⟨A0,c0,gh,_⟩:=hN.form;subst gh;(have p7:(N:Int)<=(t.size:Int):=by omega);go_region_law (first
      |(refine mh (by rfl) (.tmp 60) (.tmp 66) (by rfl) (X+1) _ _ ge ⟨0,t.extract 0 N,i⟩ (by rfl) _ (by rfl) (by simp) (hN.below (gG _ _).drew) (by simp;omega) (by omega) ?_;intro g c w8 J;have gi:=(an.drew D.blk).below J.bel (qr _);obtain⟨z0,z1,z2,z3,y0,y1,y2,y3⟩:=ab gi))
     all_goals(go_wp2_with fail);go_ret;rw[HR.out];exact⟨rfl,⟨⟨gg,_,_,(D.below (gG _ _).drew).noteRow J (by rw[gL];simp;omega)⟩,by omega,gt,O⟩,((gj.drew).trans (J.bel.mono (jZ _))).setCell (gA _) _⟩
end
end Go.Proofs.YtiebcdeafofgdaaGreatDoor
