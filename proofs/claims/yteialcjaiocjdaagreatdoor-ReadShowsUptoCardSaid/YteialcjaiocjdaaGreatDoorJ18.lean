/-
  Parts of the proof: Snote Squot Snext Shelf5 Sstep Pwrong Bytes. By an AI agent.
-/
import Derived.Test.YteialcjaiocjdaaGreatDoorJ17
import Derived.Test.YteialcjaiocjdaaGreatDoorJ00
import Derived.Lib.SlBytesRow
import Derived.Shelf.Unicode.DecodeSlow
import Derived.Lib.BufferRead
open Go.Proofs.Tryz
set_option maxRecDepth 100000
set_option maxHeartbeats 8000000
namespace Go.Proofs.YteialcjaiocjdaaGreatDoor
section
open Go.RowKit Go.Lib Go.Proofs
attribute [local go_sem ↓] Go.wp_at_zero Go.wp_at_succ
theorem kZ:type_of% @Bool.or_eq_false_iff:=@Bool.or_eq_false_iff
theorem qu:type_of% @List.drop_zero:=@List.drop_zero
theorem vi:type_of% @Go.IntWalk.i32_in:=@Go.IntWalk.i32_in
theorem Lw(X:Nat)(s:ByteArray)(i:Nat)(l:List ef)(w:World)(h:mc w X s i l)(J:Lib.hasPrefix (s.data.toList.drop i) [47,47]=false)(I:Lib.hasPrefix (s.data.toList.drop i) [47,42]=false):
  Calls prog 121 #[X] w fun e w'=>e=.returned (.bool false)/\Below w w w':=by obtain⟨lv,D⟩:=h.out;have gb:=h.le;have ga:=h.most;obtain⟨x0,M,x2,U,-,-,-,-⟩:=ab D.blk;(have p0:(0:Int)<=(i:Int):=by omega);(have p2:(i:Int)<=(s.size:Int):=by omega);rw[<-mg]at J I;have O:=hid (fun w=>ne (s.extract i s.size) ⟨#[47,47]⟩ w);have N:=hid (fun w=>ne (s.extract i s.size) ⟨#[47,42]⟩ w);rw[show(⟨#[47,47]⟩:BA).data.toList=[47,47]from rfl,J]at O;rw[show(⟨#[47,42]⟩:BA).data.toList=[47,42]from rfl,I]at N;clear J I h D;(go_enter func121,ntmps121);go_wp2_with fail;go_quiet (fail);clear x0 x2 U;have y1:(w.drewN nq).cell? ⟨X,1,none⟩=some (.int .i64 (i:Int)):=M;clear M;have hB:=bK (gH w.heap.size w) nq;generalize w.drewN nq=w1 at *;generalize s.extract i s.size=t at *;go_wp2_with fail;refine(O.out _).mono ?_;rintro e w2⟨rfl,rfl⟩;go_wp2_with fail;refine(N.out _).mono ?_;rintro e w2⟨rfl,rfl⟩;go_wp2_with fail;go_ret;exact⟨rfl,hB⟩
def Fr(s:ByteArray)(i:Nat)(l:List ef):T0:=
 match dj (s.data.toList.drop (i+1)) false 0 with
 |some k=>.go (i+k+2) (l++[⟨5,s.extract i (i+k+2),i⟩])
 |none=>.out
theorem pI(t:ByteArray)(j:Nat)(h:j<t.size):∃c r,t.data.toList.drop j=c::r/\c.toNat=aI t j/\r=t.data.toList.drop (j+1):=by have h':j<t.data.toList.length:=h;refine⟨t.data.toList[j],t.data.toList.drop (j+1),kF h',?_,rfl⟩;unfold aI;rw[jB,gT h'];rfl
theorem rZ:∀(l:List UInt8)(b:Bool)(k m:Nat),dj l b k=some m->m<k+l.length
 |[],b,k,m,h=>by cases b<;>simp[dj]at h
 |c::r,true,k,m,h=>by
  rw[dj]at h;split at h
  ·cases h
  ·have:=rZ r false (k+1) m h;simp only[gO];omega
 | c::r,false,k,m,h=>by
  rw[dj]at h;simp only[gO];split at h
  ·have:=rZ r true (k+1) m h;omega
  ·split at h
   ·injection h with h;omega
   ·split at h
    ·cases h
    ·have:=rZ r false (k+1) m h;omega
theorem DX(X:Nat)(s:ByteArray)(i:Nat)(l:List ef)(w:World)(h:mc w X s i l)(hl:l.length+1<=65537)(gi:aI s i=34)(hp:∀j,j<s.size->aI s j<128)(m:Nat)(O:dj (s.data.toList.drop (i+1)) false 0=some m):
  Calls prog 129 #[X] w (yO X s w (i+m+2) (l++[⟨5,s.extract i (i+m+2),i⟩]) (.tuple #[])):=by
 obtain⟨lv,gn⟩:=h.out;have g1:=h.le;have g0:=h.most;have gt:=h.lt;have HH:=hid h;obtain⟨x0,x1,x2,x3,-,-,-,-⟩:=ab gn.blk;have ge:=rZ _ _ _ _ O;have gm:=mg s (i+1);have gw:=og s (i+1);rw[jH]at ge;(have ge:i+m+2<=s.size:=by have:s.data.toList.length=s.size:=rfl;omega);(have p0:(0:Int)<=(i:Int):=by omega);(have p2:(i:Int)<(s.size:Int):=by omega);(have p3:(i:Int)+1<=(s.size:Int):=by omega);have q1:IntKind.i64.wrap ((i:Int)+1)=(i:Int)+1:=jC _ (by omega);have N:=fun W=>lV s i (by omega) W;rw[gi]at N;rw[<-gm]at O;have gy:=hid O;have gr:Hid (∀j,j<(s.extract (i+1) s.size).size->aI (s.extract (i+1) s.size) j<128):=hid (fun j hj=>by rw[eY];exact hp _ (by omega));clear gw gm O gn h gi hp;(go_enter func129,ntmps129);go_wp2_with fail;have U:=qF w (s.extract (i+1) s.size) 0;have gp:Below w w (w.iter (s.extract (i+1) s.size) 0):=(gH _ w).alloc (gC _) _;generalize s.extract (i+1) s.size=t at *;clear x0 x1 x2 x3 N;go_loopg [4,5,6,25,26] t.size (fun g u4 _ _ _ _ wr=>∃(j:Nat)(sl:Bool),j<=t.size/\t.size-j<=g/\u4=.bool sl/\wr.heap[w.heap.size]? = some (.stringIter t j)/\Below w w wr/\dj (t.data.toList.drop j) sl j=some m)
 case atStart=>exact⟨0,false,gQ _,by omega,rfl,U,gp,by rw[qu];exact gy.out⟩
 case round=>
  clear U gp;obtain⟨j,sl,hj,hg,rfl,hit,hB,O⟩:=hrel;have M:j<t.size:=by
   rcases kL j t.size with h|h
   ·exact h
   ·rw[kz (by have:t.data.toList.length=t.size:=rfl;omega)]at O;cases sl<;>cases O
  have J:=fun ty=>qP (P:=prog) wr w.heap.size t j ty hit M;obtain⟨c,rr,gj,yk,gh⟩:=pI t j M;have hd:=nZ t j (gr.out j M);rw[hd]at J;rw[gj]at O;have HQ:=hid O;have gg:=hid gh;have D:=hid yk;have j1:=iterAt_heap wr w.heap.size t j (j+1) hit;have j2:Below w w (wr.iterAt w.heap.size t (j+1)):=eD hB (gC _);generalize wr.iterAt w.heap.size t (j+1)=W1 at J j1 j2;have J1:=hid j1;clear hd gj yk gh j1 O hit;generalize aI t j=bb at *;cases sl with
  | true=>
   have hN:¬ c.toNat=10/\dj rr false (j+1)=some m:=by
    have:=HQ.out;rw[dj]at this;split at this
    ·cases this
    ·exact⟨‹_›,this⟩
   have HN:=hid hN.2;(have gx:((bb:Int) != 10)=true:=by rw[vc];have:=D.out;omega);clear hN;go_wp2_with fail;refine(DW X _ _).mono ?_;rintro e w2⟨rfl,rfl⟩;go_wp2_with fail;go_roundg (t.size-(j+1))
   case measure=>omega
   case rel=>exact⟨j+1,false,by omega,gC _,rfl,J1.out,j2,by rw[<-gg.out];exact HN.out⟩
  | false=>
   by_cases ga:bb=92
   ·subst ga;have HN:Hid (dj rr true (j+1)=some m):=hid (by rw[<-HQ.out,dj,gG D.out]);go_wp2_with fail;go_roundg (t.size-(j+1))
    case measure=>omega
    case rel=>exact⟨j+1,true,by omega,gC _,rfl,J1.out,j2,by rw[<-gg.out];exact HN.out⟩
   by_cases gl:bb=34
   ·subst gl;(have gu:j=m:=by have:=HQ.out;rw[dj,gB (by rw[D.out];omega),gG D.out]at this;exact Option.some.inj this);subst gu;have gd:=HH.out.below j2;obtain⟨gz,gb⟩:=gd.out;obtain⟨x0,x1,x2,x3,f0,f1,f2,f3⟩:=ab gb.blk;have q2:IntKind.i64.wrap ((i:Int)+(j:Int))=(i:Int)+(j:Int):=jC _ (by omega);have q3:IntKind.i64.wrap ((i:Int)+(j:Int)+2)=(i:Int)+(j:Int)+2:=jC _ (by omega);have I:=gd.set (i+j+2) ge;rw[show((i+j+2:Nat):Int)=(i:Int)+(j:Int)+2 by omega]at I;have gq:=hid I;clear I gb gd;go_wp2_with fail;refine(ud X s (i+j+2) l 5 i (by omega) hl _ gq.out).mono ?_;rintro e w4⟨rfl,gs,gv⟩;go_wp2_with fail;refine jY (vp rfl _ _ _) rfl ?_;exact⟨rfl,gs,((j2.mono (qr gt)).setCell (gC _) _).trans gv⟩
   have hN:¬ c.toNat=10/\dj rr false (j+1)=some m:=by
    have:=HQ.out;rw[dj,gB (by rw[D.out];omega),gB (by rw[D.out];omega)]at this;split at this
    ·cases this
    ·exact⟨‹_›,this⟩
   have HN:=hid hN.2;(have g2:((bb:Int)==92)=false:=by rw[gF];omega);(have g3:((bb:Int)==34)=false:=by rw[gF];omega);(have gx:((bb:Int)==10)=false:=by rw[gF];have:=D.out;omega);clear gl ga hN;go_wp2_with fail;go_roundg (t.size-(j+1))
   case measure=>omega
   case rel=>exact⟨j+1,false,by omega,gC _,rfl,J1.out,j2,by rw[<-gg.out];exact HN.out⟩
theorem Lx(k:Int)(D:k=0\/k=1\/k=2)(w:World):(Instr.index 117 (.agg #[.int .i64 1,.int .i64 2,.int .i64 3]) (.int .i64 k)).run prog w=.ok (.int .i64 (k+1)) w:=by rcases D with rfl|rfl|rfl;all_goals simp[Instr.index,run_underlying underlying117,asIntOf,go_sem]
theorem Cm(s:ByteArray):bW s=0\/bW s=1\/bW s=2:=by
 unfold bW;split
 ·exact .inr (.inl rfl)
 ·split
  ·exact .inr (.inr rfl)
  ·exact .inl rfl
theorem DY(l:List UInt8):d5 l<=l.length:=by unfold d5;exact(List.takeWhile_sublist _).length_le
theorem Sh(s:ByteArray)(h:d8 s.data.toList=true)(w:World):Calls prog 120 #[.string s,.string ⟨#[239,187,191]⟩] w fun e w'=>e=.returned (.bool false)/\w=w':=by
 have J:Lib.hasPrefix s.data.toList [239,187,191]=false:=by
  cases I:s.data.toList with
  |nil=>rfl
  |cons a r=>have D:=List.all_eq_true.1 h a (by rw[I];simp);rw[gA,gD,gD]at D;unfold Lib.hasPrefix;rw[List.isPrefixOf,show((239:UInt8)==a)=false from beq_eq_false_iff_ne.2 fun e=>by subst e;exact absurd D.2 (by decide)];rfl
 have:=ne s ⟨#[239,187,191]⟩ w;rw[show(⟨#[239,187,191]⟩:BA).data.toList=[239,187,191]from rfl,J]at this;exact this
def tI(s:ByteArray)(i:Nat):Bool:=Lib.hasPrefix (s.data.toList.drop i) [47,47]||Lib.hasPrefix (s.data.toList.drop i) [47,42]
def fN(s:ByteArray)(i:Nat)(l:List ef):T0:=
 if aI s i=10 then .go (i+1) (lk l i)
 else if aI s i=32\/aI s i=9 then .go (i+1) l
 else if aI s i=13\/aI s i=96\/tI s i=true then .out
 else if aL (aI s i:Int)=true then .go (i+d5 (s.data.toList.drop i)) (l++[⟨bW (s.extract i (i+d5 (s.data.toList.drop i)))+1,s.extract i (i+d5 (s.data.toList.drop i)),i⟩])
 else if aC (aI s i:Int)=true then .go (i+d5 (s.data.toList.drop i)) (l++[⟨4,s.extract i (i+d5 (s.data.toList.drop i)),i⟩])
 else if aI s i=34 then Fr s i l
 else Fq s i l
def my(i:Nat)(l:List ef):Prop:=l.length<=i/\∀t∈l,t.text.size<=65536
theorem my.push{i j:Nat}{l:List ef}{t:ef}(h:my i l)(J:i+1<=j)(I:t.text.size<=65536):my j (l++[t]):=by
 refine⟨by rw[gM];have:=h.1;simp;omega,fun u D=>?_⟩;rcases List.mem_append.1 D with D|D
 ·exact h.2 u D
 ·(obtain rfl:u=t:=by simpa using D);exact I
theorem my.le{i j:Nat}{l:List ef}(h:my i l)(D:i<=j):my j l:=⟨jZ h.1 D,h.2⟩
theorem my.line{i j:Nat}{l:List ef}(h:my i l)(D:i+1<=j)(p:Int):my j (lk l p):=by
 unfold lk;split
 ·exact h.push D (by show(1:Nat)<=65536;omega)
 ·exact h.le (by omega)
theorem DZ(X:Nat)(s:ByteArray)(i:Nat)(l:List ef)(w:World)(h:mc w X s i l)(hT:dw w)(hi:i<s.size)(hp:d8 s.data.toList=true)(hv:my i l)(j:Nat)(l':List ef)(D:fN s i l=.go j l'):
  Calls prog 85 #[X] w (yO X s w j l' (.tuple #[])):=by
 have hc:=h.most;have gg:=h.lt;(have hl:l.length+1<=65537:=by have:=hv.1;omega);obtain⟨lv,gw⟩:=h.out;obtain⟨x0,x1,x2,x3,f0,f1,f2,f3⟩:=ab gw.blk;have gl:=fun W=>lV s i hi W;have HM:=hid (fun w=>Sh s hp w);have HL:=hid (Ch X s i l (i:Int) hl w h hT hv.2);have HN:=hid (Lw X s i l w h);have gy:=hid (fun w'(hb:Below w w w')=>yT 124 Sc Se X s i l w' (h.below hb));have gx:=hid (fun w'(hb:Below w w w')=>yT 128 Sd Sf X s i l w' (h.below hb));have g0:=hid (fun w'(hb:Below w w w')he m hq=>DX X s i l w' (h.below hb) hl he (fun j hj=>(B4 hp j hj).2) m hq);have gz:=hid (fun w'(hb:Below w w w')n hn hn0=>Lu X s i l w' (h.below hb) (hT.below hb) hl n hn hn0);have gb:=hid (fun w=>iM (aI s i:Int) w);have gq:=hid (fun w=>mx (aI s i:Int) w);have M:=hid (h.set (i+1) (by omega));have hg:=ml s i;have q1:IntKind.i64.wrap ((i:Int)+1)=(i:Int)+1:=jC _ (by omega);unfold fN at D;generalize aI s i=c at *;clear hp h hT gw hv;by_cases gi:c=10
 ·subst gi;rw[gG rfl]at D;injection D with e1 J;subst e1;subst J;clear gb;cases hz:((i:Int)==0);all_goals
   (go_enter func85,ntmps85);go_wp2_with fail;try
    refine(HM.out _).mono ?_
    rintro e w2⟨rfl,rfl⟩
    go_wp2_with fail
   refine HL.out.mono ?_;rintro e w2⟨rfl,gs,I⟩;have O:=gs.set (i+1) (by omega);rw[show((i+1:Nat):Int)=(i:Int)+1 by omega]at O;have M:=hid O;obtain⟨ha,gv⟩:=gs.out;clear x0 x1 x2 x3 f0 f1 f2 f3 O HL;obtain⟨x0,x1,x2,x3,f0,f1,f2,f3⟩:=ab gv.blk;go_wp2_with fail;go_end0;exact⟨rfl,M.out,I.setCell (by exact gC X) _⟩
 rw[gB gi]at D;by_cases gh:c=32\/c=9
 ·rw [gG gh]at D;injection D with e1 J;subst e1;subst J;rw[show((i+1:Nat):Int)=(i:Int)+1 by omega]at M;clear gb gi;rcases gh with rfl|rfl;all_goals
   cases hz:((i:Int)==0);all_goals
    (go_enter func85,ntmps85);go_wp2_with fail;try
     refine(HM.out _).mono ?_
     rintro e w2⟨rfl,rfl⟩
     go_wp2_with fail
    go_end0;exact⟨rfl,M.out,(gH X w).setCell (by exact gC X) _⟩
 rw[gB gh]at D;by_cases ge:c=13\/c=96\/tI s i=true
 ·rw[gG ge]at D;cases D
 rw[gB ge]at D;have U:tI s i=false:=Bool.eq_false_iff.2 fun h=>ge (.inr (.inr h));unfold tI at U;rw[kZ]at U;have HN:=hid (HN.out U.1 U.2);(have g6:((c:Int)==10)=false:=by rw[gF];omega);(have g4:((c:Int)==32)=false:=by rw[gF];omega);(have e9:((c:Int)==9)=false:=by rw[gF];omega);(have g5:((c:Int)==13)=false:=by rw[gF];omega);(have g3:((c:Int)==96)=false:=by rw[gF];omega);have qc:IntKind.i32.wrap (c:Int)=(c:Int):=vi _ (by omega);have gj:=hid D;clear D U ge gh gi HL M;(have hk:aL (c:Int)=true\/(aL (c:Int)=false/\aC (c:Int)=true)\/(aL (c:Int)=false/\aC (c:Int)=false/\c=34)\/(aL (c:Int)=false/\aC (c:Int)=false/\¬ c=34):=by cases aL (c:Int)<;>cases aC (c:Int)<;>by_cases h:c=34<;>simp[h]);rcases hk with hL|⟨hL,hF⟩|⟨hL,hF,rfl⟩|⟨hL,hF,n34⟩<;>cases hz:((i:Int)==0);all_goals
  (try have hh:((c:Int)==34)=false:=by rw[gF];omega);(try have g8:=hid n34);(try clear n34);rw[hL]at gb gj;(try rw[hF]at gq gj);(try clear hF);clear hL;(go_enter func85,ntmps85);go_wp2_with fail;try
   refine(HM.out _).mono ?_
   rintro e w2⟨rfl,rfl⟩
   go_wp2_with fail
  refine HN.out.mono ?_;rintro J w2⟨rfl,I⟩;go_wp2_with fail;refine(gb.out _).mono ?_;rintro J w3⟨rfl,rfl⟩;go_wp2_with fail;try
   refine(gq.out _).mono ?_
   rintro J w3⟨rfl,rfl⟩
   go_wp2_with fail
  have D:=gj.out;clear gj
 rotate_left 4
 iterate 2
  simp only[gW,jW,kG]at D
  unfold Fr at D
  split at D
  ·rename_i m hm;injection D with e1 J;subst e1;subst J;refine(g0.out _ I (by first|rfl|trivial) m hm).mono ?_;rintro J w3⟨rfl,gk,gp⟩;go_wp2_with fail;go_end0;exact⟨rfl,gk,(I.mono (qr gg)).trans gp⟩
  ·cases D
 iterate 2
  simp only[gW,jW]at D
  rw[gB g8.out]at D
  unfold Fq at D
  split at D
  ·cases D
  ·rename_i hm;injection D with e1 J;subst e1;subst J;refine(gz.out _ I _ rfl hm).mono ?_;rintro J w3⟨rfl,gk,gp⟩;go_wp2_with fail;go_end0;exact⟨rfl,gk,(I.mono (qr gg)).trans gp⟩
 rotate_left 2
 iterate 2
  simp only[gW,jW,kG]at D
  injection D with e1 J
  subst e1
  subst J
  refine(gx.out _ I).mono ?_
  rintro J w4⟨rfl,N,gn⟩
  generalize hwl:i+d5 (s.data.toList.drop i)=e at *
  have g2:i<=e:=by omega
  obtain⟨g1,ga⟩:=N.out
  have gt:=N.le
  clear x0 x1 x2 x3 f0 f1 f2 f3 hwl
  obtain⟨x0,x1,x2,x3,f0,f1,f2,f3⟩:=ab ga.blk
  have gr:=hid (ud X s e l 4 i (by omega) hl w4 N)
  go_wp2_with fail
  refine gr.out.mono ?_
  rintro e3 w6⟨rfl,gd,gm⟩
  go_wp2_with fail
  go_end0
  exact⟨rfl,gd,((I.mono (qr gg)).trans gn).trans gm⟩
 all_goals
  simp only[kG]at D;injection D with e1 J;subst e1;subst J;refine(gy.out _ I).mono ?_;rintro J w4⟨rfl,N,gn⟩;generalize hwl:i+d5 (s.data.toList.drop i)=e at *;(have g2:i<=e:=by omega);obtain⟨g1,ga⟩:=N.out;have gt:=N.le;clear x0 x1 x2 x3 f0 f1 f2 f3 hwl;obtain⟨x0,x1,x2,x3,f0,f1,f2,f3⟩:=ab ga.blk;(have p0:(0:Int)<=(i:Int):=by omega);(have p1:(i:Int)<=(e:Int):=by omega);(have p2:(e:Int)<=(s.size:Int):=by omega);have hk:=Cm (s.extract i e);have g7:=hid (fun w=>Cc (s.extract i e) w);have gr:=hid (fun(w':World)(hb:Below w4 w4 w')=>ud X s e l (bW (s.extract i e)+1) i (by omega) hl w' (N.below hb));have hf:=fun W=>Lx (bW (s.extract i e)) hk W;generalize bW (s.extract i e)=kw at *;clear gl HM gb gq HN gy gx g0 gz g6 g4 e9 g5 g3 qc x2 x3 f0 f1 f2 f3;(go_upto_region 13 with fail);go_region_held3 (fun w'=>w'.cell? ⟨X,0,none⟩=some (.string s)/\w'.cell? ⟨X,1,none⟩=some (.int .i64 (e:Int)))
   (first|exact⟨z0,z1⟩|go_keep)
   (first
    |(go_at_call 127;refine(g7.out _).mono ?_;rintro e3 w5⟨rfl,rfl⟩)
    |(go_at_call 126;refine(gr.out _ (gH _ _).drew).mono ?_;rintro e3 w6⟨rfl,gd,gm⟩;obtain⟨g9,gu⟩:=gd.out;obtain⟨z0,z1,-,-,-,-,-,-⟩:=ab gu.blk))
  all_goals(go_wp2_with fail);go_end0;exact⟨rfl,gd,((I.mono (qr gg)).trans gn).drew.trans gm⟩
end
section
open Go.RowKit Go.Lib Go.Proofs
structure iY(w:World):Prop where
 tab:dw w
 u8:Lib.Utf8Tabs 1 2 w
theorem iY.below{w w':World}(h:iY w)(hb:Below w w w'):iY w':=⟨h.tab.below hb,Go.Proofs.Utf8Tabs_below h.u8 hb⟩
theorem yA(g o c j:Nat)(s:ByteArray)(w:World)(I:iY w)(hb:Lib.Bytes w g o s)(J:j<s.size):
  Calls prog 119 #[.slice (some ⟨g,o+j,none⟩) (s.size-j) (c-j)] w fun e w'=>e=.returned (.tuple #[.int .i32 (Utf8.decode s j).1,.int .i64 (Utf8.decode s j).2])/\Below w w w':=by(have D:(s.extract j s.size).size=s.size-j:=by rw[jV];omega);have h:=Any7.utf8_DecodeRune Tryz.laysDecode (s.extract j s.size) g (o+j) (c-j) w I.u8 (fun m hm=>by rw[D]at hm;rw[uD,eY,show o+j+m=o+(j+m)by omega,hb (j+m) (by omega)];(have:(s[j+m]'(by omega)).toNat=aI s (j+m):=by unfold aI;rw[jB,gT (by show j+m<s.data.toList.length;have:s.data.toList.length=s.size:=rfl;omega)];rfl);rw[this]);rw[D]at h;(have hd:Lib.decodeGo (s.extract j s.size)=Utf8.decode s j:=by unfold Lib.decodeGo;rw[gB (by rw[D];omega),B3,gZ]);rw[hd]at h;exact h
theorem lJ(r:Int)(w:World):Calls prog 188 #[.int .i32 r] w fun e w'=>e=.returned (.bool (Lib.validRune r))/\w'=w:=by exact(Any.utf8_ValidRune Tryz.laysValid r w)
def O8(B b:Nat)(bs:List Value)(w:World):Prop:=Lib.IsBuilder 120 5 B b bs w
theorem tY(B b:Nat)(bs:List Value)(s:ByteArray)(w:World)(h:O8 B b bs w)(D:bs.length+s.size<=140737488355328)(I:B<=w.heap.size):
  Calls prog 134 #[b,s] w fun e w'=>(∃v,e=.returned v)/\O8 B b (bs++Lib.strCells s) w'/\Below B w w':=
 (Any.Builder_WriteString (P:=prog) (ρ:=Tryz.laysReplace_ren) { Tryz.laysReplace with } Tryz.xReplace B b bs s w h D I).mono fun _ _ h=>⟨⟨_,h.1⟩,.inr h.2.1,h.2.2⟩
def RT:Go.Shelf.Ren:={ Tryz.laysReplace_ren with f:=fun|167=>135|n=>Tryz.laysReplace_ren.f n }
theorem Sb:Go.Proofs.Lays.n167 prog RT:=
 {Tryz.laysReplace with
  f167:=func135.trans (jM some (by kernel_rfl))
  f240:=func189.trans (jM some (by kernel_rfl))
  f276:=Tryz.laysReplace.f276.trans (jM some (by kernel_rfl)) }
theorem Ug:Go.Proofs.Builder.Extra prog RT:={
 sizeBuilder:=by kernel_rfl
 liesBuilder:=by kernel_rfl
 t5:=underlying5
 a5:=isAgg5
 z5:=sizeOf5
 v5:=zeroValue5
 infoByte:=by kernel_rfl
 cellsByte:=by kernel_rfl
 sizeByte:=by kernel_rfl
 neB5:=by decide }
theorem yB(B b:Nat)(bs:List Value)(c:Int)(w:World)(h:O8 B b bs w)(D:bs.length+1<=140737488355328)(I:B<=w.heap.size):
  Calls prog 135 #[b,.int .u8 c] w fun e w'=>e=.returned .nilIface/\O8 B b (bs++[.int .u8 c]) w'/\Below B w w':=
 (Any.Builder_WriteByte Sb Ug B b bs c w h D I).mono fun _ _ h=>⟨h.1,.inr h.2.1,h.2.2⟩
theorem Ci(B b:Nat)(l:List UInt8)(w:World)(h:O8 B b (Lib.byteCells l) w)(D:B<=w.heap.size):
  Calls prog 136 #[b] w fun e w'=>e=.returned (.string ⟨l.toArray⟩)/\Below B w w':=
 Any.Builder_String_any Tryz.laysBString Tryz.xBString B b l w h D
theorem oh(s:ByteArray)(i j:Nat)(h:s.size<=65536):(s.extract i j).size<=65536:=by rw[jV];omega
theorem Ly(s:ByteArray)(i:Nat):(s.data.toList.drop i).length=s.size-i:=by rw[jH];rfl
theorem tJ(l:List UInt8)(c:UInt8)(r:List UInt8)(h:l=c::r)(D:a7 (c.toNat:Int)=true):1<=d5 l:=by subst h;unfold d5;rw[qG,gG (by simpa using D)];simp
theorem Cn(s:ByteArray)(i:Nat)(D:i<s.size):∃c r,s.data.toList.drop i=c::r/\c.toNat=aI s i:=by obtain⟨c,r,J,I,_⟩:=pI s i D;exact⟨c,r,J,I⟩
def fO(s:ByteArray):Nat->Nat->List ef->Option (List ef)
 |0,_,_=>none
 | g+1,i,l=>
  if i<s.size then
   match fN s i l with
   | .go j l'=>fO s g j l'
   | .out=>none
  else some (lk l (s.size:Int))
inductive Co where
 |toks (l:List ef)
 |err (p:Int) (e:Int)
 |out
def ll(s:ByteArray):Co:=
 if 65536<s.size then .err 65536 12
 else if d8 s.data.toList=true then(match fO s (s.size+1) 0 []with|some l=>.toks l|none=>.out)
 else .out
theorem Cp{s:ByteArray}{L:List ef}(h:ll s=.toks L):s.size<=65536/\d8 s.data.toList=true/\fO s (s.size+1) 0 []=some L:=by
 unfold ll at h;split at h
 ·cases h
 ·split at h
  ·rename_i I D;cases hs:fO s (s.size+1) 0 []with
   |none=>rw[hs]at h;cases h
   |some l=>rw[hs]at h;injection h with h;exact⟨by omega,D,by rw[h]⟩
  ·cases h
theorem sT{s:ByteArray}{p n:Int}(h:ll s=.err p n):65536<s.size/\p=65536/\n=12:=by
 unfold ll at h;split at h
 ·injection h with I D;exact⟨‹_›,I.symm,D.symm⟩
 ·split at h
  ·split at h<;>cases h
  ·cases h
theorem Cq(s:ByteArray)(i:Nat)(l:List ef)(hs:s.size<=65536)(U:i<s.size)(h:my i l)(j:Nat)(l':List ef)(D:fN s i l=.go j l'):i<j/\j<=s.size/\my j l':=by
 have hd:=Ly s i;obtain⟨c,r,I,J⟩:=Cn s i U;have hw:=DY (s.data.toList.drop i);unfold fN at D;split at D
 ·injection D with e1 e2;subst e1 e2;exact⟨by omega,by omega,h.line (gC _) _⟩
 split at D
 ·injection D with e1 e2;subst e1 e2;exact⟨by omega,by omega,h.le (by omega)⟩
 split at D
 ·cases D
 split at D
 ·rename_i M;have N:=tJ _ c r I (by rw[J];unfold a7;rw[M];rfl);injection D with e1 e2;subst e1 e2;exact⟨by omega,by omega,h.push (by omega) (oh _ _ _ hs)⟩
 split at D
 ·rename_i M;have N:=tJ _ c r I (by rw[J];unfold a7;rw[M];simp);injection D with e1 e2;subst e1 e2;exact⟨by omega,by omega,h.push (by omega) (oh _ _ _ hs)⟩
 split at D
 ·unfold Fr at D;split at D
  ·rename_i k hk;have hb:=rZ _ _ _ _ hk;rw[jH]at hb;have hz:s.data.toList.length=s.size:=rfl;injection D with e1 e2;subst e1 e2;exact⟨by omega,by omega,h.push (by omega) (oh _ _ _ hs)⟩
  ·cases D
 ·unfold Fq at D;split at D
  ·cases D
  ·rename_i O;have hb:mT s i<=s.size-i:=by
    unfold mT;split
    ·rename_i h;exact h.1
    ·split
     ·rename_i h;exact h.1
     ·split
      ·rename_i h;exact h.1
      ·omega
   injection D with e1 e2;subst e1 e2;exact⟨by omega,by omega,h.push (by omega) (oh _ _ _ hs)⟩
end
section
open Go.RowKit Go.Lib Go.Proofs
attribute [local go_sem ↓] Go.wp_at_zero Go.wp_at_succ
theorem TJ:prog.underlying 27=some (.slice (prog.elem 27)):=by kernel_rfl
theorem Sg:prog.elem 27=5:=by kernel_rfl
theorem TL(w:World):(sizeOf (prog.elem 27)).run prog w=.ok 1 w:=by rw[Sg];exact sizeOf5 w
theorem yC(g o n c k:Nat)(I:k<n)(D:n<=c)(W:World):(Instr.slice 27 (.slice (some ⟨g,o,none⟩) n c) (some (.int .i64 (k:Int))) none none).run prog W=.ok (.slice (some ⟨g,o+k,none⟩) (n-k) (c-k)) W:=by rw[run_slice_l (P:=prog) W 27 _ n c TJ .i64 (k:Int) (by omega) (by omega),TL];simp only[Result.andThen,sliced,Int.toNat_natCast];rw[gB (by omega)];simp[oX]
theorem GG(g o c:Nat)(s:ByteArray)(w:World)(hT:iY w)(hb:Lib.Bytes w g o s)(hg:g<w.heap.size)(hc:s.size<=c)(gh:s.size<=1000000000)(hp:d8 s.data.toList=true):
  Calls prog 83 #[.slice (some ⟨g,o,none⟩) s.size c] w fun e w'=>e=.returned (.int .i64 (-1))/\Below w w w':=by
 have M:=hid (fun w'(hB:Below w w w')j(hj:j<s.size)=>yA g o c j s w' (hT.below hB) (fun i hi=>(kY (a:=⟨g,o+i,none⟩) (hB.block g hg)).trans (hb i hi)) hj);have gd:=run_convert_whole (P:=prog) w 27 5 9 underlying27 underlying5 underlying9 g o s hb c;have U:=hid (fun k hk W=>yC g o s.size c k hk hc W);have HP:=hid (B4 hp);clear hb hT hp;(go_enter func83,ntmps83);go_wp2_with fail;clear gd;go_loopg [3,4,5,6,10,11] s.size (fun gg _ _ _ _ _ _ wr=>∃j:Nat,j<=s.size/\s.size-j<=gg/\wr.heap[w.heap.size]? = some (.stringIter s j)/\Below w w wr)
 case atStart=>exact⟨0,gQ _,by omega,qF w _ 0,(gH w.heap.size w).alloc (gC _) _⟩
 case round=>
  obtain⟨j,hj,gi,hit,J⟩:=hrel;by_cases D:j<s.size
  ·have I:=fun ty=>qP (P:=prog) wr w.heap.size s j ty hit D;obtain⟨h0,h1⟩:=HP.out j D;have M:=hid (fun w'(hB:Below w w w')=>M.out w' hB j D);rw[nZ s j h1]at I M;have N:=iterAt_heap wr w.heap.size s j (j+1) hit;have j2:Below w w (wr.iterAt w.heap.size s (j+1)):=eD J (gC _);have j0:w.heap.size<(wr.iterAt w.heap.size s (j+1)).heap.size:=by
    rcases kL w.heap.size (wr.iterAt w.heap.size s (j+1)).heap.size with h|h
    ·exact h
    ·rw[kN h]at N;cases N
   generalize wr.iterAt w.heap.size s (j+1)=W1 at I N j2 j0;have gj:=U.out j D;have J1:=hid N;generalize aI s j=r at *;(have e0:((r:Int)==0)=false:=by rw[gF];omega);(have ga:((r:Int)==65533)=false:=by rw[gF];omega);(have gb:((r:Int)==65279)=false:=by rw[gF];omega);clear N J hit h0 h1;go_wp2_with fail;refine(M.out _ j2).mono ?_;rintro e w3⟨rfl,O⟩;have J3:=hid ((O.block w.heap.size j0).trans J1.out);go_wp2_with fail;go_roundg (s.size-(j+1))
   case measure=>omega
   case rel=>exact⟨j+1,by omega,gC _,J3.out,au j2 O⟩
  ·have ge:=fun ty=>qQ (P:=prog) wr w.heap.size s j ty hit D;go_wp2_with fail;go_ret;exact⟨rfl,J⟩
theorem GH(w:World):
  Calls prog 83 #[.slice none 0 0] w fun e w'=>e=.returned (.int .i64 (-1))/\Below w w w':=by have I:=run_convert_nil_bytes (P:=prog) w 27 9 5 0 underlying27 underlying5 underlying9;have hit:=qF w ⟨#[]⟩ 0;have D:=fun ty=>qQ (P:=prog) (w.iter ⟨#[]⟩ 0) w.heap.size ⟨#[]⟩ 0 ty hit (by decide);have J:=hid (show Below w w (w.iter ⟨#[]⟩ 0)from(gH w.heap.size w).alloc (gC _) _);clear hit;(go_enter func83,ntmps83);go_wp2_with fail;refine wp_loop_rounds 1 ?_;rw[rounds_succ];go_wp2_with fail;go_ret;exact⟨rfl,J.out⟩
theorem Cj{w w':World}{g o:Nat}{s:ByteArray}(h:Lib.Bytes w g o s)(D:g<w.heap.size)(hb:Below w w w'):Lib.Bytes w' g o s:=
 fun i hi=>(kY (a:=⟨g,o+i,none⟩) (hb.block g D)).trans (h i hi)
def eK(w:World)(A:Option Addr)(c:Nat)(s:ByteArray):Prop:=
 (A=none/\c=0/\s=⟨#[]⟩)\/∃g o,A=some ⟨g,o,none⟩/\s.size<=c/\g<w.heap.size/\Lib.Bytes w g o s
theorem eK.below{w w':World}{A:Option Addr}{c:Nat}{s:ByteArray}(h:eK w A c s)(hb:Below w w w'):eK w' A c s:=by
 rcases h with h|⟨g,o,M,J,D,I⟩
 ·exact .inl h
 ·exact .inr ⟨g,o,M,J,kK D hb.size,Cj I D hb⟩
theorem eK.wrong{w:World}{A:Option Addr}{c:Nat}{s:ByteArray}(h:eK w A c s)(J:iY w)(D:s.size<=1000000000)(I:d8 s.data.toList=true):
  Calls prog 83 #[.slice A s.size c] w fun e w'=>e=.returned (.int .i64 (-1))/\Below w w w':=by
 rcases h with⟨rfl,rfl,rfl⟩|⟨g,o,rfl,O,N,M⟩
 ·exact GH w
 ·exact GG g o c s w J M N O D I
theorem eK.conv{w:World}{A:Option Addr}{c:Nat}{s:ByteArray}(h:eK w A c s):
  (convert 27 9 (.slice A s.size c)).run prog w=.ok (.string s) w:=by
 rcases h with⟨rfl,rfl,rfl⟩|⟨g,o,rfl,J,I,D⟩
 ·exact run_convert_nil_bytes (P:=prog) w 27 9 5 0 underlying27 underlying5 underlying9
 ·exact run_convert_whole (P:=prog) w 27 5 9 underlying27 underlying5 underlying9 g o s D c
end
end Go.Proofs.YteialcjaiocjdaaGreatDoor
