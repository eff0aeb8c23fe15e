/-
  Parts of the proof: Snote Squot. By an AI agent.
-/
import Derived.Test.YtiebcdeafofgdaaGreatDoorJ20
import Derived.Test.YtiebcdeafofgdaaGreatDoorJ19
set_option maxRecDepth 100000
set_option maxHeartbeats 8000000
namespace Go.Proofs.YtiebcdeafofgdaaGreatDoor
section
open Go.RowKit Go.Lib Go.Proofs
attribute [local go_sem ↓] Go.wp_at_zero Go.wp_at_succ
theorem pC:∀ (l:List UInt8) (c:UInt8),Lib.indexByte l c<l.length
 | [],c=>by unfold Lib.indexByte;decide
 | b::l,c=>by
  have ih:=pC l c;unfold Lib.indexByte;simp only [List.length_cons];split
  ·omega
  ·split <;> omega
theorem sS (b:UInt8) (l:List UInt8) (c:UInt8) (h:b≠c):Lib.indexByte (b::l) c = -1∨1≤Lib.indexByte (b::l) c:=by
 have I:=Lib.indexByte_ge l c;unfold Lib.indexByte;rw [if_neg (by simpa using h)];split
 ·exact .inl rfl
 ·rename_i D;right;(have:Lib.indexByte l c ≠ -1:=by simpa using D);omega
def dT (l:List UInt8):Nat:=if Lib.indexByte l 10<0 then l.length else (Lib.indexByte l 10).toNat
theorem sT (l:List UInt8) (h:Lib.hasPrefix l [47,47]=true):1≤dT l∧dT l≤l.length:=by
 match l,h with
 | [],h=>simp [Lib.hasPrefix] at h
 | b::r,h=>
  (have hb:b≠10:=by rintro rfl;simp [Lib.hasPrefix] at h);have I:=sS b r 10 hb;have D:=pC (b::r) 10;unfold dT;split
  ·simp
  ·omega
def dj (s:ByteArray) (i:Nat) (l:List bE):Option GQ:=
 if Lib.hasPrefix (s.data.toList.drop i) [47,47]=true then some (.go (i+dT (s.data.toList.drop i)) l)
 else if Lib.hasPrefix (s.data.toList.drop i) [47,42]=true then
  if Lib.index ((s.data.toList.drop i).drop 2) [42,47]<0 then some (.bad i)
  else some (.go (i+((Lib.index ((s.data.toList.drop i).drop 2) [42,47]).toNat+4))
   (if Lib.contains ((s.data.toList.drop i).take ((Lib.index ((s.data.toList.drop i).drop 2) [42,47]).toNat+4)) [10]=true then cC l i else l))
 else none
def EX (X:Nat) (s:ByteArray) (w:World) (r:Option GQ) (e:Ending) (w':World):Prop:=
 match r with
 | none=>e=.returned (.bool false)∧Below w.heap.size w w'
 | some r=>fa X s w r (.bool true) e w'
theorem nO (X:Nat) (s:ByteArray) (i:Nat) (l:List bE) (w:World) (h:fd w X s i l) (hT:cD w) (hl:l.length+1≤65537) (g4:∀ t∈l,t.text.size≤65536) :
  Calls Tryz.prog 96 #[.pointer (some ⟨X,0,none⟩)] w (EX X s w (dj s i l)):=by
 obtain ⟨lv,nv,ns,g7⟩:=h.out;have hb:=g7.blk;have hp:=h.le;have gq:=h.most;have gr:=hb.lt;obtain ⟨x0,x1,x2,x3,-,-,-,-⟩:=ac hb;(have p0:(0:Int)≤(i:Int):=by omega);(have p2:(i:Int)≤(s.size:Int):=by omega);have H1:=hid (fun w=>cE (s.extract i s.size) ⟨#[47,47]⟩ w);have H2:=hid (fun w=>cE (s.extract i s.size) ⟨#[47,42]⟩ w);have H3:=hid (fun w=>oS (s.extract i s.size) 10 w);have gx:=eb s i;have gp:=d9 s i;have H4:=hid (fun w' (hT:cD w')=>DD ((s.extract i s.size).extract 2 (s.extract i s.size).size) ⟨#[42,47]⟩ w' hT (by rw [eb];omega));have H5:=hid (fun n w' (hT:cD w')=>dO ((s.extract i s.size).extract 0 n) ⟨#[10]⟩ w' hT (by rw [ByteArray.size_extract];omega));have g8:dj s i l=if Lib.hasPrefix (s.extract i s.size).data.toList [47,47]=true then some (.go (i+dT (s.extract i s.size).data.toList) l)
  else if Lib.hasPrefix (s.extract i s.size).data.toList [47,42]=true then
  if Lib.index ((s.extract i s.size).data.toList.drop 2) [42,47]<0 then some (.bad i)
  else some (.go (i+((Lib.index ((s.extract i s.size).data.toList.drop 2) [42,47]).toNat+4))
   (if Lib.contains ((s.extract i s.size).data.toList.take ((Lib.index ((s.extract i s.size).data.toList.drop 2) [42,47]).toNat+4)) [10]=true then cC l i else l))
  else none:=by rw [gp];rfl
 have gk:=hid g8;have gv:=hid (fun w' (h:fd w' X s i l) (hT:cD w')=>sP X s i l (i:Int) hl w' h hT g4);have g2:=hid gx;have HT:=hid hT;have HH:=hid h;clear g8 gp g4 gx hT h g7 hb;(go_enter Tryz.func96,Tryz.ntmps96);(go_wp2_with fail);go_quiet (fail);clear x0 x2 x3;have y1:(w.drewN nq).cell? ⟨X,1,none⟩=some (.int .i64 (i:Int)):=x1;clear x1;have hB:=al (Below.refl w.heap.size w) nq;generalize w.drewN nq=w1 at *;generalize s.extract i s.size=t at *;(have hm:t.size≤s.size:=by have:=g2.out;omega);rw [d9] at H4;have g3:t.data.toList.length=t.size:=rfl;have g1:=hid g3;clear g3;cases z:Lib.hasPrefix t.data.toList [47,47] with
 | true=>
  rw [z] at H1;have gz:=sT t.data.toList z;have HR:=hid (show dj s i l=some (.go (i+dT t.data.toList) l) by rw [gk.out,if_pos z]);have g9:=hid (show dT t.data.toList=if Lib.indexByte t.data.toList 10<0 then t.size else (Lib.indexByte t.data.toList 10).toNat from rfl);clear gk H2 H4 H5 gv z;generalize dT t.data.toList=N at *;(have hg:N≤t.size:=by rw [←g1.out];exact gz.2);have hh:=gz.1;have gl:t.size=s.size-i:=g2.out;have HI:=hid (show i+N≤s.size by omega);have hi:=hid gl;clear gz gl;have hk:=hid (fun w=>show Calls Tryz.prog 115 #[.string t,.int .u8 10] w (fun e w'=>e=.returned (.int .i64 (Lib.indexByte t.data.toList 10))∧w=w') from H3.out w);clear H3;generalize Lib.indexByte t.data.toList 10=ib at *;(go_wp2_with fail);refine (H1.out _).mono ?_;rintro e w2 ⟨rfl,rfl⟩;(go_wp2_with fail);refine (hk.out _).mono ?_;rintro e w2 ⟨rfl,rfl⟩;have M:=HH.out.below hB;have y:Below X w w1:=hB.mono (Nat.le_of_lt gr);have he:i+N≤s.size:=HI.out;by_cases gi:ib<0
  ·have hj:=hid (show N=t.size by have:=g9.out;rw [if_pos gi] at this;exact this);(have g5:decide (ib<0)=true:=by rw [decide_eq_true_iff];exact gi);clear gi;(go_upto_region 14 with fail);rw [show (t.size:Int)=(N:Int) by rw [hj.out]];obtain ⟨gb,gy,ga,I⟩:=M.out;obtain ⟨x0,x1,x2,x3,f0,f1,f2,f3⟩:=ac I.blk;have qn:IntKind.i64.wrap ((i:Int)+(N:Int))=(i:Int)+(N:Int):=IntWalk.i64_in _ (by omega);have D:=I.set (i+N) (by omega);rw [show ((i+N:Nat):Int)=(i:Int)+(N:Int) by omega] at D;have U:=hid D;have gg:Below X w (w1.setCell ⟨X,1,none⟩ (.int .i64 ((i:Int)+(N:Int)))):=y.setCell (Nat.le_refl _) _;have gn:=I.nfew;have O:=M.few;clear D I M y;(go_upto_region 15 with fail);generalize w1.setCell ⟨X,1,none⟩ (.int .i64 ((i:Int)+(N:Int)))=w7 at *;clear x0 x1 x2 x3 f0 f1 f2 f3;have D:=U.out;have hN:=D.notes;have g0:=D.blk.lt;obtain ⟨x0,x1,x2,x3,f0,f1,f2,f3⟩:=ac D.blk;obtain ⟨A0,c0,gd,_⟩:=hN.form;subst gd;(have p7:(N:Int)≤(t.size:Int):=by omega);go_region_law (first
    | (refine lD (by rfl) (.tmp 60) (.tmp 66) (by rfl) (X+1) _ _ ga ⟨0,t.extract 0 N,i⟩ (by rfl) _ (by rfl) (by simp) (hN.below (Below.refl _ _).drew) (by simp;omega) (by omega) ?_;intro g c w8 J;have ge:=(aj.drew D.blk).below J.bel (Nat.lt_succ_self _);obtain ⟨z0,z1,z2,z3,y0,y1,y2,y3⟩:=ac ge))
   all_goals (go_wp2_with fail);go_ret;rw [HR.out];exact ⟨rfl,⟨⟨gb,_,_,(D.below (Below.refl _ _).drew).noteRow J (by rw [List.length_append];simp;omega)⟩,by omega,gq,O⟩,((gg.drew).trans (J.bel.mono (Nat.le_succ _))).setCell (Nat.le_refl _) _⟩
  ·(obtain rfl:ib=(N:Int):=by have:=g9.out;rw [if_neg gi] at this;omega);(have g5:decide ((N:Int)<0)=false:=by rw [decide_eq_false_iff_not];exact gi);clear gi;(go_upto_region 14 with fail);obtain ⟨gb,gy,ga,I⟩:=M.out;obtain ⟨x0,x1,x2,x3,f0,f1,f2,f3⟩:=ac I.blk;have qn:IntKind.i64.wrap ((i:Int)+(N:Int))=(i:Int)+(N:Int):=IntWalk.i64_in _ (by omega);have D:=I.set (i+N) (by omega);rw [show ((i+N:Nat):Int)=(i:Int)+(N:Int) by omega] at D;have U:=hid D;have gg:Below X w (w1.setCell ⟨X,1,none⟩ (.int .i64 ((i:Int)+(N:Int)))):=y.setCell (Nat.le_refl _) _;have gn:=I.nfew;have O:=M.few;clear D I M y;(go_upto_region 15 with fail);generalize w1.setCell ⟨X,1,none⟩ (.int .i64 ((i:Int)+(N:Int)))=w7 at *;clear x0 x1 x2 x3 f0 f1 f2 f3;have D:=U.out;have hN:=D.notes;have g0:=D.blk.lt;obtain ⟨x0,x1,x2,x3,f0,f1,f2,f3⟩:=ac D.blk;obtain ⟨A0,c0,gd,_⟩:=hN.form;subst gd;(have p7:(N:Int)≤(t.size:Int):=by omega);go_region_law (first
    | (refine lD (by rfl) (.tmp 60) (.tmp 66) (by rfl) (X+1) _ _ ga ⟨0,t.extract 0 N,i⟩ (by rfl) _ (by rfl) (by simp) (hN.below (Below.refl _ _).drew) (by simp;omega) (by omega) ?_;intro g c w8 J;have ge:=(aj.drew D.blk).below J.bel (Nat.lt_succ_self _);obtain ⟨z0,z1,z2,z3,y0,y1,y2,y3⟩:=ac ge))
   all_goals (go_wp2_with fail);go_ret;rw [HR.out];exact ⟨rfl,⟨⟨gb,_,_,(D.below (Below.refl _ _).drew).noteRow J (by rw [List.length_append];simp;omega)⟩,by omega,gq,O⟩,((gg.drew).trans (J.bel.mono (Nat.le_succ _))).setCell (Nat.le_refl _) _⟩
 | false=>
  rw [z] at H1;clear H3;cases q:Lib.hasPrefix t.data.toList [47,42] with
  | false=>have HR:=hid (show dj s i l=none by rw [gk.out,if_neg (by rw [z];decide),if_neg (by rw [q];decide)]);rw [q] at H2;clear gk H4 H5 gv z q;(go_wp2_with fail);refine (H1.out _).mono ?_;rintro e w2 ⟨rfl,rfl⟩;(go_wp2_with fail);refine (H2.out _).mono ?_;rintro e w2 ⟨rfl,rfl⟩;(go_wp2_with fail);go_ret;rw [HR.out];exact ⟨rfl,hB⟩
  | true=>
   have ho:2≤t.size:=by
    rw [←g1.out];cases hq:t.data.toList with
    | nil=>rw [hq] at q;simp [Lib.hasPrefix] at q
    | cons a r=>cases r with
      | nil=>rw [hq] at q;simp [Lib.hasPrefix] at q
      | cons b r=>simp
   (have hn:(2:Int)≤(t.size:Int):=by omega);rw [q] at H2;have gm:=Lib.index_room (t.data.toList.drop 2) [42,47];have g6:=Lib.index_ge (t.data.toList.drop 2) [42,47];have gh:=hid gm;have ha:=hid g6;have gu:=hid (show dj s i l=if Lib.index (t.data.toList.drop 2) [42,47]<0 then some (.bad i) else some (.go (i+((Lib.index (t.data.toList.drop 2) [42,47]).toNat+4))
    (if Lib.contains (t.data.toList.take ((Lib.index (t.data.toList.drop 2) [42,47]).toNat+4)) [10]=true then cC l i else l)) by rw [gk.out,if_neg (by rw [z];decide),if_pos q])
   clear gm g6 gk z q;generalize Lib.index (t.data.toList.drop 2) [42,47]=ix at *;by_cases gs:ix<0
   ·have HR:=hid (show dj s i l=some (.bad i) by rw [gu.out,if_pos gs]);(have gw:decide (0≤ix)=false:=by rw [decide_eq_false_iff_not];omega);clear gu gh ha gs H5 gv;(go_wp2_with fail);refine (H1.out _).mono ?_;rintro e w2 ⟨rfl,rfl⟩;(go_wp2_with fail);refine (H2.out _).mono ?_;rintro e w2 ⟨rfl,rfl⟩;(go_wp2_with fail);refine (H4.out _ (HT.out.below hB)).mono ?_;rintro e w2 ⟨rfl,rfl⟩;(go_wp2_with fail);refine (eS X i _).mono ?_;rintro e w2 ⟨rfl,rfl⟩;unfold ec;refine ⟨rfl,?_⟩;rw [HR.out];exact ⟨rfl,hB.mono (Nat.le_of_lt gr)⟩
   ·obtain ⟨k,rfl⟩:∃ k:Nat,ix=(k:Int):=⟨ix.toNat,by omega⟩
    (have hr:k+4≤t.size:=by have:=gh.out (by omega);rw [List.length_drop,g1.out] at this;simp at this;omega);(have gw:decide ((0:Int)≤(k:Int))=true:=by rw [decide_eq_true_iff];omega);have gt:=hid (show dj s i l=some (.go (i+(k+4)) (if Lib.contains (t.data.toList.take (k+4)) [10]=true then cC l i else l)) by rw [gu.out,if_neg gs];rfl);have q4:IntKind.i64.wrap ((k:Int)+4)=(k:Int)+4:=IntWalk.i64_in _ (by omega);have gl:t.size=s.size-i:=g2.out;have HI:=hid (show i+(k+4)≤s.size by omega);have H6:=hid (fun w' (hT:cD w')=>H5.out (k+4) w' hT);(have gp:(t.extract 0 (k+4)).data.toList=t.data.toList.take (k+4):=by rw [Lib.extract_data];simp);rw [gp] at H6;have hi:=hid gl;clear gu gh ha gs H5 gl gp;generalize Lib.contains (t.data.toList.take (k+4)) [10]=cn at *;(go_wp2_with fail);refine (H1.out _).mono ?_;rintro e w2 ⟨rfl,rfl⟩;(go_wp2_with fail);refine (H2.out _).mono ?_;rintro e w2 ⟨rfl,rfl⟩;(go_wp2_with fail);refine (H4.out _ (HT.out.below hB)).mono ?_;rintro e w2 ⟨rfl,rfl⟩;(go_wp2_with fail);refine (ir X i _).mono ?_;rintro e w2 ⟨rfl,rfl⟩;(go_upto_region 12 with fail);rw [show (k:Int)+4=((k+4:Nat):Int) by omega];(have hh:1≤k+4:=by omega);clear gw q4;generalize k+4=N at *;(have hg:(N:Int)≤(t.size:Int):=by omega);(have ht:(0:Int)≤(N:Int):=by omega);have he:i+N≤s.size:=HI.out;cases gj:cn with
    | false=>
     have HR:=hid (show dj s i l=some (.go (i+N) l) by rw [gt.out,gj];rfl);rw [gj] at H6;clear gt gj;(go_wp2_with fail);refine (H6.out _ (HT.out.below hB)).mono ?_;rintro e w2 ⟨rfl,rfl⟩;have M:=HH.out.below hB;have y:Below X w w1:=hB.mono (Nat.le_of_lt gr);(go_upto_region 14 with fail);obtain ⟨gb,gy,ga,I⟩:=M.out;obtain ⟨x0,x1,x2,x3,f0,f1,f2,f3⟩:=ac I.blk;have qn:IntKind.i64.wrap ((i:Int)+(N:Int))=(i:Int)+(N:Int):=IntWalk.i64_in _ (by omega);have D:=I.set (i+N) (by omega);rw [show ((i+N:Nat):Int)=(i:Int)+(N:Int) by omega] at D;have U:=hid D;have gg:Below X w (w1.setCell ⟨X,1,none⟩ (.int .i64 ((i:Int)+(N:Int)))):=y.setCell (Nat.le_refl _) _;have gn:=I.nfew;have O:=M.few;clear D I M y;(go_upto_region 15 with fail);generalize w1.setCell ⟨X,1,none⟩ (.int .i64 ((i:Int)+(N:Int)))=w7 at *;clear x0 x1 x2 x3 f0 f1 f2 f3;have D:=U.out;have hN:=D.notes;have g0:=D.blk.lt;obtain ⟨x0,x1,x2,x3,f0,f1,f2,f3⟩:=ac D.blk;obtain ⟨A0,c0,gd,_⟩:=hN.form;subst gd;(have p7:(N:Int)≤(t.size:Int):=by omega);go_region_law (first
      | (refine lD (by rfl) (.tmp 60) (.tmp 66) (by rfl) (X+1) _ _ ga ⟨0,t.extract 0 N,i⟩ (by rfl) _ (by rfl) (by simp) (hN.below (Below.refl _ _).drew) (by simp;omega) (by omega) ?_;intro g c w8 J;have ge:=(aj.drew D.blk).below J.bel (Nat.lt_succ_self _);obtain ⟨z0,z1,z2,z3,y0,y1,y2,y3⟩:=ac ge))
     all_goals (go_wp2_with fail);go_ret;rw [HR.out];exact ⟨rfl,⟨⟨gb,_,_,(D.below (Below.refl _ _).drew).noteRow J (by rw [List.length_append];simp;omega)⟩,by omega,gq,O⟩,((gg.drew).trans (J.bel.mono (Nat.le_succ _))).setCell (Nat.le_refl _) _⟩
    | true=>
     have HR:=hid (show dj s i l=some (.go (i+N) (cC l i)) by rw [gt.out,gj];rfl);rw [gj] at H6;clear gt gj;(go_wp2_with fail);refine (H6.out _ (HT.out.below hB)).mono ?_;rintro e w2 ⟨rfl,rfl⟩;(go_wp2_with fail);refine (gv.out _ (HH.out.below hB) (HT.out.below hB)).mono ?_;rintro e w3 ⟨rfl,M,hf⟩;have y:Below X w w3:=(hB.mono (Nat.le_of_lt gr)).trans hf;(go_upto_region 14 with fail);obtain ⟨gb,gy,ga,I⟩:=M.out;obtain ⟨x0,x1,x2,x3,f0,f1,f2,f3⟩:=ac I.blk;have qn:IntKind.i64.wrap ((i:Int)+(N:Int))=(i:Int)+(N:Int):=IntWalk.i64_in _ (by omega);have D:=I.set (i+N) (by omega);rw [show ((i+N:Nat):Int)=(i:Int)+(N:Int) by omega] at D;have U:=hid D;have gg:Below X w (w3.setCell ⟨X,1,none⟩ (.int .i64 ((i:Int)+(N:Int)))):=y.setCell (Nat.le_refl _) _;have gn:=I.nfew;have O:=M.few;clear D I M y;(go_upto_region 15 with fail);generalize w3.setCell ⟨X,1,none⟩ (.int .i64 ((i:Int)+(N:Int)))=w7 at *;clear x0 x1 x2 x3 f0 f1 f2 f3;have D:=U.out;have hN:=D.notes;have g0:=D.blk.lt;obtain ⟨x0,x1,x2,x3,f0,f1,f2,f3⟩:=ac D.blk;obtain ⟨A0,c0,gd,_⟩:=hN.form;subst gd;(have p7:(N:Int)≤(t.size:Int):=by omega);go_region_law (first
      | (refine lD (by rfl) (.tmp 60) (.tmp 66) (by rfl) (X+1) _ _ ga ⟨0,t.extract 0 N,i⟩ (by rfl) _ (by rfl) (by simp) (hN.below (Below.refl _ _).drew) (by simp;omega) (by omega) ?_;intro g c w8 J;have ge:=(aj.drew D.blk).below J.bel (Nat.lt_succ_self _);obtain ⟨z0,z1,z2,z3,y0,y1,y2,y3⟩:=ac ge))
     all_goals (go_wp2_with fail);go_ret;rw [HR.out];exact ⟨rfl,⟨⟨gb,_,_,(D.below (Below.refl _ _).drew).noteRow J (by rw [List.length_append];simp;omega)⟩,by omega,gq,O⟩,((gg.drew).trans (J.bel.mono (Nat.le_succ _))).setCell (Nat.le_refl _) _⟩
def nP (s:ByteArray) (i:Nat) (l:List bE):GQ:=
 match aR (aa s i) (s.data.toList.drop (i+1)) false 0 with
 | some k=>.go (i+k+2) (l++[⟨5,s.extract i (i+k+2),i⟩])
 | none=>.bad i
theorem fT (t:ByteArray) (j:Nat) (h:j<t.size):∃ c r,t.data.toList.drop j=c::r∧c.toNat=aa t j∧r=t.data.toList.drop (j+1):=by have h':j<t.data.toList.length:=h;refine ⟨t.data.toList[j],t.data.toList.drop (j+1),List.drop_eq_getElem_cons h',?_,rfl⟩;unfold aa;rw [List.getD_eq_getElem?_getD,List.getElem?_eq_getElem h'];rfl
theorem oz (en:Nat):∀ (l:List UInt8) (b:Bool) (k m:Nat),aR en l b k=some m→m<k+l.length
 | [],b,k,m,h=>by cases b <;> simp [aR] at h
 | c::r,true,k,m,h=>by
  rw [aR] at h;split at h
  ·cases h
  ·have:=oz en r false (k+1) m h;simp only [List.length_cons];omega
 | c::r,false,k,m,h=>by
  rw [aR] at h;simp only [List.length_cons];split at h
  ·have:=oz en r true (k+1) m h;omega
  ·split at h
   ·injection h with h;omega
   ·split at h
    ·cases h
    ·have:=oz en r false (k+1) m h;omega
theorem BR (X:Nat) (s:ByteArray) (i:Nat) (l:List bE) (w:World) (h:fd w X s i l) (hi:i<s.size) (hl:l.length+1≤65537) (en:Nat) (hk:en=34∨en=96) (gp:aa s i=en) :
  Calls Tryz.prog 104 #[.pointer (some ⟨X,0,none⟩)] w (fa X s w (nP s i l) (.tuple #[])):=by
 obtain ⟨lv,nv,ns,g6⟩:=h.out;have hb:=g6.blk;have hp:=h.le;have ho:=h.most;have gi:=hb.lt;have HH:=hid h;obtain ⟨x0,x1,x2,x3,-,-,-,-⟩:=ac hb;(have p0:(0:Int)≤(i:Int):=by omega);(have p2:(i:Int)<(s.size:Int):=by omega);(have p3:(i:Int)+1≤(s.size:Int):=by omega);have q1:IntKind.i64.wrap ((i:Int)+1)=(i:Int)+1:=IntWalk.i64_in _ (by omega);have gk:=fun W=>di s i hi W;rw [gp] at gk;have hR:∀ R,aR en (s.data.toList.drop (i+1)) false 0=R→nP s i l=match R with
   | some k=>.go (i+k+2) (l++[⟨5,s.extract i (i+k+2),i⟩])
   | none=>.bad i:=by rintro R rfl;unfold nP;rw [gp]
 have y:=hid hR;have g3:=oz en (s.data.toList.drop (i+1)) false 0;generalize hQ:aR en (s.data.toList.drop (i+1)) false 0=R at *;have HR:=hid (y.out R rfl);have g9:=hid (show ∀ m,R=some m→i+m+2≤s.size by intro m hm;have:=g3 m hm;rw [List.length_drop] at this;have hn:s.data.toList.length=s.size:=rfl;omega);have g4:=eb s (i+1);have g5:=d9 s (i+1);rw [←g5] at hQ;have hu:=hid g4;have g8:=hid hQ;clear g4 g5 hQ g3 y hR hb g6 h gp hi;rcases hk with rfl | rfl
 ·(go_enter Tryz.func104,Tryz.ntmps104);(go_wp2_with fail);have gb:=World.iter_heap w (s.extract (i+1) s.size) 0;have gs:Below w.heap.size w (w.iter (s.extract (i+1) s.size) 0):=(Below.refl _ w).alloc (Nat.le_refl _) _;generalize s.extract (i+1) s.size=t at *;clear x0 x1 x2 x3 gk;go_loopg [4,5,6,25,26] t.size (fun g u4 _ _ _ _ wr=>∃ (j:Nat) (sl:Bool),j≤t.size∧t.size-j≤g∧u4=.bool sl∧wr.heap[w.heap.size]? = some (.stringIter t j)∧Below w.heap.size w wr∧aR 34 (t.data.toList.drop j) sl j=R)
  case atStart=>exact ⟨0,false,Nat.zero_le _,by omega,rfl,gb,gs,by rw [List.drop_zero];exact g8.out⟩
  case round=>
   clear gb gs;obtain ⟨j,sl,hj,hg,rfl,hit,hB,hq⟩:=hrel;have z:=hid hit;have y:=hid hq;clear hit hq;by_cases M:j<t.size
   ·have I:=fun ty=>run_next_any_at (P:=Tryz.prog) wr w.heap.size t j ty z.out M;by_cases ga:aa t j<128
    ·obtain ⟨c,rr,gq,gr,gn⟩:=fT t j M;have hd:=d8 t j ga;rw [hd] at I;rw [gq] at y;have gg:=hid gn;have J:=hid gr;have j1:=iterAt_heap wr w.heap.size t j (j+1) z.out;have O:Below w.heap.size w (wr.iterAt w.heap.size t (j+1)):=bR hB (Nat.le_refl _);generalize wr.iterAt w.heap.size t (j+1)=W1 at I j1 O;have J1:=hid j1;clear hd gq gr gn j1;generalize aa t j=bb at *;cases sl with
     | true=>
      by_cases D:bb=10
      ·subst D;have N:=hid (show R=none by rw [←y.out,aR,if_pos J.out]);(go_wp2_with fail);refine (eS X i _).mono ?_;rintro e w2 ⟨rfl,rfl⟩;unfold ec;refine ⟨rfl,?_⟩;rw [HR.out,N.out];exact ⟨rfl,O.mono (Nat.le_of_lt gi)⟩
      ·(have gt:((bb:Int) != 10)=true:=by rw [bne_iff_ne];omega);have N:=hid (show aR 34 rr false (j+1)=R by rw [←y.out,aR,if_neg (by rw [J.out];exact D)]);clear D;(go_wp2_with fail);refine (ir X _ _).mono ?_;rintro e w2 ⟨rfl,rfl⟩;(go_wp2_with fail);go_roundg (t.size-(j+1))
       case measure=>omega
       case rel=>exact ⟨j+1,false,by omega,Nat.le_refl _,rfl,J1.out,O,by rw [←gg.out];exact N.out⟩
     | false=>
      by_cases gm:bb=34
      ·subst gm;have N:=hid (show R=some j by rw [←y.out,aR,if_neg (by rw [J.out];omega),if_pos J.out]);have gz:=g9.out j N.out;have gh:=HH.out.below O;obtain ⟨hf,ha,he,ge⟩:=gh.out;obtain ⟨x0,x1,x2,x3,f0,f1,f2,f3⟩:=ac ge.blk;have q2:IntKind.i64.wrap ((i:Int)+(j:Int))=(i:Int)+(j:Int):=IntWalk.i64_in _ (by omega);have q3:IntKind.i64.wrap ((i:Int)+(j:Int)+2)=(i:Int)+(j:Int)+2:=IntWalk.i64_in _ (by omega);have U:=gh.set (i+j+2) (by omega) gz;rw [show ((i+j+2:Nat):Int)=(i:Int)+(j:Int)+2 by omega] at U;have gu:=hid U;clear U ge gh;(go_wp2_with fail);refine (iz X s (i+j+2) l 5 i (by omega) hl _ gu.out).mono ?_;rintro e w4 ⟨rfl,gw,g0⟩;(go_wp2_with fail);refine bodyPost_ret (results_none rfl _ _ _) rfl ?_;rw [HR.out,N.out];exact ⟨rfl,gw,((O.mono (Nat.le_of_lt gi)).setCell (Nat.le_refl _) _).trans g0⟩
      ·by_cases gd:bb=92
       ·subst gd;have N:=hid (show aR 34 rr true (j+1)=R by rw [←y.out,aR,if_pos ⟨J.out,rfl⟩]);(go_wp2_with fail);go_roundg (t.size-(j+1))
        case measure=>omega
        case rel=>exact ⟨j+1,true,by omega,Nat.le_refl _,rfl,J1.out,O,by rw [←gg.out];exact N.out⟩
       ·by_cases D:bb=10
        ·subst D;have N:=hid (show R=none by rw [←y.out,aR,if_neg (by rw [J.out];omega),if_neg (by rw [J.out];omega),if_pos ⟨J.out,by omega⟩]);(go_wp2_with fail);refine (eS X i _).mono ?_;rintro e w2 ⟨rfl,rfl⟩;unfold ec;refine ⟨rfl,?_⟩;rw [HR.out,N.out];exact ⟨rfl,O.mono (Nat.le_of_lt gi)⟩
        ·have N:=hid (show aR 34 rr false (j+1)=R by rw [←y.out,aR,if_neg (by rw [J.out];omega),if_neg (by rw [J.out];omega),if_neg (by rw [J.out];omega)]);(have g1:((bb:Int)==92)=false:=by rw [beq_eq_false_iff_ne];omega);(have ht:((bb:Int)==34)=false:=by rw [beq_eq_false_iff_ne];omega);(have gt:((bb:Int)==10)=false:=by rw [beq_eq_false_iff_ne];omega);clear gm gd D;(go_wp2_with fail);go_roundg (t.size-(j+1))
         case measure=>omega
         case rel=>exact ⟨j+1,false,by omega,Nat.le_refl _,rfl,J1.out,O,by rw [←gg.out];exact N.out⟩
    ·have hh:=d5 t j M (by omega);have gl:=hid (fun b=>nL 34 (by omega) (Utf8.decode t j).2 (t.data.toList.drop j) b j (by rw [List.length_drop];have:t.data.toList.length=t.size:=rfl;omega) (fun m hm=>by have:=hh.2.2.2 m hm;unfold aa at this;rw [List.getD_eq_getElem?_getD,List.getElem?_drop,←List.getD_eq_getElem?_getD];exact this));have gy:=hh.1;have gx:=hh.2.1;have gj:=hh.2.2.1;clear hh ga;generalize Utf8.decode t j=q at *;obtain ⟨r,k⟩:=q;simp only at gy gx gj I gl;have gv:=hid (show aR 34 (t.data.toList.drop (j+k)) false (j+k)=R by have:=gl.out sl;rw [y.out,List.drop_drop] at this;rw [this,show (k==0)=false by rw [beq_eq_false_iff_ne];omega,Bool.and_false]);clear gl;have j1:=iterAt_heap wr w.heap.size t j (j+k) z.out;have O:Below w.heap.size w (wr.iterAt w.heap.size t (j+k)):=bR hB (Nat.le_refl _);generalize wr.iterAt w.heap.size t (j+k)=W1 at I j1 O;have J1:=hid j1;clear j1;(have g7:((r:Int) != 10)=true:=by rw [bne_iff_ne];omega);(have gt:((r:Int)==10)=false:=by rw [beq_eq_false_iff_ne];omega);(have g1:((r:Int)==92)=false:=by rw [beq_eq_false_iff_ne];omega);(have een:((r:Int)==34)=false:=by rw [beq_eq_false_iff_ne];omega);cases sl with
     | true=>
      (go_wp2_with fail);refine (ir X _ _).mono ?_;rintro e w2 ⟨rfl,rfl⟩;(go_wp2_with fail);go_roundg (t.size-(j+k))
      case measure=>omega
      case rel=>exact ⟨j+k,false,gj,Nat.le_refl _,rfl,J1.out,O,gv.out⟩
     | false=>
      (go_wp2_with fail);go_roundg (t.size-(j+k))
      case measure=>omega
      case rel=>exact ⟨j+k,false,gj,Nat.le_refl _,rfl,J1.out,O,gv.out⟩
   ·have g2:=fun ty=>run_next_end_at (P:=Tryz.prog) wr w.heap.size t j ty z.out M;have N:=hid (show R=none by rw [←y.out,List.drop_of_length_le (by have:t.data.toList.length=t.size:=rfl;omega)];cases sl <;> rfl);(go_wp2_with fail);refine (eS X i _).mono ?_;rintro e w2 ⟨rfl,rfl⟩;unfold ec;refine ⟨rfl,?_⟩;rw [HR.out,N.out];exact ⟨rfl,hB.mono (Nat.le_of_lt gi)⟩
 ·(go_enter Tryz.func104,Tryz.ntmps104);(go_wp2_with fail);have gb:=World.iter_heap w (s.extract (i+1) s.size) 0;have gs:Below w.heap.size w (w.iter (s.extract (i+1) s.size) 0):=(Below.refl _ w).alloc (Nat.le_refl _) _;generalize s.extract (i+1) s.size=t at *;clear x0 x1 x2 x3 gk;go_loopg [4,5,6,25,26] t.size (fun g u4 _ _ _ _ wr=>∃ (j:Nat) (sl:Bool),j≤t.size∧t.size-j≤g∧u4=.bool sl∧wr.heap[w.heap.size]? = some (.stringIter t j)∧Below w.heap.size w wr∧aR 96 (t.data.toList.drop j) sl j=R)
  case atStart=>exact ⟨0,false,Nat.zero_le _,by omega,rfl,gb,gs,by rw [List.drop_zero];exact g8.out⟩
  case round=>
   clear gb gs;obtain ⟨j,sl,hj,hg,rfl,hit,hB,hq⟩:=hrel;have z:=hid hit;have y:=hid hq;clear hit hq;by_cases M:j<t.size
   ·have I:=fun ty=>run_next_any_at (P:=Tryz.prog) wr w.heap.size t j ty z.out M;by_cases ga:aa t j<128
    ·obtain ⟨c,rr,gq,gr,gn⟩:=fT t j M;have hd:=d8 t j ga;rw [hd] at I;rw [gq] at y;have gg:=hid gn;have J:=hid gr;have j1:=iterAt_heap wr w.heap.size t j (j+1) z.out;have O:Below w.heap.size w (wr.iterAt w.heap.size t (j+1)):=bR hB (Nat.le_refl _);generalize wr.iterAt w.heap.size t (j+1)=W1 at I j1 O;have J1:=hid j1;clear hd gq gr gn j1;generalize aa t j=bb at *;cases sl with
     | true=>
      by_cases D:bb=10
      ·subst D;have N:=hid (show R=none by rw [←y.out,aR,if_pos J.out]);(go_wp2_with fail);refine (eS X i _).mono ?_;rintro e w2 ⟨rfl,rfl⟩;unfold ec;refine ⟨rfl,?_⟩;rw [HR.out,N.out];exact ⟨rfl,O.mono (Nat.le_of_lt gi)⟩
      ·(have gt:((bb:Int) != 10)=true:=by rw [bne_iff_ne];omega);have N:=hid (show aR 96 rr false (j+1)=R by rw [←y.out,aR,if_neg (by rw [J.out];exact D)]);clear D;(go_wp2_with fail);refine (ir X _ _).mono ?_;rintro e w2 ⟨rfl,rfl⟩;(go_wp2_with fail);go_roundg (t.size-(j+1))
       case measure=>omega
       case rel=>exact ⟨j+1,false,by omega,Nat.le_refl _,rfl,J1.out,O,by rw [←gg.out];exact N.out⟩
     | false=>
      by_cases gm:bb=96
      ·subst gm;have N:=hid (show R=some j by rw [←y.out,aR,if_neg (by rw [J.out];omega),if_pos J.out]);have gz:=g9.out j N.out;have gh:=HH.out.below O;obtain ⟨hf,ha,he,ge⟩:=gh.out;obtain ⟨x0,x1,x2,x3,f0,f1,f2,f3⟩:=ac ge.blk;have q2:IntKind.i64.wrap ((i:Int)+(j:Int))=(i:Int)+(j:Int):=IntWalk.i64_in _ (by omega);have q3:IntKind.i64.wrap ((i:Int)+(j:Int)+2)=(i:Int)+(j:Int)+2:=IntWalk.i64_in _ (by omega);have U:=gh.set (i+j+2) (by omega) gz;rw [show ((i+j+2:Nat):Int)=(i:Int)+(j:Int)+2 by omega] at U;have gu:=hid U;clear U ge gh;(go_wp2_with fail);refine (iz X s (i+j+2) l 5 i (by omega) hl _ gu.out).mono ?_;rintro e w4 ⟨rfl,gw,g0⟩;(go_wp2_with fail);refine bodyPost_ret (results_none rfl _ _ _) rfl ?_;rw [HR.out,N.out];exact ⟨rfl,gw,((O.mono (Nat.le_of_lt gi)).setCell (Nat.le_refl _) _).trans g0⟩
      ·by_cases D:bb=10
       ·subst D;have N:=hid (show aR 96 rr false (j+1)=R by rw [←y.out,aR,if_neg (by omega),if_neg (by rw [J.out];omega),if_neg (by omega)]);(go_wp2_with fail);refine (ir X _ _).mono ?_;rintro e w2 ⟨rfl,rfl⟩;(go_wp2_with fail);go_roundg (t.size-(j+1))
        case measure=>omega
        case rel=>exact ⟨j+1,false,by omega,Nat.le_refl _,rfl,J1.out,O,by rw [←gg.out];exact N.out⟩
       ·by_cases gd:bb=92
        ·subst gd;have N:=hid (show aR 96 rr false (j+1)=R by rw [←y.out,aR,if_neg (by omega),if_neg (by rw [J.out];omega),if_neg (by omega)]);clear gm D;(go_wp2_with fail);go_roundg (t.size-(j+1))
         case measure=>omega
         case rel=>exact ⟨j+1,false,by omega,Nat.le_refl _,rfl,J1.out,O,by rw [←gg.out];exact N.out⟩
        ·have N:=hid (show aR 96 rr false (j+1)=R by rw [←y.out,aR,if_neg (by omega),if_neg (by rw [J.out];omega),if_neg (by omega)]);(have g1:((bb:Int)==92)=false:=by rw [beq_eq_false_iff_ne];omega);(have hr:((bb:Int)==96)=false:=by rw [beq_eq_false_iff_ne];omega);(have gt:((bb:Int)==10)=false:=by rw [beq_eq_false_iff_ne];omega);clear gm gd D;(go_wp2_with fail);go_roundg (t.size-(j+1))
         case measure=>omega
         case rel=>exact ⟨j+1,false,by omega,Nat.le_refl _,rfl,J1.out,O,by rw [←gg.out];exact N.out⟩
    ·have hh:=d5 t j M (by omega);have gl:=hid (fun b=>nL 96 (by omega) (Utf8.decode t j).2 (t.data.toList.drop j) b j (by rw [List.length_drop];have:t.data.toList.length=t.size:=rfl;omega) (fun m hm=>by have:=hh.2.2.2 m hm;unfold aa at this;rw [List.getD_eq_getElem?_getD,List.getElem?_drop,←List.getD_eq_getElem?_getD];exact this));have gy:=hh.1;have gx:=hh.2.1;have gj:=hh.2.2.1;clear hh ga;generalize Utf8.decode t j=q at *;obtain ⟨r,k⟩:=q;simp only at gy gx gj I gl;have gv:=hid (show aR 96 (t.data.toList.drop (j+k)) false (j+k)=R by have:=gl.out sl;rw [y.out,List.drop_drop] at this;rw [this,show (k==0)=false by rw [beq_eq_false_iff_ne];omega,Bool.and_false]);clear gl;have j1:=iterAt_heap wr w.heap.size t j (j+k) z.out;have O:Below w.heap.size w (wr.iterAt w.heap.size t (j+k)):=bR hB (Nat.le_refl _);generalize wr.iterAt w.heap.size t (j+k)=W1 at I j1 O;have J1:=hid j1;clear j1;(have g7:((r:Int) != 10)=true:=by rw [bne_iff_ne];omega);(have gt:((r:Int)==10)=false:=by rw [beq_eq_false_iff_ne];omega);(have g1:((r:Int)==92)=false:=by rw [beq_eq_false_iff_ne];omega);(have een:((r:Int)==96)=false:=by rw [beq_eq_false_iff_ne];omega);cases sl with
     | true=>
      (go_wp2_with fail);refine (ir X _ _).mono ?_;rintro e w2 ⟨rfl,rfl⟩;(go_wp2_with fail);go_roundg (t.size-(j+k))
      case measure=>omega
      case rel=>exact ⟨j+k,false,gj,Nat.le_refl _,rfl,J1.out,O,gv.out⟩
     | false=>
      (go_wp2_with fail);go_roundg (t.size-(j+k))
      case measure=>omega
      case rel=>exact ⟨j+k,false,gj,Nat.le_refl _,rfl,J1.out,O,gv.out⟩
   ·have g2:=fun ty=>run_next_end_at (P:=Tryz.prog) wr w.heap.size t j ty z.out M;have N:=hid (show R=none by rw [←y.out,List.drop_of_length_le (by have:t.data.toList.length=t.size:=rfl;omega)];cases sl <;> rfl);(go_wp2_with fail);refine (eS X i _).mono ?_;rintro e w2 ⟨rfl,rfl⟩;unfold ec;refine ⟨rfl,?_⟩;rw [HR.out,N.out];exact ⟨rfl,hB.mono (Nat.le_of_lt gi)⟩
end
end Go.Proofs.YtiebcdeafofgdaaGreatDoor
