/-
  Parts of the proof: Snote Squot. By an AI agent.
-/
import Derived.Test.YtiebcdeafofgdaaGreatDoorL09
set_option maxRecDepth 100000
set_option maxHeartbeats 8000000
namespace Go.Proofs.YtiebcdeafofgdaaGreatDoor
section
open Go.RowKit Go.Lib Go.Proofs
attribute [local go_sem ↓] Go.wp_at_zero Go.wp_at_succ
theorem ng:∀ (l:List UInt8) (c:UInt8),Lib.indexByte l c<l.length
 | [],c=>by unfold Lib.indexByte;decide
 | b::l,c=>by
  have ih:=ng l c;unfold Lib.indexByte;simp only [List.length_cons];split
  ·omega
  ·split <;> omega
theorem pn (b:UInt8) (l:List UInt8) (c:UInt8) (h:b≠c):Lib.indexByte (b::l) c = -1∨1≤Lib.indexByte (b::l) c:=by
 have I:=Lib.indexByte_ge l c;unfold Lib.indexByte;rw [if_neg (by simpa using h)];split
 ·exact .inl rfl
 ·rename_i D;right;(have:Lib.indexByte l c ≠ -1:=by simpa using D);omega
def it (l:List UInt8):Nat:=if Lib.indexByte l 10<0 then l.length else (Lib.indexByte l 10).toNat
theorem po (l:List UInt8) (h:Lib.hasPrefix l [47,47]=true):1≤it l∧it l≤l.length:=by
 match l,h with
 | [],h=>simp [Lib.hasPrefix] at h
 | b::r,h=>
  (have hb:b≠10:=by rintro rfl;simp [Lib.hasPrefix] at h);have I:=pn b r 10 hb;have D:=ng (b::r) 10;unfold it;split
  ·simp
  ·omega
def eI (s:ByteArray) (i:Nat) (l:List cK):Option Gg:=
 if Lib.hasPrefix (s.data.toList.drop i) [47,47]=true then some (.go (i+it (s.data.toList.drop i)) l)
 else if Lib.hasPrefix (s.data.toList.drop i) [47,42]=true then
  if Lib.index ((s.data.toList.drop i).drop 2) [42,47]<0 then some (.bad i)
  else some (.go (i+((Lib.index ((s.data.toList.drop i).drop 2) [42,47]).toNat+4))
   (if Lib.contains ((s.data.toList.drop i).take ((Lib.index ((s.data.toList.drop i).drop 2) [42,47]).toNat+4)) [10]=true then dc l i else l))
 else none
def B0 (X:Nat) (s:ByteArray) (w:World) (r:Option Gg) (e:Ending) (w':World):Prop:=
 match r with
 | none=>e=.returned (.bool false)∧Below w.heap.size w w'
 | some r=>d9 X s w r (.bool true) e w'
theorem lQ (X:Nat) (s:ByteArray) (i:Nat) (l:List cK) (w:World) (h:eo w X s i l) (hT:bR w) (hl:l.length+1≤65537) (g3:∀ t∈l,t.text.size≤65536) :
  Calls Tryz.prog 96 #[.pointer (some ⟨X,0,none⟩)] w (B0 X s w (eI s i l)):=by
 obtain ⟨lv,nv,ns,g6⟩:=h.out;have hb:=g6.blk;have hn:=h.le;have gp:=h.most;have gq:=hb.lt;obtain ⟨x0,x1,x2,x3,-,-,-,-⟩:=ac hb;(have p0:(0:Int)≤(i:Int):=by omega);(have p2:(i:Int)≤(s.size:Int):=by omega);have H1:=hid (fun w=>bS (s.extract i s.size) ⟨#[47,47]⟩ w);have H2:=hid (fun w=>bS (s.extract i s.size) ⟨#[47,42]⟩ w);have H3:=hid (fun w=>ro (s.extract i s.size) 10 w);have gw:=dt s i;have gn:=dr s i;have H4:=hid (fun w' (hT:bR w')=>Aq ((s.extract i s.size).extract 2 (s.extract i s.size).size) ⟨#[42,47]⟩ w' hT (by rw [dt];omega));have H5:=hid (fun n w' (hT:bR w')=>cO ((s.extract i s.size).extract 0 n) ⟨#[10]⟩ w' hT (by rw [ByteArray.size_extract];omega));have g7:eI s i l=if Lib.hasPrefix (s.extract i s.size).data.toList [47,47]=true then some (.go (i+it (s.extract i s.size).data.toList) l)
  else if Lib.hasPrefix (s.extract i s.size).data.toList [47,42]=true then
  if Lib.index ((s.extract i s.size).data.toList.drop 2) [42,47]<0 then some (.bad i)
  else some (.go (i+((Lib.index ((s.extract i s.size).data.toList.drop 2) [42,47]).toNat+4))
   (if Lib.contains ((s.extract i s.size).data.toList.take ((Lib.index ((s.extract i s.size).data.toList.drop 2) [42,47]).toNat+4)) [10]=true then dc l i else l))
  else none:=by rw [gn];rfl
 have gj:=hid g7;have gu:=hid (fun w' (h:eo w' X s i l) (hT:bR w')=>pl X s i l (i:Int) hl w' h hT g3);have g1:=hid gw;have HT:=hid hT;have HH:=hid h;clear g7 gn g3 gw hT h g6 hb;(go_enter Tryz.func96,Tryz.ntmps96);(go_wp2_with fail);go_quiet (fail);clear x0 x2 x3;have y1:(w.drewN nq).cell? ⟨X,1,none⟩=some (.int .i64 (i:Int)):=x1;clear x1;have hB:=aN (Below.refl w.heap.size w) nq;generalize w.drewN nq=w1 at *;generalize s.extract i s.size=t at *;(have hj:t.size≤s.size:=by have:=g1.out;omega);rw [dr] at H4;have g2:t.data.toList.length=t.size:=rfl;have g0:=hid g2;clear g2;cases q:Lib.hasPrefix t.data.toList [47,47] with
 | true=>
  rw [q] at H1;have gy:=po t.data.toList q;have HR:=hid (show eI s i l=some (.go (i+it t.data.toList) l) by rw [gj.out,if_pos q]);have g8:=hid (show it t.data.toList=if Lib.indexByte t.data.toList 10<0 then t.size else (Lib.indexByte t.data.toList 10).toNat from rfl);clear gj H2 H4 H5 gu q;generalize it t.data.toList=N at *;(have he:N≤t.size:=by rw [←g0.out];exact gy.2);have hf:=gy.1;have gk:t.size=s.size-i:=g1.out;have HI:=hid (show i+N≤s.size by omega);have hg:=hid gk;clear gy gk;have hi:=hid (fun w=>show Calls Tryz.prog 115 #[.string t,.int .u8 10] w (fun e w'=>e=.returned (.int .i64 (Lib.indexByte t.data.toList 10))∧w=w') from H3.out w);clear H3;generalize Lib.indexByte t.data.toList 10=ib at *;(go_wp2_with fail);refine (H1.out _).mono ?_;rintro e w2 ⟨rfl,rfl⟩;(go_wp2_with fail);refine (hi.out _).mono ?_;rintro e w2 ⟨rfl,rfl⟩;have K:=HH.out.below hB;have j:Below X w w1:=hB.mono (Nat.le_of_lt gq);have ha:i+N≤s.size:=HI.out;by_cases gh:ib<0
  ·have hh:=hid (show N=t.size by have:=g8.out;rw [if_pos gh] at this;exact this);(have g4:decide (ib<0)=true:=by rw [decide_eq_true_iff];exact gh);clear gh;(go_upto_region 14 with fail);rw [show (t.size:Int)=(N:Int) by rw [hh.out]];obtain ⟨ga,gx,u,I⟩:=K.out;obtain ⟨x0,x1,x2,x3,f0,f1,f2,f3⟩:=ac I.blk;have qn:IntKind.i64.wrap ((i:Int)+(N:Int))=(i:Int)+(N:Int):=IntWalk.i64_in _ (by omega);have D:=I.set (i+N) (by omega);rw [show ((i+N:Nat):Int)=(i:Int)+(N:Int) by omega] at D;have O:=hid D;have ge:Below X w (w1.setCell ⟨X,1,none⟩ (.int .i64 ((i:Int)+(N:Int)))):=j.setCell (Nat.le_refl _) _;have gm:=I.nfew;have M:=K.few;clear D I K j;(go_upto_region 15 with fail);generalize w1.setCell ⟨X,1,none⟩ (.int .i64 ((i:Int)+(N:Int)))=w7 at *;clear x0 x1 x2 x3 f0 f1 f2 f3;have D:=O.out;have hN:=D.notes;have gz:=D.blk.lt;obtain ⟨x0,x1,x2,x3,f0,f1,f2,f3⟩:=ac D.blk;obtain ⟨A0,c0,gb,_⟩:=hN.form;subst gb;(have p7:(N:Int)≤(t.size:Int):=by omega);go_region_law (first
    | (refine fZ (by rfl) (.tmp 60) (.tmp 66) (by rfl) (X+1) _ _ u ⟨0,t.extract 0 N,i⟩ (by rfl) _ (by rfl) (by simp) (hN.below (Below.refl _ _).drew) (by simp;omega) (by omega) ?_;intro g c w8 J;have gd:=(ar.drew D.blk).below J.bel (Nat.lt_succ_self _);obtain ⟨z0,z1,z2,z3,y0,y1,y2,y3⟩:=ac gd))
   all_goals (go_wp2_with fail);go_ret;rw [HR.out];exact ⟨rfl,⟨⟨ga,_,_,(D.below (Below.refl _ _).drew).noteRow J (by rw [List.length_append];simp;omega)⟩,by omega,gp,M⟩,((ge.drew).trans (J.bel.mono (Nat.le_succ _))).setCell (Nat.le_refl _) _⟩
  ·(obtain rfl:ib=(N:Int):=by have:=g8.out;rw [if_neg gh] at this;omega);(have g4:decide ((N:Int)<0)=false:=by rw [decide_eq_false_iff_not];exact gh);clear gh;(go_upto_region 14 with fail);obtain ⟨ga,gx,u,I⟩:=K.out;obtain ⟨x0,x1,x2,x3,f0,f1,f2,f3⟩:=ac I.blk;have qn:IntKind.i64.wrap ((i:Int)+(N:Int))=(i:Int)+(N:Int):=IntWalk.i64_in _ (by omega);have D:=I.set (i+N) (by omega);rw [show ((i+N:Nat):Int)=(i:Int)+(N:Int) by omega] at D;have O:=hid D;have ge:Below X w (w1.setCell ⟨X,1,none⟩ (.int .i64 ((i:Int)+(N:Int)))):=j.setCell (Nat.le_refl _) _;have gm:=I.nfew;have M:=K.few;clear D I K j;(go_upto_region 15 with fail);generalize w1.setCell ⟨X,1,none⟩ (.int .i64 ((i:Int)+(N:Int)))=w7 at *;clear x0 x1 x2 x3 f0 f1 f2 f3;have D:=O.out;have hN:=D.notes;have gz:=D.blk.lt;obtain ⟨x0,x1,x2,x3,f0,f1,f2,f3⟩:=ac D.blk;obtain ⟨A0,c0,gb,_⟩:=hN.form;subst gb;(have p7:(N:Int)≤(t.size:Int):=by omega);go_region_law (first
    | (refine fZ (by rfl) (.tmp 60) (.tmp 66) (by rfl) (X+1) _ _ u ⟨0,t.extract 0 N,i⟩ (by rfl) _ (by rfl) (by simp) (hN.below (Below.refl _ _).drew) (by simp;omega) (by omega) ?_;intro g c w8 J;have gd:=(ar.drew D.blk).below J.bel (Nat.lt_succ_self _);obtain ⟨z0,z1,z2,z3,y0,y1,y2,y3⟩:=ac gd))
   all_goals (go_wp2_with fail);go_ret;rw [HR.out];exact ⟨rfl,⟨⟨ga,_,_,(D.below (Below.refl _ _).drew).noteRow J (by rw [List.length_append];simp;omega)⟩,by omega,gp,M⟩,((ge.drew).trans (J.bel.mono (Nat.le_succ _))).setCell (Nat.le_refl _) _⟩
 | false=>
  rw [q] at H1;clear H3;cases U:Lib.hasPrefix t.data.toList [47,42] with
  | false=>have HR:=hid (show eI s i l=none by rw [gj.out,if_neg (by rw [q];decide),if_neg (by rw [U];decide)]);rw [U] at H2;clear gj H4 H5 gu q U;(go_wp2_with fail);refine (H1.out _).mono ?_;rintro e w2 ⟨rfl,rfl⟩;(go_wp2_with fail);refine (H2.out _).mono ?_;rintro e w2 ⟨rfl,rfl⟩;(go_wp2_with fail);go_ret;rw [HR.out];exact ⟨rfl,hB⟩
  | true=>
   have hm:2≤t.size:=by
    rw [←g0.out];cases hq:t.data.toList with
    | nil=>rw [hq] at U;simp [Lib.hasPrefix] at U
    | cons a r=>cases r with
      | nil=>rw [hq] at U;simp [Lib.hasPrefix] at U
      | cons b r=>simp
   (have hk:(2:Int)≤(t.size:Int):=by omega);rw [U] at H2;have gl:=Lib.index_room (t.data.toList.drop 2) [42,47];have g5:=Lib.index_ge (t.data.toList.drop 2) [42,47];have gg:=hid gl;have g9:=hid g5;have gt:=hid (show eI s i l=if Lib.index (t.data.toList.drop 2) [42,47]<0 then some (.bad i) else some (.go (i+((Lib.index (t.data.toList.drop 2) [42,47]).toNat+4))
    (if Lib.contains (t.data.toList.take ((Lib.index (t.data.toList.drop 2) [42,47]).toNat+4)) [10]=true then dc l i else l)) by rw [gj.out,if_neg (by rw [q];decide),if_pos U])
   clear gl g5 gj q U;generalize Lib.index (t.data.toList.drop 2) [42,47]=ix at *;by_cases gr:ix<0
   ·have HR:=hid (show eI s i l=some (.bad i) by rw [gt.out,if_pos gr]);(have gv:decide (0≤ix)=false:=by rw [decide_eq_false_iff_not];omega);clear gt gg g9 gr H5 gu;(go_wp2_with fail);refine (H1.out _).mono ?_;rintro e w2 ⟨rfl,rfl⟩;(go_wp2_with fail);refine (H2.out _).mono ?_;rintro e w2 ⟨rfl,rfl⟩;(go_wp2_with fail);refine (H4.out _ (HT.out.below hB)).mono ?_;rintro e w2 ⟨rfl,rfl⟩;(go_wp2_with fail);refine (dV X i _).mono ?_;rintro e w2 ⟨rfl,rfl⟩;unfold dv;refine ⟨rfl,?_⟩;rw [HR.out];exact ⟨rfl,hB.mono (Nat.le_of_lt gq)⟩
   ·obtain ⟨k,rfl⟩:∃ k:Nat,ix=(k:Int):=⟨ix.toNat,by omega⟩
    (have ho:k+4≤t.size:=by have:=gg.out (by omega);rw [List.length_drop,g0.out] at this;simp at this;omega);(have gv:decide ((0:Int)≤(k:Int))=true:=by rw [decide_eq_true_iff];omega);have gs:=hid (show eI s i l=some (.go (i+(k+4)) (if Lib.contains (t.data.toList.take (k+4)) [10]=true then dc l i else l)) by rw [gt.out,if_neg gr];rfl);have q4:IntKind.i64.wrap ((k:Int)+4)=(k:Int)+4:=IntWalk.i64_in _ (by omega);have gk:t.size=s.size-i:=g1.out;have HI:=hid (show i+(k+4)≤s.size by omega);have H6:=hid (fun w' (hT:bR w')=>H5.out (k+4) w' hT);(have gn:(t.extract 0 (k+4)).data.toList=t.data.toList.take (k+4):=by rw [Lib.extract_data];simp);rw [gn] at H6;have hg:=hid gk;clear gt gg g9 gr H5 gk gn;generalize Lib.contains (t.data.toList.take (k+4)) [10]=cn at *;(go_wp2_with fail);refine (H1.out _).mono ?_;rintro e w2 ⟨rfl,rfl⟩;(go_wp2_with fail);refine (H2.out _).mono ?_;rintro e w2 ⟨rfl,rfl⟩;(go_wp2_with fail);refine (H4.out _ (HT.out.below hB)).mono ?_;rintro e w2 ⟨rfl,rfl⟩;(go_wp2_with fail);refine (fg X i _).mono ?_;rintro e w2 ⟨rfl,rfl⟩;(go_upto_region 12 with fail);rw [show (k:Int)+4=((k+4:Nat):Int) by omega];(have hf:1≤k+4:=by omega);clear gv q4;generalize k+4=N at *;(have he:(N:Int)≤(t.size:Int):=by omega);(have hp:(0:Int)≤(N:Int):=by omega);have ha:i+N≤s.size:=HI.out;cases gi:cn with
    | false=>
     have HR:=hid (show eI s i l=some (.go (i+N) l) by rw [gs.out,gi];rfl);rw [gi] at H6;clear gs gi;(go_wp2_with fail);refine (H6.out _ (HT.out.below hB)).mono ?_;rintro e w2 ⟨rfl,rfl⟩;have K:=HH.out.below hB;have j:Below X w w1:=hB.mono (Nat.le_of_lt gq);(go_upto_region 14 with fail);obtain ⟨ga,gx,u,I⟩:=K.out;obtain ⟨x0,x1,x2,x3,f0,f1,f2,f3⟩:=ac I.blk;have qn:IntKind.i64.wrap ((i:Int)+(N:Int))=(i:Int)+(N:Int):=IntWalk.i64_in _ (by omega);have D:=I.set (i+N) (by omega);rw [show ((i+N:Nat):Int)=(i:Int)+(N:Int) by omega] at D;have O:=hid D;have ge:Below X w (w1.setCell ⟨X,1,none⟩ (.int .i64 ((i:Int)+(N:Int)))):=j.setCell (Nat.le_refl _) _;have gm:=I.nfew;have M:=K.few;clear D I K j;(go_upto_region 15 with fail);generalize w1.setCell ⟨X,1,none⟩ (.int .i64 ((i:Int)+(N:Int)))=w7 at *;clear x0 x1 x2 x3 f0 f1 f2 f3;have D:=O.out;have hN:=D.notes;have gz:=D.blk.lt;obtain ⟨x0,x1,x2,x3,f0,f1,f2,f3⟩:=ac D.blk;obtain ⟨A0,c0,gb,_⟩:=hN.form;subst gb;(have p7:(N:Int)≤(t.size:Int):=by omega);go_region_law (first
      | (refine fZ (by rfl) (.tmp 60) (.tmp 66) (by rfl) (X+1) _ _ u ⟨0,t.extract 0 N,i⟩ (by rfl) _ (by rfl) (by simp) (hN.below (Below.refl _ _).drew) (by simp;omega) (by omega) ?_;intro g c w8 J;have gd:=(ar.drew D.blk).below J.bel (Nat.lt_succ_self _);obtain ⟨z0,z1,z2,z3,y0,y1,y2,y3⟩:=ac gd))
     all_goals (go_wp2_with fail);go_ret;rw [HR.out];exact ⟨rfl,⟨⟨ga,_,_,(D.below (Below.refl _ _).drew).noteRow J (by rw [List.length_append];simp;omega)⟩,by omega,gp,M⟩,((ge.drew).trans (J.bel.mono (Nat.le_succ _))).setCell (Nat.le_refl _) _⟩
    | true=>
     have HR:=hid (show eI s i l=some (.go (i+N) (dc l i)) by rw [gs.out,gi];rfl);rw [gi] at H6;clear gs gi;(go_wp2_with fail);refine (H6.out _ (HT.out.below hB)).mono ?_;rintro e w2 ⟨rfl,rfl⟩;(go_wp2_with fail);refine (gu.out _ (HH.out.below hB) (HT.out.below hB)).mono ?_;rintro e w3 ⟨rfl,K,hc⟩;have j:Below X w w3:=(hB.mono (Nat.le_of_lt gq)).trans hc;(go_upto_region 14 with fail);obtain ⟨ga,gx,u,I⟩:=K.out;obtain ⟨x0,x1,x2,x3,f0,f1,f2,f3⟩:=ac I.blk;have qn:IntKind.i64.wrap ((i:Int)+(N:Int))=(i:Int)+(N:Int):=IntWalk.i64_in _ (by omega);have D:=I.set (i+N) (by omega);rw [show ((i+N:Nat):Int)=(i:Int)+(N:Int) by omega] at D;have O:=hid D;have ge:Below X w (w3.setCell ⟨X,1,none⟩ (.int .i64 ((i:Int)+(N:Int)))):=j.setCell (Nat.le_refl _) _;have gm:=I.nfew;have M:=K.few;clear D I K j;(go_upto_region 15 with fail);generalize w3.setCell ⟨X,1,none⟩ (.int .i64 ((i:Int)+(N:Int)))=w7 at *;clear x0 x1 x2 x3 f0 f1 f2 f3;have D:=O.out;have hN:=D.notes;have gz:=D.blk.lt;obtain ⟨x0,x1,x2,x3,f0,f1,f2,f3⟩:=ac D.blk;obtain ⟨A0,c0,gb,_⟩:=hN.form;subst gb;(have p7:(N:Int)≤(t.size:Int):=by omega);go_region_law (first
      | (refine fZ (by rfl) (.tmp 60) (.tmp 66) (by rfl) (X+1) _ _ u ⟨0,t.extract 0 N,i⟩ (by rfl) _ (by rfl) (by simp) (hN.below (Below.refl _ _).drew) (by simp;omega) (by omega) ?_;intro g c w8 J;have gd:=(ar.drew D.blk).below J.bel (Nat.lt_succ_self _);obtain ⟨z0,z1,z2,z3,y0,y1,y2,y3⟩:=ac gd))
     all_goals (go_wp2_with fail);go_ret;rw [HR.out];exact ⟨rfl,⟨⟨ga,_,_,(D.below (Below.refl _ _).drew).noteRow J (by rw [List.length_append];simp;omega)⟩,by omega,gp,M⟩,((ge.drew).trans (J.bel.mono (Nat.le_succ _))).setCell (Nat.le_refl _) _⟩
def oB (s:ByteArray) (i:Nat) (l:List cK):Gg:=
 match aO (ab s i) (s.data.toList.drop (i+1)) false 0 with
 | some k=>.go (i+k+2) (l++[⟨5,s.extract i (i+k+2),i⟩])
 | none=>.bad i
theorem nh (t:ByteArray) (j:Nat) (h:j<t.size):∃ c r,t.data.toList.drop j=c::r∧c.toNat=ab t j∧r=t.data.toList.drop (j+1):=by have h':j<t.data.toList.length:=h;refine ⟨t.data.toList[j],t.data.toList.drop (j+1),List.drop_eq_getElem_cons h',?_,rfl⟩;unfold ab;rw [List.getD_eq_getElem?_getD,List.getElem?_eq_getElem h'];rfl
theorem ni (en:Nat):∀ (l:List UInt8) (b:Bool) (k m:Nat),aO en l b k=some m→m<k+l.length
 | [],b,k,m,h=>by cases b <;> simp [aO] at h
 | c::r,true,k,m,h=>by
  rw [aO] at h;split at h
  ·cases h
  ·have:=ni en r false (k+1) m h;simp only [List.length_cons];omega
 | c::r,false,k,m,h=>by
  rw [aO] at h;simp only [List.length_cons];split at h
  ·have:=ni en r true (k+1) m h;omega
  ·split at h
   ·injection h with h;omega
   ·split at h
    ·cases h
    ·have:=ni en r false (k+1) m h;omega
theorem uS (X:Nat) (s:ByteArray) (i:Nat) (l:List cK) (w:World) (h:eo w X s i l) (hi:i<s.size) (hl:l.length+1≤65537) (en:Nat) (hf:en=34∨en=96) (gp:ab s i=en) :
  Calls Tryz.prog 104 #[.pointer (some ⟨X,0,none⟩)] w (d9 X s w (oB s i l) (.tuple #[])):=by
 obtain ⟨lv,nv,ns,g6⟩:=h.out;have hb:=g6.blk;have ho:=h.le;have hn:=h.most;have gi:=hb.lt;have HH:=hid h;obtain ⟨x0,x1,x2,x3,-,-,-,-⟩:=ac hb;(have p0:(0:Int)≤(i:Int):=by omega);(have p2:(i:Int)<(s.size:Int):=by omega);(have p3:(i:Int)+1≤(s.size:Int):=by omega);have q1:IntKind.i64.wrap ((i:Int)+1)=(i:Int)+1:=IntWalk.i64_in _ (by omega);have yk:=fun W=>dD s i hi W;rw [gp] at yk;have hR:∀ R,aO en (s.data.toList.drop (i+1)) false 0=R→oB s i l=match R with
   | some k=>.go (i+k+2) (l++[⟨5,s.extract i (i+k+2),i⟩])
   | none=>.bad i:=by rintro R rfl;unfold oB;rw [gp]
 have U:=hid hR;have g3:=ni en (s.data.toList.drop (i+1)) false 0;generalize hQ:aO en (s.data.toList.drop (i+1)) false 0=R at *;have HR:=hid (U.out R rfl);have g9:=hid (show ∀ m,R=some m→i+m+2≤s.size by intro m hm;have:=g3 m hm;rw [List.length_drop] at this;have hk:s.data.toList.length=s.size:=rfl;omega);have g4:=dt s (i+1);have g5:=dr s (i+1);rw [←g5] at hQ;have ht:=hid g4;have g8:=hid hQ;clear g4 g5 hQ g3 U hR hb g6 h gp hi;rcases hf with rfl | rfl
 ·(go_enter Tryz.func104,Tryz.ntmps104);(go_wp2_with fail);have gb:=World.iter_heap w (s.extract (i+1) s.size) 0;have gs:Below w.heap.size w (w.iter (s.extract (i+1) s.size) 0):=(Below.refl _ w).alloc (Nat.le_refl _) _;generalize s.extract (i+1) s.size=t at *;clear x0 x1 x2 x3 yk;go_loopg [4,5,6,25,26] t.size (fun g u4 _ _ _ _ wr=>∃ (j:Nat) (sl:Bool),j≤t.size∧t.size-j≤g∧u4=.bool sl∧wr.heap[w.heap.size]? = some (.stringIter t j)∧Below w.heap.size w wr∧aO 34 (t.data.toList.drop j) sl j=R)
  case atStart=>exact ⟨0,false,Nat.zero_le _,by omega,rfl,gb,gs,by rw [List.drop_zero];exact g8.out⟩
  case round=>
   clear gb gs;obtain ⟨j,sl,hj,hg,rfl,hit,hB,hq⟩:=hrel;have u:=hid hit;have U:=hid hq;clear hit hq;by_cases K:j<t.size
   ·have I:=fun ty=>run_next_any_at (P:=Tryz.prog) wr w.heap.size t j ty u.out K;by_cases ga:ab t j<128
    ·obtain ⟨c,rr,gq,gr,gn⟩:=nh t j K;have hd:=f7 t j ga;rw [hd] at I;rw [gq] at U;have gg:=hid gn;have J:=hid gr;have j1:=iterAt_heap wr w.heap.size t j (j+1) u.out;have N:Below w.heap.size w (wr.iterAt w.heap.size t (j+1)):=b8 hB (Nat.le_refl _);generalize wr.iterAt w.heap.size t (j+1)=W1 at I j1 N;have J1:=hid j1;clear hd gq gr gn j1;generalize ab t j=bb at *;cases sl with
     | true=>
      by_cases D:bb=10
      ·subst D;have M:=hid (show R=none by rw [←U.out,aO,if_pos J.out]);(go_wp2_with fail);refine (dV X i _).mono ?_;rintro e w2 ⟨rfl,rfl⟩;unfold dv;refine ⟨rfl,?_⟩;rw [HR.out,M.out];exact ⟨rfl,N.mono (Nat.le_of_lt gi)⟩
      ·(have gt:((bb:Int) != 10)=true:=by rw [bne_iff_ne];omega);have M:=hid (show aO 34 rr false (j+1)=R by rw [←U.out,aO,if_neg (by rw [J.out];exact D)]);clear D;(go_wp2_with fail);refine (fg X _ _).mono ?_;rintro e w2 ⟨rfl,rfl⟩;(go_wp2_with fail);go_roundg (t.size-(j+1))
       case measure=>omega
       case rel=>exact ⟨j+1,false,by omega,Nat.le_refl _,rfl,J1.out,N,by rw [←gg.out];exact M.out⟩
     | false=>
      by_cases gm:bb=34
      ·subst gm;have M:=hid (show R=some j by rw [←U.out,aO,if_neg (by rw [J.out];omega),if_pos J.out]);have gz:=g9.out j M.out;have gh:=HH.out.below N;obtain ⟨he,ha,hc,ge⟩:=gh.out;obtain ⟨x0,x1,x2,x3,f0,f1,f2,f3⟩:=ac ge.blk;have q2:IntKind.i64.wrap ((i:Int)+(j:Int))=(i:Int)+(j:Int):=IntWalk.i64_in _ (by omega);have q3:IntKind.i64.wrap ((i:Int)+(j:Int)+2)=(i:Int)+(j:Int)+2:=IntWalk.i64_in _ (by omega);have O:=gh.set (i+j+2) (by omega) gz;rw [show ((i+j+2:Nat):Int)=(i:Int)+(j:Int)+2 by omega] at O;have gu:=hid O;clear O ge gh;(go_wp2_with fail);refine (fp X s (i+j+2) l 5 i (by omega) hl _ gu.out).mono ?_;rintro e w4 ⟨rfl,gw,g0⟩;(go_wp2_with fail);refine bodyPost_ret (results_none rfl _ _ _) rfl ?_;rw [HR.out,M.out];exact ⟨rfl,gw,((N.mono (Nat.le_of_lt gi)).setCell (Nat.le_refl _) _).trans g0⟩
      ·by_cases gd:bb=92
       ·subst gd;have M:=hid (show aO 34 rr true (j+1)=R by rw [←U.out,aO,if_pos ⟨J.out,rfl⟩]);(go_wp2_with fail);go_roundg (t.size-(j+1))
        case measure=>omega
        case rel=>exact ⟨j+1,true,by omega,Nat.le_refl _,rfl,J1.out,N,by rw [←gg.out];exact M.out⟩
       ·by_cases D:bb=10
        ·subst D;have M:=hid (show R=none by rw [←U.out,aO,if_neg (by rw [J.out];omega),if_neg (by rw [J.out];omega),if_pos ⟨J.out,by omega⟩]);(go_wp2_with fail);refine (dV X i _).mono ?_;rintro e w2 ⟨rfl,rfl⟩;unfold dv;refine ⟨rfl,?_⟩;rw [HR.out,M.out];exact ⟨rfl,N.mono (Nat.le_of_lt gi)⟩
        ·have M:=hid (show aO 34 rr false (j+1)=R by rw [←U.out,aO,if_neg (by rw [J.out];omega),if_neg (by rw [J.out];omega),if_neg (by rw [J.out];omega)]);(have g1:((bb:Int)==92)=false:=by rw [beq_eq_false_iff_ne];omega);(have hr:((bb:Int)==34)=false:=by rw [beq_eq_false_iff_ne];omega);(have gt:((bb:Int)==10)=false:=by rw [beq_eq_false_iff_ne];omega);clear gm gd D;(go_wp2_with fail);go_roundg (t.size-(j+1))
         case measure=>omega
         case rel=>exact ⟨j+1,false,by omega,Nat.le_refl _,rfl,J1.out,N,by rw [←gg.out];exact M.out⟩
    ·have hh:=fy t j K (by omega);have gl:=hid (fun b=>lP 34 (by omega) (Utf8.decode t j).2 (t.data.toList.drop j) b j (by rw [List.length_drop];have:t.data.toList.length=t.size:=rfl;omega) (fun m hm=>by have:=hh.2.2.2 m hm;unfold ab at this;rw [List.getD_eq_getElem?_getD,List.getElem?_drop,←List.getD_eq_getElem?_getD];exact this));have gy:=hh.1;have gx:=hh.2.1;have gj:=hh.2.2.1;clear hh ga;generalize Utf8.decode t j=q at *;obtain ⟨r,k⟩:=q;simp only at gy gx gj I gl;have gv:=hid (show aO 34 (t.data.toList.drop (j+k)) false (j+k)=R by have:=gl.out sl;rw [U.out,List.drop_drop] at this;rw [this,show (k==0)=false by rw [beq_eq_false_iff_ne];omega,Bool.and_false]);clear gl;have j1:=iterAt_heap wr w.heap.size t j (j+k) u.out;have N:Below w.heap.size w (wr.iterAt w.heap.size t (j+k)):=b8 hB (Nat.le_refl _);generalize wr.iterAt w.heap.size t (j+k)=W1 at I j1 N;have J1:=hid j1;clear j1;(have g7:((r:Int) != 10)=true:=by rw [bne_iff_ne];omega);(have gt:((r:Int)==10)=false:=by rw [beq_eq_false_iff_ne];omega);(have g1:((r:Int)==92)=false:=by rw [beq_eq_false_iff_ne];omega);(have een:((r:Int)==34)=false:=by rw [beq_eq_false_iff_ne];omega);cases sl with
     | true=>
      (go_wp2_with fail);refine (fg X _ _).mono ?_;rintro e w2 ⟨rfl,rfl⟩;(go_wp2_with fail);go_roundg (t.size-(j+k))
      case measure=>omega
      case rel=>exact ⟨j+k,false,gj,Nat.le_refl _,rfl,J1.out,N,gv.out⟩
     | false=>
      (go_wp2_with fail);go_roundg (t.size-(j+k))
      case measure=>omega
      case rel=>exact ⟨j+k,false,gj,Nat.le_refl _,rfl,J1.out,N,gv.out⟩
   ·have g2:=fun ty=>run_next_end_at (P:=Tryz.prog) wr w.heap.size t j ty u.out K;have M:=hid (show R=none by rw [←U.out,List.drop_of_length_le (by have:t.data.toList.length=t.size:=rfl;omega)];cases sl <;> rfl);(go_wp2_with fail);refine (dV X i _).mono ?_;rintro e w2 ⟨rfl,rfl⟩;unfold dv;refine ⟨rfl,?_⟩;rw [HR.out,M.out];exact ⟨rfl,hB.mono (Nat.le_of_lt gi)⟩
 ·(go_enter Tryz.func104,Tryz.ntmps104);(go_wp2_with fail);have gb:=World.iter_heap w (s.extract (i+1) s.size) 0;have gs:Below w.heap.size w (w.iter (s.extract (i+1) s.size) 0):=(Below.refl _ w).alloc (Nat.le_refl _) _;generalize s.extract (i+1) s.size=t at *;clear x0 x1 x2 x3 yk;go_loopg [4,5,6,25,26] t.size (fun g u4 _ _ _ _ wr=>∃ (j:Nat) (sl:Bool),j≤t.size∧t.size-j≤g∧u4=.bool sl∧wr.heap[w.heap.size]? = some (.stringIter t j)∧Below w.heap.size w wr∧aO 96 (t.data.toList.drop j) sl j=R)
  case atStart=>exact ⟨0,false,Nat.zero_le _,by omega,rfl,gb,gs,by rw [List.drop_zero];exact g8.out⟩
  case round=>
   clear gb gs;obtain ⟨j,sl,hj,hg,rfl,hit,hB,hq⟩:=hrel;have u:=hid hit;have U:=hid hq;clear hit hq;by_cases K:j<t.size
   ·have I:=fun ty=>run_next_any_at (P:=Tryz.prog) wr w.heap.size t j ty u.out K;by_cases ga:ab t j<128
    ·obtain ⟨c,rr,gq,gr,gn⟩:=nh t j K;have hd:=f7 t j ga;rw [hd] at I;rw [gq] at U;have gg:=hid gn;have J:=hid gr;have j1:=iterAt_heap wr w.heap.size t j (j+1) u.out;have N:Below w.heap.size w (wr.iterAt w.heap.size t (j+1)):=b8 hB (Nat.le_refl _);generalize wr.iterAt w.heap.size t (j+1)=W1 at I j1 N;have J1:=hid j1;clear hd gq gr gn j1;generalize ab t j=bb at *;cases sl with
     | true=>
      by_cases D:bb=10
      ·subst D;have M:=hid (show R=none by rw [←U.out,aO,if_pos J.out]);(go_wp2_with fail);refine (dV X i _).mono ?_;rintro e w2 ⟨rfl,rfl⟩;unfold dv;refine ⟨rfl,?_⟩;rw [HR.out,M.out];exact ⟨rfl,N.mono (Nat.le_of_lt gi)⟩
      ·(have gt:((bb:Int) != 10)=true:=by rw [bne_iff_ne];omega);have M:=hid (show aO 96 rr false (j+1)=R by rw [←U.out,aO,if_neg (by rw [J.out];exact D)]);clear D;(go_wp2_with fail);refine (fg X _ _).mono ?_;rintro e w2 ⟨rfl,rfl⟩;(go_wp2_with fail);go_roundg (t.size-(j+1))
       case measure=>omega
       case rel=>exact ⟨j+1,false,by omega,Nat.le_refl _,rfl,J1.out,N,by rw [←gg.out];exact M.out⟩
     | false=>
      by_cases gm:bb=96
      ·subst gm;have M:=hid (show R=some j by rw [←U.out,aO,if_neg (by rw [J.out];omega),if_pos J.out]);have gz:=g9.out j M.out;have gh:=HH.out.below N;obtain ⟨he,ha,hc,ge⟩:=gh.out;obtain ⟨x0,x1,x2,x3,f0,f1,f2,f3⟩:=ac ge.blk;have q2:IntKind.i64.wrap ((i:Int)+(j:Int))=(i:Int)+(j:Int):=IntWalk.i64_in _ (by omega);have q3:IntKind.i64.wrap ((i:Int)+(j:Int)+2)=(i:Int)+(j:Int)+2:=IntWalk.i64_in _ (by omega);have O:=gh.set (i+j+2) (by omega) gz;rw [show ((i+j+2:Nat):Int)=(i:Int)+(j:Int)+2 by omega] at O;have gu:=hid O;clear O ge gh;(go_wp2_with fail);refine (fp X s (i+j+2) l 5 i (by omega) hl _ gu.out).mono ?_;rintro e w4 ⟨rfl,gw,g0⟩;(go_wp2_with fail);refine bodyPost_ret (results_none rfl _ _ _) rfl ?_;rw [HR.out,M.out];exact ⟨rfl,gw,((N.mono (Nat.le_of_lt gi)).setCell (Nat.le_refl _) _).trans g0⟩
      ·by_cases D:bb=10
       ·subst D;have M:=hid (show aO 96 rr false (j+1)=R by rw [←U.out,aO,if_neg (by omega),if_neg (by rw [J.out];omega),if_neg (by omega)]);(go_wp2_with fail);refine (fg X _ _).mono ?_;rintro e w2 ⟨rfl,rfl⟩;(go_wp2_with fail);go_roundg (t.size-(j+1))
        case measure=>omega
        case rel=>exact ⟨j+1,false,by omega,Nat.le_refl _,rfl,J1.out,N,by rw [←gg.out];exact M.out⟩
       ·by_cases gd:bb=92
        ·subst gd;have M:=hid (show aO 96 rr false (j+1)=R by rw [←U.out,aO,if_neg (by omega),if_neg (by rw [J.out];omega),if_neg (by omega)]);clear gm D;(go_wp2_with fail);go_roundg (t.size-(j+1))
         case measure=>omega
         case rel=>exact ⟨j+1,false,by omega,Nat.le_refl _,rfl,J1.out,N,by rw [←gg.out];exact M.out⟩
        ·have M:=hid (show aO 96 rr false (j+1)=R by rw [←U.out,aO,if_neg (by omega),if_neg (by rw [J.out];omega),if_neg (by omega)]);(have g1:((bb:Int)==92)=false:=by rw [beq_eq_false_iff_ne];omega);(have hp:((bb:Int)==96)=false:=by rw [beq_eq_false_iff_ne];omega);(have gt:((bb:Int)==10)=false:=by rw [beq_eq_false_iff_ne];omega);clear gm gd D;(go_wp2_with fail);go_roundg (t.size-(j+1))
         case measure=>omega
         case rel=>exact ⟨j+1,false,by omega,Nat.le_refl _,rfl,J1.out,N,by rw [←gg.out];exact M.out⟩
    ·have hh:=fy t j K (by omega);have gl:=hid (fun b=>lP 96 (by omega) (Utf8.decode t j).2 (t.data.toList.drop j) b j (by rw [List.length_drop];have:t.data.toList.length=t.size:=rfl;omega) (fun m hm=>by have:=hh.2.2.2 m hm;unfold ab at this;rw [List.getD_eq_getElem?_getD,List.getElem?_drop,←List.getD_eq_getElem?_getD];exact this));have gy:=hh.1;have gx:=hh.2.1;have gj:=hh.2.2.1;clear hh ga;generalize Utf8.decode t j=q at *;obtain ⟨r,k⟩:=q;simp only at gy gx gj I gl;have gv:=hid (show aO 96 (t.data.toList.drop (j+k)) false (j+k)=R by have:=gl.out sl;rw [U.out,List.drop_drop] at this;rw [this,show (k==0)=false by rw [beq_eq_false_iff_ne];omega,Bool.and_false]);clear gl;have j1:=iterAt_heap wr w.heap.size t j (j+k) u.out;have N:Below w.heap.size w (wr.iterAt w.heap.size t (j+k)):=b8 hB (Nat.le_refl _);generalize wr.iterAt w.heap.size t (j+k)=W1 at I j1 N;have J1:=hid j1;clear j1;(have g7:((r:Int) != 10)=true:=by rw [bne_iff_ne];omega);(have gt:((r:Int)==10)=false:=by rw [beq_eq_false_iff_ne];omega);(have g1:((r:Int)==92)=false:=by rw [beq_eq_false_iff_ne];omega);(have een:((r:Int)==96)=false:=by rw [beq_eq_false_iff_ne];omega);cases sl with
     | true=>
      (go_wp2_with fail);refine (fg X _ _).mono ?_;rintro e w2 ⟨rfl,rfl⟩;(go_wp2_with fail);go_roundg (t.size-(j+k))
      case measure=>omega
      case rel=>exact ⟨j+k,false,gj,Nat.le_refl _,rfl,J1.out,N,gv.out⟩
     | false=>
      (go_wp2_with fail);go_roundg (t.size-(j+k))
      case measure=>omega
      case rel=>exact ⟨j+k,false,gj,Nat.le_refl _,rfl,J1.out,N,gv.out⟩
   ·have g2:=fun ty=>run_next_end_at (P:=Tryz.prog) wr w.heap.size t j ty u.out K;have M:=hid (show R=none by rw [←U.out,List.drop_of_length_le (by have:t.data.toList.length=t.size:=rfl;omega)];cases sl <;> rfl);(go_wp2_with fail);refine (dV X i _).mono ?_;rintro e w2 ⟨rfl,rfl⟩;unfold dv;refine ⟨rfl,?_⟩;rw [HR.out,M.out];exact ⟨rfl,hB.mono (Nat.le_of_lt gi)⟩
end
end Go.Proofs.YtiebcdeafofgdaaGreatDoor
