/-
  Parts of the proof: Rrg3 Snl Sbyte Swhile. By an AI agent.
-/
import Derived.Test.YtiebcdeafofgdaaGreatDoorJ14
import Derived.Test.YtiebcdeafofgdaaGreatDoorJ02
import Derived.Test.YtiebcdeafofgdaaGreatDoorJ09
open Go.Proofs.Tryz
set_option maxRecDepth 100000
set_option maxHeartbeats 8000000
namespace Go.Proofs.YtiebcdeafofgdaaGreatDoor
section
open Go.RowKit Go.Lib Go.Proofs
attribute [local go_sem ↓] Go.wp_at_zero Go.wp_at_succ
attribute [local go_sem] aV aW aX
theorem qB:type_of% @List.takeWhile_cons:=@List.takeWhile_cons
def Ln(E:cy):Prop:=∀s x s',bN E.c s=some (x,s')->s'.at_<=E.c.toks.length
theorem DU(E:cy)(s:St)(w:World)(h:aU E w s)(hn:0<E.c.toks.length)(hS:uF E)(hR:Ln E):
  Calls prog 219 #[E.R] w (RT E s w (bN E.c s)):=by
 obtain⟨b,off,eA,jn,hq⟩:=h.toks.2 hn;obtain⟨off',hj,hcut⟩:=OU b off E.c.toks.length E.cap s.at_ E.c.toks rfl h.le h.fits;(have g4:E.c.toks.length-s.at_=(E.c.toks.drop s.at_).length:=by rw[gY]);rw[g4]at hj;obtain⟨c0,c1,-,-,-,-⟩:=h.cells;rw[eA]at c0;have jf:=h.lt;have jb:=h.most;have jk:=h.le;have h1:aw E s w (w.alloc (.cells #[.slice (some ⟨b,off',none⟩) (E.c.toks.drop s.at_).length (E.cap-s.at_)] 38)):=(aw.refl h).alloc _;have hy:rX (w.alloc (.cells #[.slice (some ⟨b,off',none⟩) (E.c.toks.drop s.at_).length (E.cap-s.at_)] 38)) w.heap.size b off' (E.cap-s.at_) (E.c.toks.drop s.at_):=by
  refine⟨?_,?_,by simp;omega,fun j u hu=>?_⟩
  ·exact((an.new w 38 #[.slice (some ⟨b,off',none⟩) (E.c.toks.drop s.at_).length (E.cap-s.at_)]).cell 0).trans rfl
  ·have:=h.fits;rw[gY];omega
  ·exact cell_kept ((gG _ w).alloc (gA _) _) (hcut w hq j u hu)
 have hk:∀t∈E.c.toks.drop s.at_,t.text.size<=1000000000:=fun t ht=>hS t (vd ht);(have ho:(E.c.toks.drop s.at_).length<=1000000:=by rw[gY];omega);have g9:=hid (Cc E.c s);have g8:=hid (fun hr a b d r hl ha=>yj E.c s hr (a:=a) (b:=b) (d:=d) (r:=r) hl ha);have h2:=hid (show aS E.c s ⟨#[114,97,110,103,101]⟩=true->bN E.c s=some ((⟨#[]⟩:BA),adv s)from fun hr=>by unfold bN;rw[gF hr]);(have g7:3<=(E.c.toks.drop s.at_).length->s.at_+3<=E.c.toks.length:=by rw[gY];omega);have g0:=hid hk;have h4:=hid g7;clear hcut hq g4 hk hS g7;have je:=hR s;clear hR;generalize hrr:bN E.c s=res at *;generalize hlq:E.c.toks.drop s.at_=l at *;clear hrr;have HL:=hid hlq;clear hlq;(have jm:(0:Int)<=(s.at_:Int):=by omega);(go_enter func219,ntmps219);(go_upto_region 1 with fail);go_cut [4] (fun s4 wx=>s4=.pointer (some ⟨w,0,none⟩)/\aw E s w wx/\rX wx w.heap.size b off' (E.cap-s.at_) l)
 case first=>go_region_law (fail);(all_goals go_wp2_with fail);(all_goals go_meet);all_goals exact⟨rfl,h1.drew,hy.below (gG _ _).drew⟩
 case rest=>
  obtain⟨rfl,gp,hw⟩:=hcut;clear h1 hy c0 c1 hj;go_wp2_with fail;cases hA:aS E.c s ⟨#[114,97,110,103,101]⟩with
  |true=>have HR:=hid (h2.out hA);refine(bB E s _ _ gp.rd hA).mono ?_;rintro e w2⟨rfl,jc⟩;have gl:=gp.trans jc;go_wp2_with fail;go_ret2;rw[HR.out];exact⟨rfl,gl⟩
  | false=>
   have N:=hid (g9.out hA);have O:=hid (fun a b d r=>g8.out hA a b d r);refine(cc E s _ _ gp.rd hA).mono ?_;rintro e w2⟨rfl,gi⟩;have gl:=gp.trans gi.moved;have I:=hw.below gi.bel;clear g9 g8 h2 hA gp hw gi;by_cases J:(l.getD 0 ⟨0,⟨#[]⟩,0⟩).kind=1
   rotate_left
   ·have HR:Hid (res=none):=hid (N.out (.inr J));(have e0:(decide (0<l.length)&&((l.getD 0 ⟨0,⟨#[]⟩,0⟩).kind==1))=false:=by rw[beq_eq_false_iff_ne.2 J,jU]);have kB:∀n:Wd (Below w2 w2),n.wd.cell? ⟨w,0,none⟩=some (.slice (some ⟨b,off',none⟩) l.length (E.cap-s.at_)):=fun n=>(I.below n.ok).box;have D:=hid (fun W(hb:Below w2 w2 W)=>rY w.heap.size b off' (E.cap-s.at_) l 0 W (I.below hb));rw[show((0:Nat):Int)=0 from rfl]at D;rw[e0]at D;clear e0 J N O;go_wp2_with fail;refine cT w2 ?_;(repeat(go_big_quiet_step ((first|(go_at_call 234;rename_i n;((with_reducible refine(D.out n.wd n.ok).mono ?_);rintro e w'⟨rfl,rfl⟩);exact⟨rfl,n,rfl⟩)))));refine jY ?_;intro n6;have gy:=I.below n6.ok;have M:=hid (fun W(hb:Below n6.wd.heap.size n6.wd W)=>D.out W (aD n6.ok hb));clear kB;go_wp2_with fail;refine cT n6.wd ?_;(repeat(go_big_quiet_step ((first|(go_at_call 234;rename_i n;((with_reducible refine(M.out n.wd n.ok).mono ?_);rintro e w'⟨rfl,rfl⟩);exact⟨rfl,n,rfl⟩)))));refine jY ?_;intro n9;go_wp2_with fail;go_ret2;rw[HR.out];exact⟨rfl,(gl.step n6.ok).step n9.ok⟩
   by_cases h3:3<=l.length
   rotate_left
   ·have HR:Hid (res=none):=hid (N.out (.inl (by omega)));have hp:0<l.length:=by
     rcases kR l.length with h0|h0
     ·rw[jQ h0]at J;simp at J
     ·exact h0
    (have e0:(decide (0<l.length)&&((l.getD 0 ⟨0,⟨#[]⟩,0⟩).kind==1))=true:=by rw[jO hp,beq_iff_eq.2 J];rfl);(have e2:(decide (2<l.length)&&((l.getD 2 ⟨0,⟨#[]⟩,0⟩).kind==1))=false:=by rw[gM (by omega),jG]);(have hL:decide ((l.length:Int)>2)=false:=by simp;omega);have kB:∀n:Wd (Below w2 w2),n.wd.cell? ⟨w,0,none⟩=some (.slice (some ⟨b,off',none⟩) l.length (E.cap-s.at_)):=fun n=>(I.below n.ok).box;have D:=hid (fun W(hb:Below w2 w2 W)=>rY w.heap.size b off' (E.cap-s.at_) l 0 W (I.below hb));rw[show((0:Nat):Int)=0 from rfl]at D;have U:=hid (fun W(hb:Below w2 w2 W)=>rY w.heap.size b off' (E.cap-s.at_) l 2 W (I.below hb));rw[show((2:Nat):Int)=2 from rfl]at U;rw[e0]at D;rw[e2]at U;clear e0 e2 J N O;go_wp2_with fail;refine cT w2 ?_;(repeat(go_big_quiet_step ((first|(go_at_call 234;rename_i n;((with_reducible refine(D.out n.wd n.ok).mono ?_);rintro e w'⟨rfl,rfl⟩);exact⟨rfl,n,rfl⟩)))));refine jY ?_;intro n6;have gy:=I.below n6.ok;have M:=hid (fun W(hb:Below n6.wd.heap.size n6.wd W)=>D.out W (aD n6.ok hb));have gb:=hid (fun W(hb:Below n6.wd.heap.size n6.wd W)=>U.out W (aD n6.ok hb));clear kB;go_wp2_with fail;refine cT n6.wd ?_;(repeat(go_big_quiet_step ((first|(go_at_call 234;rename_i n;((with_reducible refine(M.out n.wd n.ok).mono ?_);rintro e w'⟨rfl,rfl⟩);exact⟨rfl,n,rfl⟩)|(go_at_call 234;rename_i n;((with_reducible refine(gb.out n.wd n.ok).mono ?_);rintro e w'⟨rfl,rfl⟩);exact⟨rfl,n,rfl⟩)))));refine jY ?_;intro n9;go_wp2_with fail;go_ret2;rw[HR.out];exact⟨rfl,(gl.step n6.ok).step n9.ok⟩
   obtain⟨a,gk⟩:∃a,l[0]=a:=⟨_,rfl⟩;obtain⟨d,gj⟩:∃d,l[2]=d:=⟨_,rfl⟩;obtain⟨bt,r,he⟩:∃bt r,l=a::bt::d::r:=by
    rcases l with _|⟨x,_|⟨y,_|⟨z,r⟩⟩⟩
    ·simp at h3
    ·simp at h3
    ·simp at h3
    ·simp at gk gj;subst gk gj;exact⟨y,r,rfl⟩
   (have jj:a.text.size<=1000000000:=by rw[<-gk];exact g0.out _ (gX _));(have ji:d.text.size<=1000000000:=by rw[<-gj];exact g0.out _ (gX _));(have jd:a.kind=1:=by rw[gR,gN (by omega)]at J;simpa[gk]using J);(have e0:(decide (0<l.length)&&((l.getD 0 ⟨0,⟨#[]⟩,0⟩).kind==1))=true:=by rw[jO (by omega),beq_iff_eq.2 J];rfl);(have e2:(decide (2<l.length)&&((l.getD 2 ⟨0,⟨#[]⟩,0⟩).kind==1))=(d.kind==1):=by rw[gR,gN (by omega),gj,jO (show 2<l.length by omega)];rfl);have ge:=hid (show res=if a.text≠(⟨#[95]⟩:BA)/\dg (l.take 3)=a.text++(⟨#[32,58,61,32,114,97,110,103,101]⟩:BA)then some (a.text,{ s with at_:=s.at_+3 })
     else if d.kind=1/\d.text≠(⟨#[95]⟩:BA)/\dg (l.take 5)=a.text++(⟨#[32,44,32]⟩:BA)++d.text++(⟨#[32,58,61,32,114,97,110,103,101]⟩:BA)then some (a.text++(⟨#[44]⟩:BA)++d.text,{ s with at_:=s.at_+5 })else none by have:=O.out a bt d r he jd;rw[<-he]at this;exact this)
   (have gx:w2.cell? ⟨b,off'+1,none⟩=some (.string a.text):=by have:=(I.tok 0 (by omega)).2.1;rw[gk]at this;simpa using this);(have hf:w2.cell? ⟨b,off'+6+1,none⟩=some (.string d.text):=by have:=(I.tok 2 (by omega)).2.1;rw[gj]at this;exact this);(have hL:decide ((l.length:Int)>2)=true:=by simp;omega);(have hp:(0:Int)<(l.length:Int):=by omega);(have jl:(2:Int)<(l.length:Int):=by omega);(have jh:0<l.length:=by omega);(have jg:2<l.length:=by omega);have gu:=hid (show(a.text≠(⟨#[95]⟩:BA))↔(a.text.toList==[95])=false by rw[show([95]:List UInt8)=((⟨#[95]⟩:BA):ByteArray).toList from by kernel_rfl,cu];simp);have gt:=hid (show(d.text≠(⟨#[95]⟩:BA))↔(d.text.toList==[95])=false by rw[show([95]:List UInt8)=((⟨#[95]⟩:BA):ByteArray).toList from by kernel_rfl,cu];simp);have gw:=hid (show(dg (l.take 3)=a.text++(⟨#[32,58,61,32,114,97,110,103,101]⟩:BA))↔((dg (l.take 3)).toList==(a.text++(⟨#[32,58,61,32,114,97,110,103,101]⟩:BA)).toList)=true by rw[cu];simp);have gv:=hid (show(dg (l.take 5)=a.text++(⟨#[32,44,32]⟩:BA)++d.text++(⟨#[32,58,61,32,114,97,110,103,101]⟩:BA))↔((dg (l.take 5)).toList==(a.text++(⟨#[32,44,32]⟩:BA)++d.text++(⟨#[32,58,61,32,114,97,110,103,101]⟩:BA)).toList)=true by rw[cu];simp);have kB:∀n:Wd (Below w2 w2),n.wd.cell? ⟨w,0,none⟩=some (.slice (some ⟨b,off',none⟩) l.length (E.cap-s.at_)):=fun n=>(I.below n.ok).box;have D:=hid (fun W(hb:Below w2 w2 W)=>rY w.heap.size b off' (E.cap-s.at_) l 0 W (I.below hb));rw[show((0:Nat):Int)=0 from rfl]at D;have kA:∀n:Wd (Below w2 w2),n.wd.cell? ⟨b,off'+1,none⟩=some (.string a.text):=fun n=>cell_kept n.ok gx;have kD:∀n:Wd (Below w2 w2),n.wd.cell? ⟨b,off'+6+1,none⟩=some (.string d.text):=fun n=>cell_kept n.ok hf;have U:=hid (fun W(hb:Below w2 w2 W)=>rY w.heap.size b off' (E.cap-s.at_) l 2 W (I.below hb));rw[show((2:Nat):Int)=2 from rfl]at U;have gr:=hid (fun W(hb:Below w2 w2 W)=>yx w.heap.size b off' (E.cap-s.at_) l 3 (by omega) (by omega) h3 ho g0.out W (I.below hb));rw[show((3:Nat):Int)=3 from rfl]at gr;have gz:=hid (fun W(hb:Below w2 w2 W)=>yx w.heap.size b off' (E.cap-s.at_) l 5 (by omega) (by omega) h3 ho g0.out W (I.below hb));rw[show((5:Nat):Int)=5 from rfl]at gz;rw[e0]at D;rw[e2]at U;clear e0 e2 J N O gk gj he;generalize dg (l.take 3)=T3 at *;generalize dg (l.take 5)=T5 at *;generalize hdk:(d.kind==1)=n2 at *;have gs:=hid (show(d.kind=1)↔n2=true by rw[<-hdk];simp);clear hdk;by_cases hc:(a.text.toList==[95])=false/\(T3.toList==(a.text++(⟨#[32,58,61,32,114,97,110,103,101]⟩:BA)).toList)=true
   ·obtain⟨gh,gi⟩:=hc;(have g3:(a.text.toList != [95])=true:=by simp[bne,gh]);have HR:=hid (ge.out.trans (gF ⟨gu.out.2 gh,gw.out.2 gi⟩));clear ge gu gt gw gv gs gz U;go_wp2_with fail;refine cT w2 ?_;(repeat(go_big_quiet_step ((first|(go_at_call 234;rename_i n;((with_reducible refine(D.out n.wd n.ok).mono ?_);rintro e w'⟨rfl,rfl⟩);exact⟨rfl,n,rfl⟩)|(go_at_call 232;rename_i n;((with_reducible refine(gr.out n.wd n.ok).mono ?_);rintro e w'⟨rfl,hb⟩);exact⟨rfl,⟨w',aD n.ok hb⟩,rfl⟩)))));refine jY ?_;intro n6;have gn:=gl.step n6.ok;have hi:=I.below n6.ok;have gm:=cell_kept n6.ok gx;obtain⟨y0,y1,y2,y3,y4,yf⟩:=gn.rd.cells;have h6:=yf 1;have q1:IntKind.i64.wrap ((s.at_:Int)+3)=(s.at_:Int)+3:=gQ _ (by omega);have ga:=gn.setAt (s.at_+3) (h4.out h3);rw[show((s.at_+3:Nat):Int)=(s.at_:Int)+3 by omega]at ga;have hg:=hi.box;clear yf kB kA kD D gr;(have hh:w.heap.size≠E.R:=by omega);(have gd:b≠E.R:=by omega);(go_upto_region 8 with fail);have z0:(n6.wd.setCell ⟨E.R,1,none⟩ (.int .i64 ((s.at_:Int)+3))).cell? ⟨w,0,none⟩=some (.slice (some ⟨b,off',none⟩) l.length (E.cap-s.at_)):=(gH _ _ _ _ (by exact hh.symm)).trans hg;have z1:(n6.wd.setCell ⟨E.R,1,none⟩ (.int .i64 ((s.at_:Int)+3))).cell? ⟨b,off'+1,none⟩=some (.string a.text):=(gH _ _ _ _ (by exact gd.symm)).trans gm;generalize n6.wd.setCell ⟨E.R,1,none⟩ (.int .i64 ((s.at_:Int)+3))=w10 at *;go_wp2_with fail;go_ret2;rw[HR.out];exact⟨rfl,ga⟩
   ·have g1:=hid (ge.out.trans (d5 (fun h=>hc ⟨gu.out.1 h.1,gw.out.1 h.2⟩)));cases gh:(a.text.toList==[95])
    case' true=>have g3:(a.text.toList != [95])=false:=by simp[bne,gh]
    case' false=>(have g3:(a.text.toList != [95])=true:=by simp[bne,gh]);have gi:(T3.toList==(a.text++(⟨#[32,58,61,32,114,97,110,103,101]⟩:BA)).toList)=false:=by simpa[gh]using hc
    all_goals
     clear ge hc;go_wp2_with fail;refine cT w2 ?_;(repeat(go_big_quiet_step ((first|(go_at_call 234;rename_i n;((with_reducible refine(D.out n.wd n.ok).mono ?_);rintro e w'⟨rfl,rfl⟩);exact⟨rfl,n,rfl⟩)|(go_at_call 232;rename_i n;((with_reducible refine(gr.out n.wd n.ok).mono ?_);rintro e w'⟨rfl,hb⟩);exact⟨rfl,⟨w',aD n.ok hb⟩,rfl⟩)))));refine jY ?_;intro n6;have gy:=I.below n6.ok;have hz:=gl.step n6.ok;have g6:=cell_kept n6.ok gx;have g5:=cell_kept n6.ok hf;have h8:∀n:Wd (Below n6.wd.heap.size n6.wd),n.wd.cell? ⟨w,0,none⟩=some (.slice (some ⟨b,off',none⟩) l.length (E.cap-s.at_)):=fun n=>(gy.below n.ok).box;have ja:∀n:Wd (Below n6.wd.heap.size n6.wd),n.wd.cell? ⟨b,off'+1,none⟩=some (.string a.text):=fun n=>cell_kept n.ok g6;have h7:∀n:Wd (Below n6.wd.heap.size n6.wd),n.wd.cell? ⟨b,off'+6+1,none⟩=some (.string d.text):=fun n=>cell_kept n.ok g5;have M:=hid (fun W(hb:Below n6.wd.heap.size n6.wd W)=>D.out W (aD n6.ok hb));have gb:=hid (fun W(hb:Below n6.wd.heap.size n6.wd W)=>U.out W (aD n6.ok hb));have gq:=hid (fun W(hb:Below n6.wd.heap.size n6.wd W)=>gz.out W (aD n6.ok hb));clear kB kA kD D U gr gz gx hf;by_cases hd:n2=true/\(d.text.toList==[95])=false/\(T5.toList==(a.text++(⟨#[32,44,32]⟩:BA)++d.text++(⟨#[32,58,61,32,114,97,110,103,101]⟩:BA)).toList)=true
     ·obtain⟨rfl,gg,hm⟩:=hd;(have g2:(d.text.toList != [95])=true:=by simp[bne,gg]);have HR:=hid (show res=some (a.text++(⟨#[44]⟩:BA)++d.text,{ s with at_:=s.at_+5 })by rw[g1.out,gF ⟨gs.out.2 rfl,gt.out.2 gg,gv.out.2 hm⟩]);have h5:s.at_+5<=E.c.toks.length:=je _ _ HR.out;clear g1 gu gt gw gv gs;go_wp2_with fail;refine cT n6.wd ?_;(repeat(go_big_quiet_step ((first|(go_at_call 234;rename_i n;((with_reducible refine(M.out n.wd n.ok).mono ?_);rintro e w'⟨rfl,rfl⟩);exact⟨rfl,n,rfl⟩)|(go_at_call 234;rename_i n;((with_reducible refine(gb.out n.wd n.ok).mono ?_);rintro e w'⟨rfl,rfl⟩);exact⟨rfl,n,rfl⟩)|(go_at_call 232;rename_i n;((with_reducible refine(gq.out n.wd n.ok).mono ?_);rintro e w'⟨rfl,hb⟩);exact⟨rfl,⟨w',aD n.ok hb⟩,rfl⟩)))));refine jY ?_;intro n9;have gn:=hz.step n9.ok;have hi:=gy.below n9.ok;have gm:=cell_kept n9.ok g6;have hv:=cell_kept n9.ok g5;obtain⟨y0,y1,y2,y3,y4,yf⟩:=gn.rd.cells;have h6:=yf 1;have q1:IntKind.i64.wrap ((s.at_:Int)+5)=(s.at_:Int)+5:=gQ _ (by omega);have ga:=gn.setAt (s.at_+5) h5;rw[show((s.at_+5:Nat):Int)=(s.at_:Int)+5 by omega]at ga;have hg:=hi.box;clear yf h8 ja h7 M gb gq;(have hh:w.heap.size≠E.R:=by omega);(have gd:b≠E.R:=by omega);(go_upto_region 11 with fail);have z0:(n9.wd.setCell ⟨E.R,1,none⟩ (.int .i64 ((s.at_:Int)+5))).cell? ⟨w,0,none⟩=some (.slice (some ⟨b,off',none⟩) l.length (E.cap-s.at_)):=(gH _ _ _ _ (by exact hh.symm)).trans hg;have z1:(n9.wd.setCell ⟨E.R,1,none⟩ (.int .i64 ((s.at_:Int)+5))).cell? ⟨b,off'+1,none⟩=some (.string a.text):=(gH _ _ _ _ (by exact gd.symm)).trans gm;have z2:(n9.wd.setCell ⟨E.R,1,none⟩ (.int .i64 ((s.at_:Int)+5))).cell? ⟨b,off'+6+1,none⟩=some (.string d.text):=(gH _ _ _ _ (by exact gd.symm)).trans hv;generalize n9.wd.setCell ⟨E.R,1,none⟩ (.int .i64 ((s.at_:Int)+5))=w10 at *;go_quiet (fail);go_wp2_with fail;go_ret2;rw[HR.out];exact⟨rfl,ga.drewN _⟩
     ·have HR:Hid (res=none):=hid (g1.out.trans (d5 fun h=>hd ⟨gs.out.1 h.1,gt.out.1 h.2.1,gv.out.1 h.2.2⟩));cases n2
      case' true=>
       cases gg:(d.text.toList==[95])
       case' true=>have g2:(d.text.toList != [95])=false:=by simp[bne,gg]
       case' false=>(have g2:(d.text.toList != [95])=true:=by simp[bne,gg]);have hm:(T5.toList==(a.text++(⟨#[32,44,32]⟩:BA)++d.text++(⟨#[32,58,61,32,114,97,110,103,101]⟩:BA)).toList)=false:=by simpa[gg]using hd
      all_goals clear hd;clear g1 gu gt gw gv gs;go_wp2_with fail;refine cT n6.wd ?_;(repeat(go_big_quiet_step ((first|(go_at_call 234;rename_i n;((with_reducible refine(M.out n.wd n.ok).mono ?_);rintro e w'⟨rfl,rfl⟩);exact⟨rfl,n,rfl⟩)|(go_at_call 234;rename_i n;((with_reducible refine(gb.out n.wd n.ok).mono ?_);rintro e w'⟨rfl,rfl⟩);exact⟨rfl,n,rfl⟩)|(go_at_call 232;rename_i n;((with_reducible refine(gq.out n.wd n.ok).mono ?_);rintro e w'⟨rfl,hb⟩);exact⟨rfl,⟨w',aD n.ok hb⟩,rfl⟩)))));refine jY ?_;intro n9;go_wp2_with fail;go_ret2;rw[HR.out];exact⟨rfl,hz.step n9.ok⟩
end
section
open Go.RowKit Go.Lib Go.Proofs
attribute [local go_sem ↓] Go.wp_at_zero Go.wp_at_succ
def dY(l:List cO)(p:Int):List cO:=if eg l=true then l++[⟨6,⟨#[10]⟩,p⟩]else l
theorem uq(X:Nat)(s:ByteArray)(i:Nat)(l:List cO)(p:Int)(hl:l.length+1<=65537)(w:World)(h:f6 w X s i l)(hT:cP w)(ga:∀t∈l,t.text.size<=65536):
  Calls prog 74 #[X,p] w (rK X s w i (dY l p) (.tuple #[])):=by
 have HE:=hid (Dz X s i l w h hT ga);have O:=h.lt;cases M:eg l with
 |false=>have HL:Hid (dY l p=l):=hid (by unfold dY;rw[d5 (by rw[M];decide)]);rw[M]at HE;clear M;(go_enter func74,ntmps74);go_wp2_with fail;refine HE.out.mono ?_;rintro e w1⟨rfl,D⟩;go_wp2_with fail;go_end0;rw[HL.out];exact⟨rfl,h.below D,D.mono (jR O)⟩
 |true=>have HL:=hid (show dY l p=l++[⟨6,⟨#[10]⟩,p⟩]by unfold dY;rw[gF M]);rw[M]at HE;clear M;(go_enter func74,ntmps74);go_wp2_with fail;refine HE.out.mono ?_;rintro e w1⟨rfl,D⟩;have h1:=h.below D;have U:=h1.le;have N:=h1.most;obtain⟨lv,nv,ns,I⟩:=h1.out;have hb:=I.blk;have hO:=I.toks;obtain⟨A0,c0,gb,_⟩:=hO.form;subst gb;obtain⟨x0,x1,x2,x3,f0,f1,f2,f3⟩:=ab hb;have ge:=hb.lt;go_wp2_with (at_builtin;refine Al rfl (.tmp 10) (.tmp 13) rfl (X+1) _ _ l ⟨6,⟨#[10]⟩,p⟩ rfl _ rfl (by simp) hO (by omega) (by omega) ?_;intro g c w2 J;have gd:=hb.below J.bel (qr _);obtain⟨z0,z1,z2,z3,y0,y1,y2,y3⟩:=ab gd);go_end0;rw[HL.out];exact⟨rfl,⟨⟨_,nv,ns,I.row J⟩,U,N,by rw[gL];simpa using hl⟩,((D.mono (jR O)).trans (J.bel.mono (jZ _))).setCell (gA _) _⟩
theorem dL(s:ByteArray)(i:Nat)(D:i<s.size)(W:World):(Instr.index 9 (.string s) (.int .i64 (i:Int))).run prog W=.ok (.int .u8 (ac s i:Int)) W:=by rw[run_index_string (P:=prog) W 9 s .i64 (i:Int) underlying9];simp[ac,D];rfl
def aL(c:Int):Bool:=aJ c||av c
def bQ(l:List UInt8):Nat:=(l.takeWhile fun c=>aL (c.toNat:Int)).length
theorem nR{α:Type}[Inhabited α](p:α->Bool):∀(l:List α)(j:Nat),j<=l.length->(∀k,k<j->p (l.getD k default)=true)->(j<l.length->p (l.getD j default)=false)->(l.takeWhile p).length=j
 |[],j,h,_,_=>by simp at h;simp[h]
 |x::l,0,_,_,h=>by have:=h (by simp);rw[qB,d5 (by simpa using this)];rfl
 |x::l,j+1,I,D,J=>by have M:=D 0 (by omega);rw[qB,gF (by simpa using M),gS,nR p l j (by simpa using I) (fun k hk=>by simpa using D (k+1) (by omega)) (fun h=>by simpa using J (by simpa using h))]
theorem eZ(s:ByteArray)(i:Nat):(s.extract i s.size).data.toList=s.data.toList.drop i:=by rw[ByteArray.data_extract,Array.toList_extract];rw[qG];exact jA (by rw[gY];exact Nat.le_of_eq rfl)
theorem fa(s:ByteArray)(i:Nat):(s.extract i s.size).size=s.size-i:=by have:=jM List.length (eZ s i);rw[gY]at this;exact this
theorem RI(a:Array Value)(w:World):(callFunc 99 a).run prog w=.ok (.enter 99 a) w:=by kernel_rfl
theorem RJ(a:Array Value)(w:World):(callFunc 103 a).run prog w=.ok (.enter 103 a) w:=by kernel_rfl
theorem RK(c:Int)(w:World):Calls prog 99 #[.int .i32 c] w fun e w'=>e=.returned (.bool (aL c))/\w=w':=by
 unfold aL;cases D:aJ c<;>cases hF:av c;all_goals
  (go_enter func99,ntmps99);go_wp2_with fail;refine(ew _ _).mono ?_;rw[D];rintro e w1⟨rfl,rfl⟩;go_wp2_with fail;try
   refine(ip _ _).mono ?_
   rw[hF]
   rintro e w1⟨rfl,rfl⟩
   go_wp2_with fail
  go_ret;exact⟨rfl,rfl⟩
theorem RL(c:Int)(w:World):Calls prog 103 #[.int .i32 c] w fun e w'=>e=.returned (.bool (aL c))/\w=w':=by
 unfold aL;cases D:aJ c<;>cases hF:av c;all_goals
  (go_enter func103,ntmps103);go_wp2_with fail;refine(ew _ _).mono ?_;rw[D];rintro e w1⟨rfl,rfl⟩;go_wp2_with fail;try
   refine(ip _ _).mono ?_
   rw[hF]
   rintro e w1⟨rfl,rfl⟩
   go_wp2_with fail
  go_ret;exact⟨rfl,rfl⟩
theorem pR{c:Int}(h:128<=c):aL c=false:=by unfold aL;rw[lM h,fd h];rfl
theorem yv(f:FuncId)(hf:∀a w,(callFunc f a).run prog w=.ok (.enter f a) w)(hC:∀(c:Int)(w:World),Calls prog f #[.int .i32 c] w fun e w'=>e=.returned (.bool (aL c))/\w=w')
  (X:Nat)(s:ByteArray)(i:Nat)(l:List cO)(w:World)(h:f6 w X s i l):
  Calls prog 98 #[.pointer (some ⟨X,0,none⟩),.func (.func f) #[] #[]] w (rK X s w (i+bQ (s.data.toList.drop i)) l (.tuple #[])):=by
 obtain⟨lv,nv,ns,gs⟩:=h.out;have hb:=gs.blk;have gh:=hb.lt;have gp:=h.le;have gw:=h.most;have HH:=hid h;obtain⟨x0,x1,x2,x3,f0,f1,f2,f3⟩:=ab hb;(have p0:(0:Int)<=(i:Int):=by omega);(have p2:(i:Int)<=(s.size:Int):=by omega);(go_enter func98,ntmps98);(go_upto_region 0 with fail);go_cut [15] (fun yk wx=>∃b,yk=.pointer (some ⟨b,0,none⟩)/\wx.heap[b]? = some (.stringIter (s.extract i s.size) 0)/\w.heap.size<=b/\Below w w wx)
 case first=>go_region_law (fail);(all_goals go_wp2_with fail);all_goals go_meet;exact⟨_,rfl,qE w.drew _ 0,gA _,((gG w.heap.size w).drew.alloc (gA _) _)⟩
 case rest=>
  obtain⟨b,rfl,hit,gr,gb⟩:=hcut;have HT:=hid (eZ s i);have gt:=hid (fa s i);generalize s.extract i s.size=t at *;have gv:t.size=s.size-i:=gt.out;clear x0 x1 x2 x3 f0 f1 f2 f3;go_wp2_with fail;go_loopg [4,5,16,17] t.size (fun g _ _ _ _ wr=>∃j:Nat,j<=t.size/\t.size-j<=g/\wr.heap[b]? = some (.stringIter t j)/\Below w w wr/\(∀k,k<j->aL ((t.data.toList.getD k 0).toNat:Int)=true))
  case atStart=>exact⟨0,gP _,by omega,hit,gb,fun k hk=>by omega⟩
  case round=>
   clear hit gb;obtain⟨j,hj,hg,hit,hB,ga⟩:=hrel;have gg:=hid hit;have HA:=hid ga;clear hit ga;by_cases I:j<t.size
   ·have hw:=rf t j I;have gd:=nQ t j I;have J:=fun ty=>qP (P:=prog) wr b t j ty gg.out I;generalize hbb:(t.data.toList.getD j 0).toNat=bb at *;generalize hd:Utf8.decode t j=q at *;obtain⟨r,k⟩:=q;simp only at hw J gd;have U:aL (r:Int)=aL (bb:Int)/\(aL (r:Int)=true->k=1):=by
     rcases gd with⟨e,_⟩|⟨h1,h2⟩
     ·injection e with e1 e2;subst e1 e2;exact⟨rfl,fun _=>rfl⟩
     ·rw[pR (by omega),pR (by omega)];exact⟨rfl,by simp⟩
    have gj:=hid hbb;have D:=hid U;have j1:=qT wr b t j (j+k) gg.out;have j2:Below w w (wr.iterAt b t (j+k)):=cF hB gr;generalize wr.iterAt b t (j+k)=W1 at J j1 j2;have J1:=hid j1;have N:=HH.out.below j2;obtain⟨gn,gl,gm,M⟩:=N.out;have ge:=M.blk;obtain⟨x0,x1,x2,x3,f0,f1,f2,f3⟩:=ab ge;clear U gd j1 hd hbb;cases hW:aL (r:Int)with
    | true=>
     have hk:=D.out.2 hW;have gi:Hid (∀k',k'<j+k->aL ((t.data.toList.getD k' 0).toNat:Int)=true):=hid (by
      intro k' hk';by_cases e:k'=j
      ·subst e;rw[gj.out,<-D.out.1,hW]
      ·exact HA.out k' (by omega))
     clear x0 x1 x2 x3 f0 f1 f2 f3 D HA;go_wp2_with fail;refine(hC _ _).mono ?_;rw[hW];rintro e w1⟨rfl,rfl⟩;go_wp2_with fail;go_roundg (t.size-(j+k))
     case measure=>omega
     case rel=>exact⟨j+k,hw.2,gA _,J1.out,j2,gi.out⟩
    |false=>have HL:Hid (i+bQ (s.data.toList.drop i)=i+j):=hid (by rw[<-HT.out];congr 1;refine nR _ _ j (by simpa using hj) (fun k' hk'=>HA.out k' hk') (fun _=>?_);have:=D.out.1;rw[hW,<-gj.out]at this;exact this.symm);clear D HA;go_wp2_with fail;refine(hC _ _).mono ?_;rw[hW];rintro e w1⟨rfl,rfl⟩;have q1:IntKind.i64.wrap ((i:Int)+(j:Int))=(i:Int)+(j:Int):=gQ _ (by omega);go_wp2_with fail;refine jV (qj rfl _ _ _) rfl ?_;rw[HL.out];have O:=N.set (i+j) (by omega) (by omega);rw[show((i+j:Nat):Int)=(i:Int)+(j:Int)by omega]at O;exact⟨rfl,O,(j2.mono (jR gh)).setCell (gA _) _⟩
   ·(have gq:j=t.size:=by omega);have HL:Hid (i+bQ (s.data.toList.drop i)=s.size):=hid (by rw[<-HT.out,show bQ t.data.toList=j from nR _ _ j (by simpa using hj) (fun k' hk'=>HA.out k' hk') (fun h=>absurd h (by rw[gq];simp))];omega);have gu:=fun ty=>qF (P:=prog) wr b t j ty gg.out I;have N:=HH.out.below hB;obtain⟨gn,gl,gm,M⟩:=N.out;have ge:=M.blk;obtain⟨x0,x1,x2,x3,f0,f1,f2,f3⟩:=ab ge;go_wp2_with fail;go_end0;rw[HL.out];exact⟨rfl,N.set s.size gp (gA _),(hB.mono (jR gh)).setCell (gA _) _⟩
end
end Go.Proofs.YtiebcdeafofgdaaGreatDoor
