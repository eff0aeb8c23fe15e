/-
  Parts of the proof: Rrg3 Snl Sbyte Swhile Ssign. By an AI agent.
-/
import Derived.Test.YteialcjaiocjdaaGreatDoorJ16
import Derived.Test.YteialcjaiocjdaaGreatDoorJ01
import Derived.Test.YteialcjaiocjdaaGreatDoorJ10
open Go.Proofs.Tryz
set_option maxRecDepth 100000
set_option maxHeartbeats 8000000
namespace Go.Proofs.YteialcjaiocjdaaGreatDoor
section
open Go.RowKit Go.Lib Go.Proofs
attribute [local go_sem ↓] Go.wp_at_zero Go.wp_at_succ
attribute [local go_sem] aR aS aT
theorem qG:type_of% @List.takeWhile_cons:=@List.takeWhile_cons
theorem vp:type_of% @Go.results_none:=@Go.results_none
def Mb(E:cw):Prop:=∀s x s',bS E.c s=some (x,s')->s'.at_<=E.c.toks.length
theorem El(E:cw)(s:St)(w:World)(h:aU E w s)(hn:0<E.c.toks.length)(hS:uY E)(hR:Mb E):
  Calls prog 211 #[E.R] w (Sz E s w (bS E.c s)):=by
 obtain⟨b,off,eA,jn,hq⟩:=h.toks.2 hn;obtain⟨off',hj,hcut⟩:=Pp b off E.c.toks.length E.cap s.at_ E.c.toks rfl h.le h.fits;(have g4:E.c.toks.length-s.at_=(E.c.toks.drop s.at_).length:=by rw[jH]);rw[g4]at hj;obtain⟨c0,c1,-,-,-,-⟩:=h.cells;rw[eA]at c0;have jf:=h.lt;have jb:=h.most;have jk:=h.le;have h1:aA E s w (w.alloc (.cells #[.slice (some ⟨b,off',none⟩) (E.c.toks.drop s.at_).length (E.cap-s.at_)] 50)):=(aA.refl h).alloc _;have hy:sh (w.alloc (.cells #[.slice (some ⟨b,off',none⟩) (E.c.toks.drop s.at_).length (E.cap-s.at_)] 50)) w.heap.size b off' (E.cap-s.at_) (E.c.toks.drop s.at_):=by
  refine⟨?_,?_,by simp;omega,fun j u hu=>?_⟩
  ·exact((aq.new w 50 #[.slice (some ⟨b,off',none⟩) (E.c.toks.drop s.at_).length (E.cap-s.at_)]).cell 0).trans rfl
  ·have:=h.fits;rw[jH];omega
  ·exact cell_kept ((gH _ w).alloc (gC _) _) (hcut w hq j u hu)
 have hk:∀t∈E.c.toks.drop s.at_,t.text.size<=1000000000:=fun t ht=>hS t (qA ht);(have ho:(E.c.toks.drop s.at_).length<=1000000:=by rw[jH];omega);have g9:=hid (CJ E.c s);have g8:=hid (fun hr a b d r hl ha=>yE E.c s hr (a:=a) (b:=b) (d:=d) (r:=r) hl ha);have h2:=hid (show aP E.c s ⟨#[114,97,110,103,101]⟩=true->bS E.c s=some ((⟨#[]⟩:BA),adv s)from fun hr=>by unfold bS;rw[gG hr]);(have g7:3<=(E.c.toks.drop s.at_).length->s.at_+3<=E.c.toks.length:=by rw[jH];omega);have g0:=hid hk;have h4:=hid g7;clear hcut hq g4 hk hS g7;have je:=hR s;clear hR;generalize hrr:bS E.c s=res at *;generalize hlq:E.c.toks.drop s.at_=l at *;clear hrr;have HL:=hid hlq;clear hlq;(have jm:(0:Int)<=(s.at_:Int):=by omega);(go_enter func211,ntmps211);(go_upto_region 1 with fail);go_cut [4] (fun s4 wx=>s4=.pointer (some ⟨w,0,none⟩)/\aA E s w wx/\sh wx w.heap.size b off' (E.cap-s.at_) l)
 case first=>go_region_law (fail);(all_goals go_wp2_with fail);(all_goals go_meet);all_goals exact⟨rfl,h1.drew,hy.below (gH _ _).drew⟩
 case rest=>
  obtain⟨rfl,gp,hw⟩:=hcut;clear h1 hy c0 c1 hj;go_wp2_with fail;cases hA:aP E.c s ⟨#[114,97,110,103,101]⟩with
  |true=>have HR:=hid (h2.out hA);refine(aZ E s _ _ gp.rd hA).mono ?_;rintro e w2⟨rfl,jc⟩;have gl:=gp.trans jc;go_wp2_with fail;go_ret2;rw[HR.out];exact⟨rfl,gl⟩
  | false=>
   have N:=hid (g9.out hA);have O:=hid (fun a b d r=>g8.out hA a b d r);refine(bB E s _ _ gp.rd hA).mono ?_;rintro e w2⟨rfl,gi⟩;have gl:=gp.trans gi.moved;have I:=hw.below gi.bel;clear g9 g8 h2 hA gp hw gi;by_cases J:(l.getD 0 ⟨0,⟨#[]⟩,0⟩).kind=1
   rotate_left
   ·have HR:Hid (res=none):=hid (N.out (.inr J));(have e0:(decide (0<l.length)&&((l.getD 0 ⟨0,⟨#[]⟩,0⟩).kind==1))=false:=by rw[beq_eq_false_iff_ne.2 J,jL]);have kB:∀n:Wd (Below w2 w2),n.wd.cell? ⟨w,0,none⟩=some (.slice (some ⟨b,off',none⟩) l.length (E.cap-s.at_)):=fun n=>(I.below n.ok).box;have D:=hid (fun W(hb:Below w2 w2 W)=>si w.heap.size b off' (E.cap-s.at_) l 0 W (I.below hb));rw[show((0:Nat):Int)=0 from rfl]at D;rw[e0]at D;clear e0 J N O;go_wp2_with fail;refine cF w2 ?_;(repeat(go_big_quiet_step ((first|(go_at_call 226;rename_i n;((with_reducible refine(D.out n.wd n.ok).mono ?_);rintro e w'⟨rfl,rfl⟩);exact⟨rfl,n,rfl⟩)))));refine jQ ?_;intro n6;have gy:=I.below n6.ok;have M:=hid (fun W(hb:Below n6.wd.heap.size n6.wd W)=>D.out W (au n6.ok hb));clear kB;go_wp2_with fail;refine cF n6.wd ?_;(repeat(go_big_quiet_step ((first|(go_at_call 226;rename_i n;((with_reducible refine(M.out n.wd n.ok).mono ?_);rintro e w'⟨rfl,rfl⟩);exact⟨rfl,n,rfl⟩)))));refine jQ ?_;intro n9;go_wp2_with fail;go_ret2;rw[HR.out];exact⟨rfl,(gl.step n6.ok).step n9.ok⟩
   by_cases h3:3<=l.length
   rotate_left
   ·have HR:Hid (res=none):=hid (N.out (.inl (by omega)));have hp:0<l.length:=by
     rcases kJ l.length with h0|h0
     ·rw[jS h0]at J;simp at J
     ·exact h0
    (have e0:(decide (0<l.length)&&((l.getD 0 ⟨0,⟨#[]⟩,0⟩).kind==1))=true:=by rw[jK hp,beq_iff_eq.2 J];rfl);(have e2:(decide (2<l.length)&&((l.getD 2 ⟨0,⟨#[]⟩,0⟩).kind==1))=false:=by rw[gP (by omega),jA]);(have hL:decide ((l.length:Int)>2)=false:=by simp;omega);have kB:∀n:Wd (Below w2 w2),n.wd.cell? ⟨w,0,none⟩=some (.slice (some ⟨b,off',none⟩) l.length (E.cap-s.at_)):=fun n=>(I.below n.ok).box;have D:=hid (fun W(hb:Below w2 w2 W)=>si w.heap.size b off' (E.cap-s.at_) l 0 W (I.below hb));rw[show((0:Nat):Int)=0 from rfl]at D;have U:=hid (fun W(hb:Below w2 w2 W)=>si w.heap.size b off' (E.cap-s.at_) l 2 W (I.below hb));rw[show((2:Nat):Int)=2 from rfl]at U;rw[e0]at D;rw[e2]at U;clear e0 e2 J N O;go_wp2_with fail;refine cF w2 ?_;(repeat(go_big_quiet_step ((first|(go_at_call 226;rename_i n;((with_reducible refine(D.out n.wd n.ok).mono ?_);rintro e w'⟨rfl,rfl⟩);exact⟨rfl,n,rfl⟩)))));refine jQ ?_;intro n6;have gy:=I.below n6.ok;have M:=hid (fun W(hb:Below n6.wd.heap.size n6.wd W)=>D.out W (au n6.ok hb));have gb:=hid (fun W(hb:Below n6.wd.heap.size n6.wd W)=>U.out W (au n6.ok hb));clear kB;go_wp2_with fail;refine cF n6.wd ?_;(repeat(go_big_quiet_step ((first|(go_at_call 226;rename_i n;((with_reducible refine(M.out n.wd n.ok).mono ?_);rintro e w'⟨rfl,rfl⟩);exact⟨rfl,n,rfl⟩)|(go_at_call 226;rename_i n;((with_reducible refine(gb.out n.wd n.ok).mono ?_);rintro e w'⟨rfl,rfl⟩);exact⟨rfl,n,rfl⟩)))));refine jQ ?_;intro n9;go_wp2_with fail;go_ret2;rw[HR.out];exact⟨rfl,(gl.step n6.ok).step n9.ok⟩
   obtain⟨a,gk⟩:∃a,l[0]=a:=⟨_,rfl⟩;obtain⟨d,gj⟩:∃d,l[2]=d:=⟨_,rfl⟩;obtain⟨bt,r,he⟩:∃bt r,l=a::bt::d::r:=by
    rcases l with _|⟨x,_|⟨y,_|⟨z,r⟩⟩⟩
    ·simp at h3
    ·simp at h3
    ·simp at h3
    ·simp at gk gj;subst gk gj;exact⟨y,r,rfl⟩
   (have jj:a.text.size<=1000000000:=by rw[<-gk];exact g0.out _ (gS _));(have ji:d.text.size<=1000000000:=by rw[<-gj];exact g0.out _ (gS _));(have jd:a.kind=1:=by rw[jB,gT (by omega)]at J;simpa[gk]using J);(have e0:(decide (0<l.length)&&((l.getD 0 ⟨0,⟨#[]⟩,0⟩).kind==1))=true:=by rw[jK (by omega),beq_iff_eq.2 J];rfl);(have e2:(decide (2<l.length)&&((l.getD 2 ⟨0,⟨#[]⟩,0⟩).kind==1))=(d.kind==1):=by rw[jB,gT (by omega),gj,jK (show 2<l.length by omega)];rfl);have ge:=hid (show res=if a.text≠(⟨#[95]⟩:BA)/\dl (l.take 3)=a.text++(⟨#[32,58,61,32,114,97,110,103,101]⟩:BA)then some (a.text,{ s with at_:=s.at_+3 })
     else if d.kind=1/\d.text≠(⟨#[95]⟩:BA)/\dl (l.take 5)=a.text++(⟨#[32,44,32]⟩:BA)++d.text++(⟨#[32,58,61,32,114,97,110,103,101]⟩:BA)then some (a.text++(⟨#[44]⟩:BA)++d.text,{ s with at_:=s.at_+5 })else none by have:=O.out a bt d r he jd;rw[<-he]at this;exact this)
   (have gx:w2.cell? ⟨b,off'+1,none⟩=some (.string a.text):=by have:=(I.tok 0 (by omega)).2.1;rw[gk]at this;simpa using this);(have hf:w2.cell? ⟨b,off'+6+1,none⟩=some (.string d.text):=by have:=(I.tok 2 (by omega)).2.1;rw[gj]at this;exact this);(have hL:decide ((l.length:Int)>2)=true:=by simp;omega);(have hp:(0:Int)<(l.length:Int):=by omega);(have jl:(2:Int)<(l.length:Int):=by omega);(have jh:0<l.length:=by omega);(have jg:2<l.length:=by omega);have gu:=hid (show(a.text≠(⟨#[95]⟩:BA))↔(a.text.toList==[95])=false by rw[show([95]:List UInt8)=((⟨#[95]⟩:BA):ByteArray).toList from by kernel_rfl,cz];simp);have gt:=hid (show(d.text≠(⟨#[95]⟩:BA))↔(d.text.toList==[95])=false by rw[show([95]:List UInt8)=((⟨#[95]⟩:BA):ByteArray).toList from by kernel_rfl,cz];simp);have gw:=hid (show(dl (l.take 3)=a.text++(⟨#[32,58,61,32,114,97,110,103,101]⟩:BA))↔((dl (l.take 3)).toList==(a.text++(⟨#[32,58,61,32,114,97,110,103,101]⟩:BA)).toList)=true by rw[cz];simp);have gv:=hid (show(dl (l.take 5)=a.text++(⟨#[32,44,32]⟩:BA)++d.text++(⟨#[32,58,61,32,114,97,110,103,101]⟩:BA))↔((dl (l.take 5)).toList==(a.text++(⟨#[32,44,32]⟩:BA)++d.text++(⟨#[32,58,61,32,114,97,110,103,101]⟩:BA)).toList)=true by rw[cz];simp);have kB:∀n:Wd (Below w2 w2),n.wd.cell? ⟨w,0,none⟩=some (.slice (some ⟨b,off',none⟩) l.length (E.cap-s.at_)):=fun n=>(I.below n.ok).box;have D:=hid (fun W(hb:Below w2 w2 W)=>si w.heap.size b off' (E.cap-s.at_) l 0 W (I.below hb));rw[show((0:Nat):Int)=0 from rfl]at D;have kA:∀n:Wd (Below w2 w2),n.wd.cell? ⟨b,off'+1,none⟩=some (.string a.text):=fun n=>cell_kept n.ok gx;have kD:∀n:Wd (Below w2 w2),n.wd.cell? ⟨b,off'+6+1,none⟩=some (.string d.text):=fun n=>cell_kept n.ok hf;have U:=hid (fun W(hb:Below w2 w2 W)=>si w.heap.size b off' (E.cap-s.at_) l 2 W (I.below hb));rw[show((2:Nat):Int)=2 from rfl]at U;have gr:=hid (fun W(hb:Below w2 w2 W)=>y8 w.heap.size b off' (E.cap-s.at_) l 3 (by omega) (by omega) h3 ho g0.out W (I.below hb));rw[show((3:Nat):Int)=3 from rfl]at gr;have gz:=hid (fun W(hb:Below w2 w2 W)=>y8 w.heap.size b off' (E.cap-s.at_) l 5 (by omega) (by omega) h3 ho g0.out W (I.below hb));rw[show((5:Nat):Int)=5 from rfl]at gz;rw[e0]at D;rw[e2]at U;clear e0 e2 J N O gk gj he;generalize dl (l.take 3)=T3 at *;generalize dl (l.take 5)=T5 at *;generalize hdk:(d.kind==1)=n2 at *;have gs:=hid (show(d.kind=1)↔n2=true by rw[<-hdk];simp);clear hdk;by_cases hc:(a.text.toList==[95])=false/\(T3.toList==(a.text++(⟨#[32,58,61,32,114,97,110,103,101]⟩:BA)).toList)=true
   ·obtain⟨gh,gi⟩:=hc;(have g3:(a.text.toList != [95])=true:=by simp[bne,gh]);have HR:=hid (ge.out.trans (gG ⟨gu.out.2 gh,gw.out.2 gi⟩));clear ge gu gt gw gv gs gz U;go_wp2_with fail;refine cF w2 ?_;(repeat(go_big_quiet_step ((first|(go_at_call 226;rename_i n;((with_reducible refine(D.out n.wd n.ok).mono ?_);rintro e w'⟨rfl,rfl⟩);exact⟨rfl,n,rfl⟩)|(go_at_call 224;rename_i n;((with_reducible refine(gr.out n.wd n.ok).mono ?_);rintro e w'⟨rfl,hb⟩);exact⟨rfl,⟨w',au n.ok hb⟩,rfl⟩)))));refine jQ ?_;intro n6;have gn:=gl.step n6.ok;have hi:=I.below n6.ok;have gm:=cell_kept n6.ok gx;obtain⟨y0,y1,y2,y3,y4,yf⟩:=gn.rd.cells;have h6:=yf 1;have q1:IntKind.i64.wrap ((s.at_:Int)+3)=(s.at_:Int)+3:=jC _ (by omega);have ga:=gn.setAt (s.at_+3) (h4.out h3);rw[show((s.at_+3:Nat):Int)=(s.at_:Int)+3 by omega]at ga;have hg:=hi.box;clear yf kB kA kD D gr;(have hh:w.heap.size≠E.R:=by omega);(have gd:b≠E.R:=by omega);(go_upto_region 8 with fail);have z0:(n6.wd.setCell ⟨E.R,1,none⟩ (.int .i64 ((s.at_:Int)+3))).cell? ⟨w,0,none⟩=some (.slice (some ⟨b,off',none⟩) l.length (E.cap-s.at_)):=(gJ _ _ _ _ (by exact hh.symm)).trans hg;have z1:(n6.wd.setCell ⟨E.R,1,none⟩ (.int .i64 ((s.at_:Int)+3))).cell? ⟨b,off'+1,none⟩=some (.string a.text):=(gJ _ _ _ _ (by exact gd.symm)).trans gm;generalize n6.wd.setCell ⟨E.R,1,none⟩ (.int .i64 ((s.at_:Int)+3))=w10 at *;go_wp2_with fail;go_ret2;rw[HR.out];exact⟨rfl,ga⟩
   ·have g1:=hid (ge.out.trans (gB (fun h=>hc ⟨gu.out.1 h.1,gw.out.1 h.2⟩)));cases gh:(a.text.toList==[95])
    case' true=>have g3:(a.text.toList != [95])=false:=by simp[bne,gh]
    case' false=>(have g3:(a.text.toList != [95])=true:=by simp[bne,gh]);have gi:(T3.toList==(a.text++(⟨#[32,58,61,32,114,97,110,103,101]⟩:BA)).toList)=false:=by simpa[gh]using hc
    all_goals
     clear ge hc;go_wp2_with fail;refine cF w2 ?_;(repeat(go_big_quiet_step ((first|(go_at_call 226;rename_i n;((with_reducible refine(D.out n.wd n.ok).mono ?_);rintro e w'⟨rfl,rfl⟩);exact⟨rfl,n,rfl⟩)|(go_at_call 224;rename_i n;((with_reducible refine(gr.out n.wd n.ok).mono ?_);rintro e w'⟨rfl,hb⟩);exact⟨rfl,⟨w',au n.ok hb⟩,rfl⟩)))));refine jQ ?_;intro n6;have gy:=I.below n6.ok;have hz:=gl.step n6.ok;have g6:=cell_kept n6.ok gx;have g5:=cell_kept n6.ok hf;have h8:∀n:Wd (Below n6.wd.heap.size n6.wd),n.wd.cell? ⟨w,0,none⟩=some (.slice (some ⟨b,off',none⟩) l.length (E.cap-s.at_)):=fun n=>(gy.below n.ok).box;have ja:∀n:Wd (Below n6.wd.heap.size n6.wd),n.wd.cell? ⟨b,off'+1,none⟩=some (.string a.text):=fun n=>cell_kept n.ok g6;have h7:∀n:Wd (Below n6.wd.heap.size n6.wd),n.wd.cell? ⟨b,off'+6+1,none⟩=some (.string d.text):=fun n=>cell_kept n.ok g5;have M:=hid (fun W(hb:Below n6.wd.heap.size n6.wd W)=>D.out W (au n6.ok hb));have gb:=hid (fun W(hb:Below n6.wd.heap.size n6.wd W)=>U.out W (au n6.ok hb));have gq:=hid (fun W(hb:Below n6.wd.heap.size n6.wd W)=>gz.out W (au n6.ok hb));clear kB kA kD D U gr gz gx hf;by_cases hd:n2=true/\(d.text.toList==[95])=false/\(T5.toList==(a.text++(⟨#[32,44,32]⟩:BA)++d.text++(⟨#[32,58,61,32,114,97,110,103,101]⟩:BA)).toList)=true
     ·obtain⟨rfl,gg,hm⟩:=hd;(have g2:(d.text.toList != [95])=true:=by simp[bne,gg]);have HR:=hid (show res=some (a.text++(⟨#[44]⟩:BA)++d.text,{ s with at_:=s.at_+5 })by rw[g1.out,gG ⟨gs.out.2 rfl,gt.out.2 gg,gv.out.2 hm⟩]);have h5:s.at_+5<=E.c.toks.length:=je _ _ HR.out;clear g1 gu gt gw gv gs;go_wp2_with fail;refine cF n6.wd ?_;(repeat(go_big_quiet_step ((first|(go_at_call 226;rename_i n;((with_reducible refine(M.out n.wd n.ok).mono ?_);rintro e w'⟨rfl,rfl⟩);exact⟨rfl,n,rfl⟩)|(go_at_call 226;rename_i n;((with_reducible refine(gb.out n.wd n.ok).mono ?_);rintro e w'⟨rfl,rfl⟩);exact⟨rfl,n,rfl⟩)|(go_at_call 224;rename_i n;((with_reducible refine(gq.out n.wd n.ok).mono ?_);rintro e w'⟨rfl,hb⟩);exact⟨rfl,⟨w',au n.ok hb⟩,rfl⟩)))));refine jQ ?_;intro n9;have gn:=hz.step n9.ok;have hi:=gy.below n9.ok;have gm:=cell_kept n9.ok g6;have hv:=cell_kept n9.ok g5;obtain⟨y0,y1,y2,y3,y4,yf⟩:=gn.rd.cells;have h6:=yf 1;have q1:IntKind.i64.wrap ((s.at_:Int)+5)=(s.at_:Int)+5:=jC _ (by omega);have ga:=gn.setAt (s.at_+5) h5;rw[show((s.at_+5:Nat):Int)=(s.at_:Int)+5 by omega]at ga;have hg:=hi.box;clear yf h8 ja h7 M gb gq;(have hh:w.heap.size≠E.R:=by omega);(have gd:b≠E.R:=by omega);(go_upto_region 11 with fail);have z0:(n9.wd.setCell ⟨E.R,1,none⟩ (.int .i64 ((s.at_:Int)+5))).cell? ⟨w,0,none⟩=some (.slice (some ⟨b,off',none⟩) l.length (E.cap-s.at_)):=(gJ _ _ _ _ (by exact hh.symm)).trans hg;have z1:(n9.wd.setCell ⟨E.R,1,none⟩ (.int .i64 ((s.at_:Int)+5))).cell? ⟨b,off'+1,none⟩=some (.string a.text):=(gJ _ _ _ _ (by exact gd.symm)).trans gm;have z2:(n9.wd.setCell ⟨E.R,1,none⟩ (.int .i64 ((s.at_:Int)+5))).cell? ⟨b,off'+6+1,none⟩=some (.string d.text):=(gJ _ _ _ _ (by exact gd.symm)).trans hv;generalize n9.wd.setCell ⟨E.R,1,none⟩ (.int .i64 ((s.at_:Int)+5))=w10 at *;go_quiet (fail);go_wp2_with fail;go_ret2;rw[HR.out];exact⟨rfl,ga.drewN _⟩
     ·have HR:Hid (res=none):=hid (g1.out.trans (gB fun h=>hd ⟨gs.out.1 h.1,gt.out.1 h.2.1,gv.out.1 h.2.2⟩));cases n2
      case' true=>
       cases gg:(d.text.toList==[95])
       case' true=>have g2:(d.text.toList != [95])=false:=by simp[bne,gg]
       case' false=>(have g2:(d.text.toList != [95])=true:=by simp[bne,gg]);have hm:(T5.toList==(a.text++(⟨#[32,44,32]⟩:BA)++d.text++(⟨#[32,58,61,32,114,97,110,103,101]⟩:BA)).toList)=false:=by simpa[gg]using hd
      all_goals clear hd;clear g1 gu gt gw gv gs;go_wp2_with fail;refine cF n6.wd ?_;(repeat(go_big_quiet_step ((first|(go_at_call 226;rename_i n;((with_reducible refine(M.out n.wd n.ok).mono ?_);rintro e w'⟨rfl,rfl⟩);exact⟨rfl,n,rfl⟩)|(go_at_call 226;rename_i n;((with_reducible refine(gb.out n.wd n.ok).mono ?_);rintro e w'⟨rfl,rfl⟩);exact⟨rfl,n,rfl⟩)|(go_at_call 224;rename_i n;((with_reducible refine(gq.out n.wd n.ok).mono ?_);rintro e w'⟨rfl,hb⟩);exact⟨rfl,⟨w',au n.ok hb⟩,rfl⟩)))));refine jQ ?_;intro n9;go_wp2_with fail;go_ret2;rw[HR.out];exact⟨rfl,hz.step n9.ok⟩
end
section
open Go.RowKit Go.Lib Go.Proofs
attribute [local go_sem ↓] Go.wp_at_zero Go.wp_at_succ
def lk(l:List ef)(p:Int):List ef:=if dU l=true then l++[⟨6,⟨#[10]⟩,p⟩]else l
theorem Ch(X:Nat)(s:ByteArray)(i:Nat)(l:List ef)(p:Int)(hl:l.length+1<=65537)(w:World)(h:mc w X s i l)(hT:dw w)(ga:∀t∈l,t.text.size<=65536):
  Calls prog 86 #[X,p] w (yO X s w i (lk l p) (.tuple #[])):=by
 have HE:=hid (DU X s i l w h hT ga);have O:=h.lt;cases M:dU l with
 |false=>have HL:Hid (lk l p=l):=hid (by unfold lk;rw[gB (by rw[M];decide)]);rw[M]at HE;clear M;(go_enter func86,ntmps86);go_wp2_with fail;refine HE.out.mono ?_;rintro e w1⟨rfl,D⟩;go_wp2_with fail;go_end0;rw[HL.out];exact⟨rfl,h.below D,D.mono (qr O)⟩
 |true=>have HL:=hid (show lk l p=l++[⟨6,⟨#[10]⟩,p⟩]by unfold lk;rw[gG M]);rw[M]at HE;clear M;(go_enter func86,ntmps86);go_wp2_with fail;refine HE.out.mono ?_;rintro e w1⟨rfl,D⟩;have h1:=h.below D;have U:=h1.le;have N:=h1.most;obtain⟨lv,I⟩:=h1.out;have hb:=I.blk;have hO:=I.toks;obtain⟨A0,c0,gb,_⟩:=hO.form;subst gb;obtain⟨x0,x1,x2,x3,f0,f1,f2,f3⟩:=ab hb;have ge:=hb.lt;go_wp2_with (at_builtin;refine AP rfl (.tmp 10) (.tmp 13) rfl (X+1) _ _ l ⟨6,⟨#[10]⟩,p⟩ rfl _ rfl (by simp) hO (by omega) (by omega) ?_;intro g c w2 J;have gd:=hb.below J.bel (vo _);obtain⟨z0,z1,z2,z3,y0,y1,y2,y3⟩:=ab gd);go_end0;rw[HL.out];exact⟨rfl,⟨⟨_,I.row J⟩,U,N,by rw[gM];simpa using hl⟩,((D.mono (qr O)).trans (J.bel.mono (jN _))).setCell (gC _) _⟩
theorem lV(s:ByteArray)(i:Nat)(D:i<s.size)(W:World):(Instr.index 9 (.string s) (.int .i64 (i:Int))).run prog W=.ok (.int .u8 (aI s i:Int)) W:=by rw[run_index_string (P:=prog) W 9 s .i64 (i:Int) underlying9];simp[aI,D];rfl
def a7(c:Int):Bool:=aL c||aC c
def d5(l:List UInt8):Nat:=(l.takeWhile fun c=>a7 (c.toNat:Int)).length
theorem oe{α:Type}[Inhabited α](p:α->Bool):∀(l:List α)(j:Nat),j<=l.length->(∀k,k<j->p (l.getD k default)=true)->(j<l.length->p (l.getD j default)=false)->(l.takeWhile p).length=j
 |[],j,h,_,_=>by simp at h;simp[h]
 |x::l,0,_,_,h=>by have:=h (by simp);rw[qG,gB (by simpa using this)];rfl
 |x::l,j+1,I,D,J=>by have M:=D 0 (by omega);rw[qG,gG (by simpa using M),gO,oe p l j (by simpa using I) (fun k hk=>by simpa using D (k+1) (by omega)) (fun h=>by simpa using J (by simpa using h))]
theorem mg(s:ByteArray)(i:Nat):(s.extract i s.size).data.toList=s.data.toList.drop i:=by rw[ByteArray.data_extract,Array.toList_extract];rw[qO];exact gV (by rw[jH];exact Nat.le_of_eq rfl)
theorem og(s:ByteArray)(i:Nat):(s.extract i s.size).size=s.size-i:=by have:=jM List.length (mg s i);rw[jH]at this;exact this
theorem Sc(a:Array Value)(w:World):(callFunc 124 a).run prog w=.ok (.enter 124 a) w:=by kernel_rfl
theorem Sd(a:Array Value)(w:World):(callFunc 128 a).run prog w=.ok (.enter 128 a) w:=by kernel_rfl
theorem Se(c:Int)(w:World):Calls prog 124 #[.int .i32 c] w fun e w'=>e=.returned (.bool (a7 c))/\w=w':=by
 unfold a7;cases D:aL c<;>cases hF:aC c;all_goals
  (go_enter func124,ntmps124);go_wp2_with fail;refine(iM _ _).mono ?_;rw[D];rintro e w1⟨rfl,rfl⟩;go_wp2_with fail;try
   refine(mx _ _).mono ?_
   rw[hF]
   rintro e w1⟨rfl,rfl⟩
   go_wp2_with fail
  go_ret;exact⟨rfl,rfl⟩
theorem Sf(c:Int)(w:World):Calls prog 128 #[.int .i32 c] w fun e w'=>e=.returned (.bool (a7 c))/\w=w':=by
 unfold a7;cases D:aL c<;>cases hF:aC c;all_goals
  (go_enter func128,ntmps128);go_wp2_with fail;refine(iM _ _).mono ?_;rw[D];rintro e w1⟨rfl,rfl⟩;go_wp2_with fail;try
   refine(mx _ _).mono ?_
   rw[hF]
   rintro e w1⟨rfl,rfl⟩
   go_wp2_with fail
  go_ret;exact⟨rfl,rfl⟩
theorem rc{c:Int}(h:128<=c):a7 c=false:=by unfold a7;rw[l6 h,fo h];rfl
theorem yT(f:FuncId)(hf:∀a w,(callFunc f a).run prog w=.ok (.enter f a) w)(hC:∀(c:Int)(w:World),Calls prog f #[.int .i32 c] w fun e w'=>e=.returned (.bool (a7 c))/\w=w')
  (X:Nat)(s:ByteArray)(i:Nat)(l:List ef)(w:World)(h:mc w X s i l):
  Calls prog 123 #[.pointer (some ⟨X,0,none⟩),.func (.func f) #[] #[]] w (yO X s w (i+d5 (s.data.toList.drop i)) l (.tuple #[])):=by
 obtain⟨lv,gp⟩:=h.out;have hb:=gp.blk;have gh:=hb.lt;have gu:=h.le;have gt:=h.most;have HH:=hid h;obtain⟨x0,x1,x2,x3,f0,f1,f2,f3⟩:=ab hb;(have p0:(0:Int)<=(i:Int):=by omega);(have p2:(i:Int)<=(s.size:Int):=by omega);(go_enter func123,ntmps123);(go_upto_region 0 with fail);go_cut [15] (fun yk wx=>∃b,yk=.pointer (some ⟨b,0,none⟩)/\wx.heap[b]? = some (.stringIter (s.extract i s.size) 0)/\w.heap.size<=b/\Below w w wx)
 case first=>go_region_law (fail);(all_goals go_wp2_with fail);all_goals go_meet;exact⟨_,rfl,qF w.drew _ 0,gC _,((gH w.heap.size w).drew.alloc (gC _) _)⟩
 case rest=>
  obtain⟨b,rfl,hit,gn,gb⟩:=hcut;have HT:=hid (mg s i);have gq:=hid (og s i);generalize s.extract i s.size=t at *;have gs:t.size=s.size-i:=gq.out;clear x0 x1 x2 x3 f0 f1 f2 f3;go_wp2_with fail;go_loopg [4,5,16,17] t.size (fun g _ _ _ _ wr=>∃j:Nat,j<=t.size/\t.size-j<=g/\wr.heap[b]? = some (.stringIter t j)/\Below w w wr/\(∀k,k<j->a7 ((t.data.toList.getD k 0).toNat:Int)=true))
  case atStart=>exact⟨0,gQ _,by omega,hit,gb,fun k hk=>by omega⟩
  case round=>
   clear hit gb;obtain⟨j,hj,hg,hit,hB,ga⟩:=hrel;have gg:=hid hit;have HA:=hid ga;clear hit ga;by_cases I:j<t.size
   ·have hw:=ro t j I;have gd:=od t j I;have J:=fun ty=>qP (P:=prog) wr b t j ty gg.out I;generalize hbb:(t.data.toList.getD j 0).toNat=bb at *;generalize hd:Utf8.decode t j=q at *;obtain⟨r,k⟩:=q;simp only at hw J gd;have U:a7 (r:Int)=a7 (bb:Int)/\(a7 (r:Int)=true->k=1):=by
     rcases gd with⟨e,_⟩|⟨h1,h2⟩
     ·injection e with e1 e2;subst e1 e2;exact⟨rfl,fun _=>rfl⟩
     ·rw[rc (by omega),rc (by omega)];exact⟨rfl,by simp⟩
    have gj:=hid hbb;have D:=hid U;have j1:=iterAt_heap wr b t j (j+k) gg.out;have j2:Below w w (wr.iterAt b t (j+k)):=eD hB gn;generalize wr.iterAt b t (j+k)=W1 at J j1 j2;have J1:=hid j1;have N:=HH.out.below j2;obtain⟨gl,M⟩:=N.out;have ge:=M.blk;obtain⟨x0,x1,x2,x3,f0,f1,f2,f3⟩:=ab ge;clear U gd j1 hd hbb;cases hW:a7 (r:Int)with
    | true=>
     have hk:=D.out.2 hW;have gi:Hid (∀k',k'<j+k->a7 ((t.data.toList.getD k' 0).toNat:Int)=true):=hid (by
      intro k' hk';by_cases e:k'=j
      ·subst e;rw[gj.out,<-D.out.1,hW]
      ·exact HA.out k' (by omega))
     clear x0 x1 x2 x3 f0 f1 f2 f3 D HA;go_wp2_with fail;refine(hC _ _).mono ?_;rw[hW];rintro e w1⟨rfl,rfl⟩;go_wp2_with fail;go_roundg (t.size-(j+k))
     case measure=>omega
     case rel=>exact⟨j+k,hw.2,gC _,J1.out,j2,gi.out⟩
    |false=>have HL:Hid (i+d5 (s.data.toList.drop i)=i+j):=hid (by rw[<-HT.out];congr 1;refine oe _ _ j (by simpa using hj) (fun k' hk'=>HA.out k' hk') (fun _=>?_);have:=D.out.1;rw[hW,<-gj.out]at this;exact this.symm);clear D HA;go_wp2_with fail;refine(hC _ _).mono ?_;rw[hW];rintro e w1⟨rfl,rfl⟩;have q1:IntKind.i64.wrap ((i:Int)+(j:Int))=(i:Int)+(j:Int):=jC _ (by omega);go_wp2_with fail;refine jY (vp rfl _ _ _) rfl ?_;rw[HL.out];have O:=N.set (i+j) (by omega);rw[show((i+j:Nat):Int)=(i:Int)+(j:Int)by omega]at O;exact⟨rfl,O,(j2.mono (qr gh)).setCell (gC _) _⟩
   ·(have gm:j=t.size:=by omega);have HL:Hid (i+d5 (s.data.toList.drop i)=s.size):=hid (by rw[<-HT.out,show d5 t.data.toList=j from oe _ _ j (by simpa using hj) (fun k' hk'=>HA.out k' hk') (fun h=>absurd h (by rw[gm];simp))];omega);have gr:=fun ty=>qQ (P:=prog) wr b t j ty gg.out I;have N:=HH.out.below hB;obtain⟨gl,M⟩:=N.out;have ge:=M.blk;obtain⟨x0,x1,x2,x3,f0,f1,f2,f3⟩:=ab ge;go_wp2_with fail;go_end0;rw[HL.out];exact⟨rfl,N.set s.size (gC _),(hB.mono (qr gh)).setCell (gC _) _⟩
theorem ne(s p:ByteArray)(w:World):Calls prog 120 #[s,p] w fun e w'=>e=.returned (.bool (Lib.hasPrefix s.data.toList p.data.toList))/\w=w':=
 (Any.strings_HasPrefix Tryz.laysPrefix s p w).mono fun _ _ h=>⟨h.1,h.2.symm⟩
theorem DW(X:Nat)(p:Int)(w:World):Calls prog 181 #[X,.bool true,p] w fun e w'=>e=.returned (.tuple #[])/\w=w':=by(go_enter func181,ntmps181);go_wp2_with fail;go_end0;exact⟨rfl,rfl⟩
inductive T0 where
 |go (i:Nat) (l:List ef)
 |out
def pY:ByteArray:=(⟨#[60,60,61,32,62,62,61,32,38,94,61,32,46,46,46]⟩:BA)
def rq:ByteArray:=(⟨#[38,38,32,124,124,32,61,61,32,33,61,32,60,61,32,62,61,32,58,61,32,43,43,32,45,45,32,43,61,32,45,61,32,42,61,32,47,61,32,37,61,32,38,61,32,124,61,32,94,61,32,60,60,32,62,62,32,38,94,32,60,45]⟩:BA)
def sS:ByteArray:=(⟨#[43,32,45,32,42,32,47,32,37,32,38,32,124,32,94,32,60,32,62,32,61,32,33,32,40,32,41,32,91,32,93,32,123,32,125,32,44,32,59,32,46,32,58,32,126]⟩:BA)
theorem Cl{fn:Func}{q:Tmp}{ty:TypeId}(I:fn.results = #[.cell q 141])(tmps:Array Value){w:World}{g:Nat}{a b c:Value}(J:tmps.getD q undef=.pointer (some ⟨g,0,none⟩))(hb:aq w g ty #[a,b,c]):
  (results fn tmps).run prog w=.ok (.agg #[a,b,c]) w:=by obtain⟨O,N,M⟩:=TI hb;unfold results;rw[I];(have D:tmps[q]?.getD undef=.pointer (some ⟨g,0,none⟩):=by simpa using J);simp[D,go_sem,O,N,M]
theorem GI(w:World):Calls prog 182 #[] w fun e w'=>e=.returned (.agg #[.string pY,.string rq,.string sS])/\Below w w w':=by(go_enter func182,ntmps182);go_wp2_with fail;refine jY (Cl (ty:=141) rfl _ (g:=w.heap.size) (by rfl) (a:=.string pY) (b:=.string rq) (c:=.string sS) (aq.new w _ _)) rfl ?_;exact⟨rfl,(gH _ _).alloc (gC _) _⟩
theorem AT(a b c:ByteArray)(i:Nat)(D:i<3)(w:World):(Instr.index 141 (.agg #[a,b,c]) (.int .i64 (i:Int))).run prog w=.ok (.string (if i=0 then a else if i=1 then b else c)) w:=by
 rcases i with _|_|_|i
 ·simp[Instr.index,run_underlying underlying141,asIntOf,go_sem]
 ·simp[Instr.index,run_underlying underlying141,asIntOf,go_sem]
 ·simp[Instr.index,run_underlying underlying141,asIntOf,go_sem]
 ·omega
def mS(row:ByteArray)(t:ByteArray)(n:Nat):Bool:=Lib.contains ((⟨#[32]⟩++row++⟨#[32]⟩:ByteArray)).data.toList ((⟨#[32]⟩++t.extract 0 n++⟨#[32]⟩:ByteArray)).data.toList
def mT(s:ByteArray)(i:Nat):Nat:=
 if 3<=s.size-i/\mS pY (s.extract i s.size) 3=true then 3
 else if 2<=s.size-i/\mS rq (s.extract i s.size) 2=true then 2
 else if 1<=s.size-i/\mS sS (s.extract i s.size) 1=true then 1
 else 0
def Fq(s:ByteArray)(i:Nat)(l:List ef):T0:=
 if mT s i=0 then .out else .go (i+mT s i) (l++[⟨6,s.extract i (i+mT s i),i⟩])
theorem Lu(X:Nat)(s:ByteArray)(i:Nat)(l:List ef)(w:World)(h:mc w X s i l)(hT:dw w)(hl:l.length+1<=65537)(n:Nat)(hn:mT s i=n)(ge:n≠0):
  Calls prog 130 #[X] w (yO X s w (i+n) (l++[⟨6,s.extract i (i+n),i⟩]) (.tuple #[])):=by
 obtain⟨lv,ga⟩:=h.out;have hb:=ga.blk;have gv:=h.le;have gu:=h.most;have gg:=hb.lt;have HH:=hid h;obtain⟨x0,x1,x2,x3,-,-,-,-⟩:=ab hb;(have p0:(0:Int)<=(i:Int):=by omega);(have p2:(i:Int)<=(s.size:Int):=by omega);have N:=og s i;(have D:(if 3<=(s.extract i s.size).size/\mS pY (s.extract i s.size) 3=true then 3 else if 2<=(s.extract i s.size).size/\mS rq (s.extract i s.size) 2=true then 2 else if 1<=(s.extract i s.size).size/\mS sS (s.extract i s.size) 1=true then 1 else 0)=n:=by rw[<-hn,N];rfl);have H3:=hid (fun w'(hb:Below w w w')=>fk (⟨#[32]⟩++pY++⟨#[32]⟩) (⟨#[32]⟩++(s.extract i s.size).extract 0 3++⟨#[32]⟩) w' (hT.below hb) (jZ (show _<=100 by decide +kernel) (by omega)));have H2:=hid (fun w'(hb:Below w w w')=>fk (⟨#[32]⟩++rq++⟨#[32]⟩) (⟨#[32]⟩++(s.extract i s.size).extract 0 2++⟨#[32]⟩) w' (hT.below hb) (jZ (show _<=100 by decide +kernel) (by omega)));have H1:=hid (fun w'(hb:Below w w w')=>fk (⟨#[32]⟩++sS++⟨#[32]⟩) (⟨#[32]⟩++(s.extract i s.size).extract 0 1++⟨#[32]⟩) w' (hT.below hb) (jZ (show _<=100 by decide +kernel) (by omega)));rw[show Lib.contains ((⟨#[32]⟩++sS++⟨#[32]⟩:ByteArray)).data.toList ((⟨#[32]⟩++(s.extract i s.size).extract 0 1++⟨#[32]⟩:ByteArray)).data.toList=mS sS (s.extract i s.size) 1 from rfl]at H1;rw[show Lib.contains ((⟨#[32]⟩++rq++⟨#[32]⟩:ByteArray)).data.toList ((⟨#[32]⟩++(s.extract i s.size).extract 0 2++⟨#[32]⟩:ByteArray)).data.toList=mS rq (s.extract i s.size) 2 from rfl]at H2;rw[show Lib.contains ((⟨#[32]⟩++pY++⟨#[32]⟩:ByteArray)).data.toList ((⟨#[32]⟩++(s.extract i s.size).extract 0 3++⟨#[32]⟩:ByteArray)).data.toList=mS pY (s.extract i s.size) 3 from rfl]at H3;clear hT hn;generalize mS pY (s.extract i s.size) 3=c3 at *;generalize mS rq (s.extract i s.size) 2=c2 at *;generalize mS sS (s.extract i s.size) 1=c1 at *;(have g3:pY.size<=100:=by decide +kernel);(have g2:rq.size<=100:=by decide +kernel);(have g1:sS.size<=100:=by decide +kernel);have gb:=hid (fun w=>GI w);generalize pY=r3 at *;generalize rq=r2 at *;generalize sS=r1 at *;(go_enter func130,ntmps130);go_wp2_with fail;go_quiet (fail);have hB:=bK (gH w.heap.size w) nq;generalize w.drewN nq=w1 at *;generalize s.extract i s.size=t at *;clear x0 x1 x2 x3;go_wp2_with fail;refine(gb.out _).mono ?_;rintro e w2⟨rfl,U⟩;have I:=au hB U;clear U gb;have HQ:=hid (HH.out.below I);obtain⟨gp,J⟩:=HQ.out.out;obtain⟨x0,x1,x2,x3,f0,f1,f2,f3⟩:=ab J.blk;have gs:∀W:World,(Instr.index 141 (.agg #[.string r3,.string r2,.string r1]) (.int .i64 0)).run prog W=.ok (.string r3) W:=fun W=>AT r3 r2 r1 0 (by omega) W;have gr:∀W:World,(Instr.index 141 (.agg #[.string r3,.string r2,.string r1]) (.int .i64 1)).run prog W=.ok (.string r2) W:=fun W=>AT r3 r2 r1 1 (by omega) W;have gq:∀W:World,(Instr.index 141 (.agg #[.string r3,.string r2,.string r1]) (.int .i64 2)).run prog W=.ok (.string r1) W:=fun W=>AT r3 r2 r1 2 (by omega) W;have O:i+n<=s.size/\n<=3:=by
  revert D;split
  ·omega
  ·split
   ·omega
   ·split<;>omega
 have gk:=hid (fun w'(h:mc w' X s (i+n) l)=>ud X s (i+n) l 6 i (by omega) hl w' h);have gi:=hid (HQ.out.set (i+n) O.1);have gj:=hid (((I.mono (qr gg)).setCell (p:=⟨X,1,none⟩) (gC _) (.int .i64 ((i+n:Nat):Int))));have M:(3<=t.size/\c3=true/\n=3)\/(3<=t.size/\c3=false/\c2=true/\n=2)\/(3<=t.size/\c3=false/\c2=false/\c1=true/\n=1)\/(t.size=2/\c2=true/\n=2)\/(t.size=2/\c2=false/\c1=true/\n=1)\/(t.size=1/\c1=true/\n=1):=by
  rcases(by omega:3<=t.size\/t.size=2\/t.size=1\/t.size=0)with h|h|h|h
  ·(have h2:2<=t.size:=by omega);(have h1:1<=t.size:=by omega);cases c1<;>cases c2<;>cases c3<;>simp[h,h2,h1]at D |-<;>omega
  all_goals cases c1<;>cases c2<;>cases c3<;>simp[h]at D |-<;>omega
 have q1:IntKind.i64.wrap ((i:Int)+1)=(i:Int)+1:=jC _ (by omega);have q2:IntKind.i64.wrap ((i:Int)+2)=(i:Int)+2:=jC _ (by omega);have q3:IntKind.i64.wrap ((i:Int)+3)=(i:Int)+3:=jC _ (by omega);(have gn:IntKind.i64.wrap ((i:Int)+1-1)=(i:Int):=by rw[show(i:Int)+1-1=(i:Int)by omega];exact jC _ (by omega));(have gm:IntKind.i64.wrap ((i:Int)+2-2)=(i:Int):=by rw[show(i:Int)+2-2=(i:Int)by omega];exact jC _ (by omega));(have gl:IntKind.i64.wrap ((i:Int)+3-3)=(i:Int):=by rw[show(i:Int)+3-3=(i:Int)by omega];exact jC _ (by omega));(have gt:t.size<=s.size:=by omega);clear h N ga J hb HH D ge O HQ;go_wp2_with fail;refine wp_loop_rounds 4 ?_;rw[rounds_succ];rcases M with⟨k,rfl,rfl⟩|⟨k,rfl,rfl,rfl⟩|⟨k,rfl,rfl,rfl,rfl⟩|⟨k,rfl,rfl⟩|⟨k,rfl,rfl,rfl⟩|⟨k,rfl,rfl⟩;all_goals
  (have k1:(1:Int)<=(t.size:Int):=by omega);(have j1:1<=t.size:=by omega);first
   |(have j2:2<=t.size:=by omega);have i2:(2:Int)<=(t.size:Int):=by omega
   |(have j2:decide (2<=t.size)=false:=by rw[gK];omega);have i2:decide ((2:Int)<=(t.size:Int))=false:=by rw[gK];omega
  first
   |(have j3:3<=t.size:=by omega);have i3:(3:Int)<=(t.size:Int):=by omega
   |(have j3:decide (3<=t.size)=false:=by rw[gK];omega);have i3:decide ((3:Int)<=(t.size:Int))=false:=by rw[gK];omega
  clear k;go_wp2_with fail;try
   refine(H3.out _ I).mono ?_
   rintro e w3⟨rfl,rfl⟩
   go_wp2_with fail
  try
   rw[rounds_succ]
   go_wp2_with fail
  try
   refine(H2.out _ I).mono ?_
   rintro e w3⟨rfl,rfl⟩
   go_wp2_with fail
  try
   rw[rounds_succ]
   go_wp2_with fail
  try
   refine(H1.out _ I).mono ?_
   rintro e w3⟨rfl,rfl⟩
   go_wp2_with fail
  refine(gk.out _ gi.out).mono ?_;rintro e w4⟨rfl,gd,gh⟩;go_wp2_with fail;refine jY (vp rfl _ _ _) rfl ?_;exact⟨rfl,gd,gj.out.trans gh⟩
end
end Go.Proofs.YteialcjaiocjdaaGreatDoor
