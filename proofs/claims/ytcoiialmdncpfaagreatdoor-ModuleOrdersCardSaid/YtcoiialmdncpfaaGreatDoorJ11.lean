/-
  Parts of the proof: Rrg3 Snl Sbyte Swhile Ssign. By an AI agent.
-/
import Derived.Test.YtcoiialmdncpfaaGreatDoorJ10
import Derived.Test.YtcoiialmdncpfaaGreatDoorJ02
import Derived.Test.YtcoiialmdncpfaaGreatDoorJ09
open Go.Proofs.Tryz
set_option maxRecDepth 100000
set_option maxHeartbeats 8000000
namespace Go.Proofs.YtcoiialmdncpfaaGreatDoor
section
open Go.RowKit Go.Lib Go.Proofs
attribute [local go_sem ↓] Go.wp_at_zero Go.wp_at_succ
attribute [local go_sem] aK aL aM
theorem jH:type_of% @Go.rounds_succ:=@Go.rounds_succ
theorem kG:type_of% @Go.wp_loop_rounds:=@Go.wp_loop_rounds
def MP(E:bC):Prop:=∀s x s',cO E.c s=some (x,s')->s'.at_<=E.c.toks.length
theorem DB(E:bC)(s:St)(w:World)(h:aH E w s)(ho:0<E.c.toks.length)(hS:uH E)(hR:MP E):
  Calls prog 297 #[E.R] w (Oj E s w (cO E.c s)):=by
 obtain⟨b,off,eA,jm,hs⟩:=h.toks.2 ho;obtain⟨off',hk,hcut⟩:=MO b off E.c.toks.length E.cap s.at_ E.c.toks rfl h.le h.fits;(have g5:E.c.toks.length-s.at_=(E.c.toks.drop s.at_).length:=by rw[jE]);rw[g5]at hk;obtain⟨c0,c1,-,-,-,-⟩:=h.cells;rw[eA]at c0;have je:=h.lt;have ja:=h.most;have jj:=h.le;have h1:au E s w (w.alloc (.cells #[.slice (some ⟨b,off',none⟩) (E.c.toks.drop s.at_).length (E.cap-s.at_)] 101)):=(au.refl h).alloc _;have hy:rm (w.alloc (.cells #[.slice (some ⟨b,off',none⟩) (E.c.toks.drop s.at_).length (E.cap-s.at_)] 101)) w.heap.size b off' (E.cap-s.at_) (E.c.toks.drop s.at_):=by
  refine⟨?_,?_,by simp;omega,fun j u hu=>?_⟩
  ·exact((aa.new w 101 #[.slice (some ⟨b,off',none⟩) (E.c.toks.drop s.at_).length (E.cap-s.at_)]).cell 0).trans rfl
  ·have:=h.fits;rw[jE];omega
  ·exact cell_kept ((gC _ w).alloc (gA _) _) (hcut w hs j u hu)
 have hm:∀t∈E.c.toks.drop s.at_,t.text.size<=1000000000:=fun t ht=>hS t (vL ht);(have hp:(E.c.toks.drop s.at_).length<=1000000:=by rw[jE];omega);have he:=hid (BX E.c s);have g9:=hid (fun hr a b d r hl ha=>yv E.c s hr (a:=a) (b:=b) (d:=d) (r:=r) hl ha);have h2:=hid (show aR E.c s ⟨#[114,97,110,103,101]⟩=true->cO E.c s=some ((⟨#[]⟩:BA),am s)from fun hr=>by unfold cO;rw[gL hr]);(have g8:3<=(E.c.toks.drop s.at_).length->s.at_+3<=E.c.toks.length:=by rw[jE];omega);have g1:=hid hm;have h4:=hid g8;clear hcut hs g5 hm hS g8;have jd:=hR s;clear hR;generalize hrr:cO E.c s=res at *;generalize hlq:E.c.toks.drop s.at_=l at *;clear hrr;have HL:=hid hlq;clear hlq;(have jl:(0:Int)<=(s.at_:Int):=by omega);(go_enter func297,ntmps297);(go_upto_region 1 with fail);go_cut [4] (fun s4 wx=>s4=.pointer (some ⟨w,0,none⟩)/\au E s w wx/\rm wx w.heap.size b off' (E.cap-s.at_) l)
 case first=>go_region_law (fail);(all_goals go_wp2_with fail);(all_goals go_meet);all_goals exact⟨rfl,h1.drew,hy.below (gC _ _).drew⟩
 case rest=>
  obtain⟨rfl,gq,hw⟩:=hcut;clear h1 hy c0 c1 hk;go_wp2_with fail;cases hA:aR E.c s ⟨#[114,97,110,103,101]⟩with
  |true=>have HR:=hid (h2.out hA);refine(aS E s _ _ gq.rd hA).mono ?_;rintro e w2⟨rfl,jb⟩;have gm:=gq.trans jb;go_wp2_with fail;go_ret2;rw[HR.out];exact⟨rfl,gm⟩
  | false=>
   have O:=hid (he.out hA);have q:=hid (fun a b d r=>g9.out hA a b d r);refine(aW E s _ _ gq.rd hA).mono ?_;rintro e w2⟨rfl,gj⟩;have gm:=gq.trans gj.moved;have I:=hw.below gj.bel;clear he g9 h2 hA gq hw gj;by_cases J:(l.getD 0 ⟨0,⟨#[]⟩,0⟩).kind=1
   rotate_left
   ·have HR:Hid (res=none):=hid (O.out (.inr J));(have e0:(decide (0<l.length)&&((l.getD 0 ⟨0,⟨#[]⟩,0⟩).kind==1))=false:=by rw[beq_eq_false_iff_ne.2 J,Bool.and_false]);have kB:∀n:Wd (Below w2 w2),n.wd.cell? ⟨w,0,none⟩=some (.slice (some ⟨b,off',none⟩) l.length (E.cap-s.at_)):=fun n=>(I.below n.ok).box;have D:=hid (fun W(hb:Below w2 w2 W)=>rn w.heap.size b off' (E.cap-s.at_) l 0 W (I.below hb));rw[show((0:Nat):Int)=0 from rfl]at D;rw[e0]at D;clear e0 J O q;go_wp2_with fail;refine ei w2 ?_;(repeat(go_big_quiet_step ((first|(go_at_call 309;rename_i n;((with_reducible refine(D.out n.wd n.ok).mono ?_);rintro e w'⟨rfl,rfl⟩);exact⟨rfl,n,rfl⟩)))));refine m7 ?_;intro n6;have gz:=I.below n6.ok;have M:=hid (fun W(hb:Below n6.wd.heap.size n6.wd W)=>D.out W (aE n6.ok hb));clear kB;go_wp2_with fail;refine ei n6.wd ?_;(repeat(go_big_quiet_step ((first|(go_at_call 309;rename_i n;((with_reducible refine(M.out n.wd n.ok).mono ?_);rintro e w'⟨rfl,rfl⟩);exact⟨rfl,n,rfl⟩)))));refine m7 ?_;intro n9;go_wp2_with fail;go_ret2;rw[HR.out];exact⟨rfl,(gm.step n6.ok).step n9.ok⟩
   by_cases h3:3<=l.length
   rotate_left
   ·have HR:Hid (res=none):=hid (O.out (.inl (by omega)));have hq:0<l.length:=by
     rcases qH l.length with h0|h0
     ·rw[jI h0]at J;simp at J
     ·exact h0
    (have e0:(decide (0<l.length)&&((l.getD 0 ⟨0,⟨#[]⟩,0⟩).kind==1))=true:=by rw[jK hq,beq_iff_eq.2 J];rfl);(have e2:(decide (2<l.length)&&((l.getD 2 ⟨0,⟨#[]⟩,0⟩).kind==1))=false:=by rw[gV (by omega),vw]);(have hL:decide ((l.length:Int)>2)=false:=by simp;omega);have kB:∀n:Wd (Below w2 w2),n.wd.cell? ⟨w,0,none⟩=some (.slice (some ⟨b,off',none⟩) l.length (E.cap-s.at_)):=fun n=>(I.below n.ok).box;have D:=hid (fun W(hb:Below w2 w2 W)=>rn w.heap.size b off' (E.cap-s.at_) l 0 W (I.below hb));rw[show((0:Nat):Int)=0 from rfl]at D;have ga:=hid (fun W(hb:Below w2 w2 W)=>rn w.heap.size b off' (E.cap-s.at_) l 2 W (I.below hb));rw[show((2:Nat):Int)=2 from rfl]at ga;rw[e0]at D;rw[e2]at ga;clear e0 e2 J O q;go_wp2_with fail;refine ei w2 ?_;(repeat(go_big_quiet_step ((first|(go_at_call 309;rename_i n;((with_reducible refine(D.out n.wd n.ok).mono ?_);rintro e w'⟨rfl,rfl⟩);exact⟨rfl,n,rfl⟩)))));refine m7 ?_;intro n6;have gz:=I.below n6.ok;have M:=hid (fun W(hb:Below n6.wd.heap.size n6.wd W)=>D.out W (aE n6.ok hb));have gd:=hid (fun W(hb:Below n6.wd.heap.size n6.wd W)=>ga.out W (aE n6.ok hb));clear kB;go_wp2_with fail;refine ei n6.wd ?_;(repeat(go_big_quiet_step ((first|(go_at_call 309;rename_i n;((with_reducible refine(M.out n.wd n.ok).mono ?_);rintro e w'⟨rfl,rfl⟩);exact⟨rfl,n,rfl⟩)|(go_at_call 309;rename_i n;((with_reducible refine(gd.out n.wd n.ok).mono ?_);rintro e w'⟨rfl,rfl⟩);exact⟨rfl,n,rfl⟩)))));refine m7 ?_;intro n9;go_wp2_with fail;go_ret2;rw[HR.out];exact⟨rfl,(gm.step n6.ok).step n9.ok⟩
   obtain⟨a,gl⟩:∃a,l[0]=a:=⟨_,rfl⟩;obtain⟨d,gk⟩:∃d,l[2]=d:=⟨_,rfl⟩;obtain⟨bt,r,hf⟩:∃bt r,l=a::bt::d::r:=by
    rcases l with _|⟨x,_|⟨y,_|⟨z,r⟩⟩⟩
    ·simp at h3
    ·simp at h3
    ·simp at h3
    ·simp at gl gk;subst gl gk;exact⟨y,r,rfl⟩
   (have ji:a.text.size<=1000000000:=by rw[<-gl];exact g1.out _ (jF _));(have jh:d.text.size<=1000000000:=by rw[<-gk];exact g1.out _ (jF _));(have jc:a.kind=1:=by rw[jJ,gO (by omega)]at J;simpa[gl]using J);(have e0:(decide (0<l.length)&&((l.getD 0 ⟨0,⟨#[]⟩,0⟩).kind==1))=true:=by rw[jK (by omega),beq_iff_eq.2 J];rfl);(have e2:(decide (2<l.length)&&((l.getD 2 ⟨0,⟨#[]⟩,0⟩).kind==1))=(d.kind==1):=by rw[jJ,gO (by omega),gk,jK (show 2<l.length by omega)];rfl);have gg:=hid (show res=if a.text≠(⟨#[95]⟩:BA)/\dU (l.take 3)=a.text++(⟨#[32,58,61,32,114,97,110,103,101]⟩:BA)then some (a.text,{ s with at_:=s.at_+3 })
     else if d.kind=1/\d.text≠(⟨#[95]⟩:BA)/\dU (l.take 5)=a.text++(⟨#[32,44,32]⟩:BA)++d.text++(⟨#[32,58,61,32,114,97,110,103,101]⟩:BA)then some (a.text++(⟨#[44]⟩:BA)++d.text,{ s with at_:=s.at_+5 })else none by have:=q.out a bt d r hf jc;rw[<-hf]at this;exact this)
   (have gy:w2.cell? ⟨b,off'+1,none⟩=some (.string a.text):=by have:=(I.tok 0 (by omega)).2.1;rw[gl]at this;simpa using this);(have hg:w2.cell? ⟨b,off'+6+1,none⟩=some (.string d.text):=by have:=(I.tok 2 (by omega)).2.1;rw[gk]at this;exact this);(have hL:decide ((l.length:Int)>2)=true:=by simp;omega);(have hq:(0:Int)<(l.length:Int):=by omega);(have jk:(2:Int)<(l.length:Int):=by omega);(have jg:0<l.length:=by omega);(have jf:2<l.length:=by omega);have gv:=hid (show(a.text≠(⟨#[95]⟩:BA))↔(a.text.toList==[95])=false by rw[show([95]:List UInt8)=((⟨#[95]⟩:BA):ByteArray).toList from by kernel_rfl,bW];simp);have gu:=hid (show(d.text≠(⟨#[95]⟩:BA))↔(d.text.toList==[95])=false by rw[show([95]:List UInt8)=((⟨#[95]⟩:BA):ByteArray).toList from by kernel_rfl,bW];simp);have gx:=hid (show(dU (l.take 3)=a.text++(⟨#[32,58,61,32,114,97,110,103,101]⟩:BA))↔((dU (l.take 3)).toList==(a.text++(⟨#[32,58,61,32,114,97,110,103,101]⟩:BA)).toList)=true by rw[bW];simp);have gw:=hid (show(dU (l.take 5)=a.text++(⟨#[32,44,32]⟩:BA)++d.text++(⟨#[32,58,61,32,114,97,110,103,101]⟩:BA))↔((dU (l.take 5)).toList==(a.text++(⟨#[32,44,32]⟩:BA)++d.text++(⟨#[32,58,61,32,114,97,110,103,101]⟩:BA)).toList)=true by rw[bW];simp);have kB:∀n:Wd (Below w2 w2),n.wd.cell? ⟨w,0,none⟩=some (.slice (some ⟨b,off',none⟩) l.length (E.cap-s.at_)):=fun n=>(I.below n.ok).box;have D:=hid (fun W(hb:Below w2 w2 W)=>rn w.heap.size b off' (E.cap-s.at_) l 0 W (I.below hb));rw[show((0:Nat):Int)=0 from rfl]at D;have kA:∀n:Wd (Below w2 w2),n.wd.cell? ⟨b,off'+1,none⟩=some (.string a.text):=fun n=>cell_kept n.ok gy;have kD:∀n:Wd (Below w2 w2),n.wd.cell? ⟨b,off'+6+1,none⟩=some (.string d.text):=fun n=>cell_kept n.ok hg;have ga:=hid (fun W(hb:Below w2 w2 W)=>rn w.heap.size b off' (E.cap-s.at_) l 2 W (I.below hb));rw[show((2:Nat):Int)=2 from rfl]at ga;have gs:=hid (fun W(hb:Below w2 w2 W)=>yM w.heap.size b off' (E.cap-s.at_) l 3 (by omega) (by omega) h3 hp g1.out W (I.below hb));rw[show((3:Nat):Int)=3 from rfl]at gs;have g0:=hid (fun W(hb:Below w2 w2 W)=>yM w.heap.size b off' (E.cap-s.at_) l 5 (by omega) (by omega) h3 hp g1.out W (I.below hb));rw[show((5:Nat):Int)=5 from rfl]at g0;rw[e0]at D;rw[e2]at ga;clear e0 e2 J O q gl gk hf;generalize dU (l.take 3)=T3 at *;generalize dU (l.take 5)=T5 at *;generalize hdk:(d.kind==1)=n2 at *;have gt:=hid (show(d.kind=1)↔n2=true by rw[<-hdk];simp);clear hdk;by_cases hc:(a.text.toList==[95])=false/\(T3.toList==(a.text++(⟨#[32,58,61,32,114,97,110,103,101]⟩:BA)).toList)=true
   ·obtain⟨gi,gj⟩:=hc;(have g4:(a.text.toList != [95])=true:=by simp[bne,gi]);have HR:=hid (gg.out.trans (gL ⟨gv.out.2 gi,gx.out.2 gj⟩));clear gg gv gu gx gw gt g0 ga;go_wp2_with fail;refine ei w2 ?_;(repeat(go_big_quiet_step ((first|(go_at_call 309;rename_i n;((with_reducible refine(D.out n.wd n.ok).mono ?_);rintro e w'⟨rfl,rfl⟩);exact⟨rfl,n,rfl⟩)|(go_at_call 307;rename_i n;((with_reducible refine(gs.out n.wd n.ok).mono ?_);rintro e w'⟨rfl,hb⟩);exact⟨rfl,⟨w',aE n.ok hb⟩,rfl⟩)))));refine m7 ?_;intro n6;have gp:=gm.step n6.ok;have hj:=I.below n6.ok;have gn:=cell_kept n6.ok gy;obtain⟨y0,y1,y2,y3,y4,yf⟩:=gp.rd.cells;have h6:=yf 1;have q1:IntKind.i64.wrap ((s.at_:Int)+3)=(s.at_:Int)+3:=gQ _ (by omega);have gb:=gp.setAt (s.at_+3) (h4.out h3);rw[show((s.at_+3:Nat):Int)=(s.at_:Int)+3 by omega]at gb;have hh:=hj.box;clear yf kB kA kD D gs;(have hi:w.heap.size≠E.R:=by omega);(have ge:b≠E.R:=by omega);(go_upto_region 8 with fail);have z0:(n6.wd.setCell ⟨E.R,1,none⟩ (.int .i64 ((s.at_:Int)+3))).cell? ⟨w,0,none⟩=some (.slice (some ⟨b,off',none⟩) l.length (E.cap-s.at_)):=(gG _ _ _ _ (by exact hi.symm)).trans hh;have z1:(n6.wd.setCell ⟨E.R,1,none⟩ (.int .i64 ((s.at_:Int)+3))).cell? ⟨b,off'+1,none⟩=some (.string a.text):=(gG _ _ _ _ (by exact ge.symm)).trans gn;generalize n6.wd.setCell ⟨E.R,1,none⟩ (.int .i64 ((s.at_:Int)+3))=w10 at *;go_wp2_with fail;go_ret2;rw[HR.out];exact⟨rfl,gb⟩
   ·have g2:=hid (gg.out.trans (gE (fun h=>hc ⟨gv.out.1 h.1,gx.out.1 h.2⟩)));cases gi:(a.text.toList==[95])
    case' true=>have g4:(a.text.toList != [95])=false:=by simp[bne,gi]
    case' false=>(have g4:(a.text.toList != [95])=true:=by simp[bne,gi]);have gj:(T3.toList==(a.text++(⟨#[32,58,61,32,114,97,110,103,101]⟩:BA)).toList)=false:=by simpa[gi]using hc
    all_goals
     clear gg hc;go_wp2_with fail;refine ei w2 ?_;(repeat(go_big_quiet_step ((first|(go_at_call 309;rename_i n;((with_reducible refine(D.out n.wd n.ok).mono ?_);rintro e w'⟨rfl,rfl⟩);exact⟨rfl,n,rfl⟩)|(go_at_call 307;rename_i n;((with_reducible refine(gs.out n.wd n.ok).mono ?_);rintro e w'⟨rfl,hb⟩);exact⟨rfl,⟨w',aE n.ok hb⟩,rfl⟩)))));refine m7 ?_;intro n6;have gz:=I.below n6.ok;have hz:=gm.step n6.ok;have g7:=cell_kept n6.ok gy;have g6:=cell_kept n6.ok hg;have h8:∀n:Wd (Below n6.wd.heap.size n6.wd),n.wd.cell? ⟨w,0,none⟩=some (.slice (some ⟨b,off',none⟩) l.length (E.cap-s.at_)):=fun n=>(gz.below n.ok).box;have h9:∀n:Wd (Below n6.wd.heap.size n6.wd),n.wd.cell? ⟨b,off'+1,none⟩=some (.string a.text):=fun n=>cell_kept n.ok g7;have h7:∀n:Wd (Below n6.wd.heap.size n6.wd),n.wd.cell? ⟨b,off'+6+1,none⟩=some (.string d.text):=fun n=>cell_kept n.ok g6;have M:=hid (fun W(hb:Below n6.wd.heap.size n6.wd W)=>D.out W (aE n6.ok hb));have gd:=hid (fun W(hb:Below n6.wd.heap.size n6.wd W)=>ga.out W (aE n6.ok hb));have gr:=hid (fun W(hb:Below n6.wd.heap.size n6.wd W)=>g0.out W (aE n6.ok hb));clear kB kA kD D ga gs g0 gy hg;by_cases hd:n2=true/\(d.text.toList==[95])=false/\(T5.toList==(a.text++(⟨#[32,44,32]⟩:BA)++d.text++(⟨#[32,58,61,32,114,97,110,103,101]⟩:BA)).toList)=true
     ·obtain⟨rfl,gh,hn⟩:=hd;(have g3:(d.text.toList != [95])=true:=by simp[bne,gh]);have HR:=hid (show res=some (a.text++(⟨#[44]⟩:BA)++d.text,{ s with at_:=s.at_+5 })by rw[g2.out,gL ⟨gt.out.2 rfl,gu.out.2 gh,gw.out.2 hn⟩]);have h5:s.at_+5<=E.c.toks.length:=jd _ _ HR.out;clear g2 gv gu gx gw gt;go_wp2_with fail;refine ei n6.wd ?_;(repeat(go_big_quiet_step ((first|(go_at_call 309;rename_i n;((with_reducible refine(M.out n.wd n.ok).mono ?_);rintro e w'⟨rfl,rfl⟩);exact⟨rfl,n,rfl⟩)|(go_at_call 309;rename_i n;((with_reducible refine(gd.out n.wd n.ok).mono ?_);rintro e w'⟨rfl,rfl⟩);exact⟨rfl,n,rfl⟩)|(go_at_call 307;rename_i n;((with_reducible refine(gr.out n.wd n.ok).mono ?_);rintro e w'⟨rfl,hb⟩);exact⟨rfl,⟨w',aE n.ok hb⟩,rfl⟩)))));refine m7 ?_;intro n9;have gp:=hz.step n9.ok;have hj:=gz.below n9.ok;have gn:=cell_kept n9.ok g7;have hv:=cell_kept n9.ok g6;obtain⟨y0,y1,y2,y3,y4,yf⟩:=gp.rd.cells;have h6:=yf 1;have q1:IntKind.i64.wrap ((s.at_:Int)+5)=(s.at_:Int)+5:=gQ _ (by omega);have gb:=gp.setAt (s.at_+5) h5;rw[show((s.at_+5:Nat):Int)=(s.at_:Int)+5 by omega]at gb;have hh:=hj.box;clear yf h8 h9 h7 M gd gr;(have hi:w.heap.size≠E.R:=by omega);(have ge:b≠E.R:=by omega);(go_upto_region 11 with fail);have z0:(n9.wd.setCell ⟨E.R,1,none⟩ (.int .i64 ((s.at_:Int)+5))).cell? ⟨w,0,none⟩=some (.slice (some ⟨b,off',none⟩) l.length (E.cap-s.at_)):=(gG _ _ _ _ (by exact hi.symm)).trans hh;have z1:(n9.wd.setCell ⟨E.R,1,none⟩ (.int .i64 ((s.at_:Int)+5))).cell? ⟨b,off'+1,none⟩=some (.string a.text):=(gG _ _ _ _ (by exact ge.symm)).trans gn;have z2:(n9.wd.setCell ⟨E.R,1,none⟩ (.int .i64 ((s.at_:Int)+5))).cell? ⟨b,off'+6+1,none⟩=some (.string d.text):=(gG _ _ _ _ (by exact ge.symm)).trans hv;generalize n9.wd.setCell ⟨E.R,1,none⟩ (.int .i64 ((s.at_:Int)+5))=w10 at *;go_quiet (fail);go_wp2_with fail;go_ret2;rw[HR.out];exact⟨rfl,gb.drewN _⟩
     ·have HR:Hid (res=none):=hid (g2.out.trans (gE fun h=>hd ⟨gt.out.1 h.1,gu.out.1 h.2.1,gw.out.1 h.2.2⟩));cases n2
      case' true=>
       cases gh:(d.text.toList==[95])
       case' true=>have g3:(d.text.toList != [95])=false:=by simp[bne,gh]
       case' false=>(have g3:(d.text.toList != [95])=true:=by simp[bne,gh]);have hn:(T5.toList==(a.text++(⟨#[32,44,32]⟩:BA)++d.text++(⟨#[32,58,61,32,114,97,110,103,101]⟩:BA)).toList)=false:=by simpa[gh]using hd
      all_goals clear hd;clear g2 gv gu gx gw gt;go_wp2_with fail;refine ei n6.wd ?_;(repeat(go_big_quiet_step ((first|(go_at_call 309;rename_i n;((with_reducible refine(M.out n.wd n.ok).mono ?_);rintro e w'⟨rfl,rfl⟩);exact⟨rfl,n,rfl⟩)|(go_at_call 309;rename_i n;((with_reducible refine(gd.out n.wd n.ok).mono ?_);rintro e w'⟨rfl,rfl⟩);exact⟨rfl,n,rfl⟩)|(go_at_call 307;rename_i n;((with_reducible refine(gr.out n.wd n.ok).mono ?_);rintro e w'⟨rfl,hb⟩);exact⟨rfl,⟨w',aE n.ok hb⟩,rfl⟩)))));refine m7 ?_;intro n9;go_wp2_with fail;go_ret2;rw[HR.out];exact⟨rfl,hz.step n9.ok⟩
end
section
open Go.RowKit Go.Lib Go.Proofs
attribute [local go_sem ↓] Go.wp_at_zero Go.wp_at_succ
def lN(l:List cz)(p:Int):List cz:=if fP l=true then l++[⟨6,⟨#[10]⟩,p⟩]else l
theorem ux[NsC](X:Nat)(s:ByteArray)(i:Nat)(l:List cz)(p:Int)(hl:l.length+1<=65537)(w:World)(h:ij w X s i l)(hT:bQ w)(z:∀t∈l,t.text.size<=65536):
  Calls prog 118 #[X,p] w (sP X s w i (lN l p) (.tuple #[])):=by
 have y:=hid (Du X s i l w h hT z);have q:=h.lt;cases M:fP l with
 |false=>have HL:Hid (lN l p=l):=hid (by unfold lN;rw[gE (by rw[M];decide)]);rw[M]at y;clear M;(go_enter func118,ntmps118);go_wp2_with fail;refine y.out.mono ?_;rintro e w1⟨rfl,D⟩;go_wp2_with fail;go_end0;rw[HL.out];exact⟨rfl,h.below D,D.mono (jV q)⟩
 |true=>have HL:=hid (show lN l p=l++[⟨6,⟨#[10]⟩,p⟩]by unfold lN;rw[gL M]);rw[M]at y;clear M;(go_enter func118,ntmps118);go_wp2_with fail;refine y.out.mono ?_;rintro e w1⟨rfl,D⟩;have h1:=h.below D;have x:=h1.le;have O:=h1.most;obtain⟨lv,nv,I⟩:=h1.out;have hb:=I.blk;have hO:=I.toks;obtain⟨A0,c0,ga,_⟩:=hO.form;subst ga;obtain⟨x0,x1,x2,x3,f0,f1,f2,f3⟩:=ah hb;have gd:=hb.lt;go_wp2_with (at_builtin;refine AF rfl (.tmp 10) (.tmp 13) rfl (X+1) _ _ l ⟨6,⟨#[10]⟩,p⟩ rfl _ rfl (by simp) hO (by omega) (by omega) ?_;intro g c w2 J;have gb:=hb.below J.bel (jO _);obtain⟨z0,z1,z2,z3,y0,y1,y2,y3⟩:=ah gb);go_end0;rw[HL.out];exact⟨rfl,⟨⟨_,nv,I.row J⟩,x,O,by rw[gJ];simpa using hl⟩,((D.mono (jV q)).trans (J.bel.mono (jC _))).setCell (gA _) _⟩
theorem ce(s:ByteArray)(i:Nat)(D:i<s.size)(W:World):(Instr.index 9 (.string s) (.int .i64 (i:Int))).run prog W=.ok (.int .u8 (ai s i:Int)) W:=by rw[run_index_string (P:=prog) W 9 s .i64 (i:Int) underlying9];simp[ai,D];rfl
def bG(c:Int):Bool:=bD c||aT c
def d7(l:List UInt8):Nat:=(l.takeWhile fun c=>bG (c.toNat:Int)).length
theorem ne{α:Type}[Inhabited α](p:α->Bool):∀(l:List α)(j:Nat),j<=l.length->(∀k,k<j->p (l.getD k default)=true)->(j<l.length->p (l.getD j default)=false)->(l.takeWhile p).length=j
 |[],j,h,_,_=>by simp at h;simp[h]
 |x::l,0,_,_,h=>by have:=h (by simp);rw[List.takeWhile_cons,gE (by simpa using this)];rfl
 |x::l,j+1,I,D,J=>by have M:=D 0 (by omega);rw[List.takeWhile_cons,gL (by simpa using M),gI,ne p l j (by simpa using I) (fun k hk=>by simpa using D (k+1) (by omega)) (fun h=>by simpa using J (by simpa using h))]
theorem d8(s:ByteArray)(i:Nat):(s.extract i s.size).data.toList=s.data.toList.drop i:=by rw[ByteArray.data_extract,vK];rw[vm];exact jU (by rw[jE];exact vA rfl)
theorem dA(s:ByteArray)(i:Nat):(s.extract i s.size).size=s.size-i:=by have:=qD List.length (d8 s i);rw[jE]at this;exact this
theorem Oc(a:Array Value)(w:World):(callFunc 167 a).run prog w=.ok (.enter 167 a) w:=by kernel_rfl
theorem Od(a:Array Value)(w:World):(callFunc 171 a).run prog w=.ok (.enter 171 a) w:=by kernel_rfl
theorem Oe(c:Int)(w:World):Calls prog 167 #[.int .i32 c] w fun e w'=>e=.returned (.bool (bG c))/\w=w':=by
 unfold bG;cases D:bD c<;>cases hF:aT c;all_goals
  (go_enter func167,ntmps167);go_wp2_with fail;refine(fm _ _).mono ?_;rw[D];rintro e w1⟨rfl,rfl⟩;go_wp2_with fail;try
   refine(lM _ _).mono ?_
   rw[hF]
   rintro e w1⟨rfl,rfl⟩
   go_wp2_with fail
  go_ret;exact⟨rfl,rfl⟩
theorem Of(c:Int)(w:World):Calls prog 171 #[.int .i32 c] w fun e w'=>e=.returned (.bool (bG c))/\w=w':=by
 unfold bG;cases D:bD c<;>cases hF:aT c;all_goals
  (go_enter func171,ntmps171);go_wp2_with fail;refine(fm _ _).mono ?_;rw[D];rintro e w1⟨rfl,rfl⟩;go_wp2_with fail;try
   refine(lM _ _).mono ?_
   rw[hF]
   rintro e w1⟨rfl,rfl⟩
   go_wp2_with fail
  go_ret;exact⟨rfl,rfl⟩
theorem pi{c:Int}(h:128<=c):bG c=false:=by unfold bG;rw[iW h,ee h];rfl
theorem Fw[NsC](f:FuncId)(hf:∀a w,(callFunc f a).run prog w=.ok (.enter f a) w)(hC:∀(c:Int)(w:World),Calls prog f #[.int .i32 c] w fun e w'=>e=.returned (.bool (bG c))/\w=w')
  (X:Nat)(s:ByteArray)(i:Nat)(l:List cz)(w:World)(h:ij w X s i l):
  Calls prog 166 #[.pointer (some ⟨X,0,none⟩),.func (.func f) #[] #[]] w (sP X s w (i+d7 (s.data.toList.drop i)) l (.tuple #[])):=by
 obtain⟨lv,nv,gq⟩:=h.out;have hb:=gq.blk;have gg:=hb.lt;have gm:=h.le;have gu:=h.most;have HH:=hid h;obtain⟨x0,x1,x2,x3,f0,f1,f2,f3⟩:=ah hb;(have p0:(0:Int)<=(i:Int):=by omega);(have p2:(i:Int)<=(s.size:Int):=by omega);(go_enter func166,ntmps166);(go_upto_region 0 with fail);go_cut [15] (fun gj wx=>∃b,gj=.pointer (some ⟨b,0,none⟩)/\wx.heap[b]? = some (.stringIter (s.extract i s.size) 0)/\w.heap.size<=b/\Below w w wx)
 case first=>go_region_law (fail);(all_goals go_wp2_with fail);all_goals go_meet;exact⟨_,rfl,qJ w.drew _ 0,gA _,((gC w.heap.size w).drew.alloc (gA _) _)⟩
 case rest=>
  obtain⟨b,rfl,hit,gp,ga⟩:=hcut;have HT:=hid (d8 s i);have gr:=hid (dA s i);generalize s.extract i s.size=t at *;have gt:t.size=s.size-i:=gr.out;clear x0 x1 x2 x3 f0 f1 f2 f3;go_wp2_with fail;go_loopg [4,5,16,17] t.size (fun g _ _ _ _ wr=>∃j:Nat,j<=t.size/\t.size-j<=g/\wr.heap[b]? = some (.stringIter t j)/\Below w w wr/\(∀k,k<j->bG ((t.data.toList.getD k 0).toNat:Int)=true))
  case atStart=>exact⟨0,gT _,by omega,hit,ga,fun k hk=>by omega⟩
  case round=>
   clear hit ga;obtain⟨j,hj,hg,hit,hB,z⟩:=hrel;have ge:=hid hit;have HA:=hid z;clear hit z;by_cases I:j<t.size
   ·have hw:=pD t j I;have gb:=nd t j I;have J:=fun ty=>qV (P:=prog) wr b t j ty ge.out I;generalize hbb:(t.data.toList.getD j 0).toNat=bb at *;generalize hd:Utf8.decode t j=q at *;obtain⟨r,k⟩:=q;simp only at hw J gb;have y:bG (r:Int)=bG (bb:Int)/\(bG (r:Int)=true->k=1):=by
     rcases gb with⟨e,_⟩|⟨h1,h2⟩
     ·injection e with e1 e2;subst e1 e2;exact⟨rfl,fun _=>rfl⟩
     ·rw[pi (by omega),pi (by omega)];exact⟨rfl,by simp⟩
    have gi:=hid hbb;have D:=hid y;have j1:=qZ wr b t j (j+k) ge.out;have j2:Below w w (wr.iterAt b t (j+k)):=bx hB gp;generalize wr.iterAt b t (j+k)=W1 at J j1 j2;have J1:=hid j1;have O:=HH.out.below j2;obtain⟨gl,yk,M⟩:=O.out;have gd:=M.blk;obtain⟨x0,x1,x2,x3,f0,f1,f2,f3⟩:=ah gd;clear y gb j1 hd hbb;cases hW:bG (r:Int)with
    | true=>
     have hk:=D.out.2 hW;have gh:Hid (∀k',k'<j+k->bG ((t.data.toList.getD k' 0).toNat:Int)=true):=hid (by
      intro k' hk';by_cases e:k'=j
      ·subst e;rw[gi.out,<-D.out.1,hW]
      ·exact HA.out k' (by omega))
     clear x0 x1 x2 x3 f0 f1 f2 f3 D HA;go_wp2_with fail;refine(hC _ _).mono ?_;rw[hW];rintro e w1⟨rfl,rfl⟩;go_wp2_with fail;go_roundg (t.size-(j+k))
     case measure=>omega
     case rel=>exact⟨j+k,hw.2,gA _,J1.out,j2,gh.out⟩
    |false=>have HL:Hid (i+d7 (s.data.toList.drop i)=i+j):=hid (by rw[<-HT.out];congr 1;refine ne _ _ j (by simpa using hj) (fun k' hk'=>HA.out k' hk') (fun _=>?_);have:=D.out.1;rw[hW,<-gi.out]at this;exact this.symm);clear D HA;go_wp2_with fail;refine(hC _ _).mono ?_;rw[hW];rintro e w1⟨rfl,rfl⟩;have q1:IntKind.i64.wrap ((i:Int)+(j:Int))=(i:Int)+(j:Int):=gQ _ (by omega);go_wp2_with fail;refine jD (qI rfl _ _ _) rfl ?_;rw[HL.out];have x:=O.set (i+j) (by omega) (by omega);rw[show((i+j:Nat):Int)=(i:Int)+(j:Int)by omega]at x;exact⟨rfl,x,(j2.mono (jV gg)).setCell (gA _) _⟩
   ·(have gn:j=t.size:=by omega);have HL:Hid (i+d7 (s.data.toList.drop i)=s.size):=hid (by rw[<-HT.out,show d7 t.data.toList=j from ne _ _ j (by simpa using hj) (fun k' hk'=>HA.out k' hk') (fun h=>absurd h (by rw[gn];simp))];omega);have gs:=fun ty=>qL (P:=prog) wr b t j ty ge.out I;have O:=HH.out.below hB;obtain⟨gl,yk,M⟩:=O.out;have gd:=M.blk;obtain⟨x0,x1,x2,x3,f0,f1,f2,f3⟩:=ah gd;go_wp2_with fail;go_end0;rw[HL.out];exact⟨rfl,O.set s.size gm (gA _),(hB.mono (jV gg)).setCell (gA _) _⟩
theorem mh(s p:ByteArray)(w:World):Calls prog 163 #[s,p] w fun e w'=>e=.returned (.bool (Lib.hasPrefix s.data.toList p.data.toList))/\w=w':=
 (Any.strings_HasPrefix Tryz.laysPrefix s p w).mono fun _ _ h=>⟨h.1,h.2.symm⟩
theorem cF(s:ByteArray)(c:Int)(w:World):Calls prog 184 #[s,.int .u8 c] w fun e w'=>e=.returned (.int .i64 (Lib.indexByte s.data.toList (UInt8.ofNat c.toNat)))/\w=w':=
 (Any.strings_IndexByte Tryz.laysIndexByte s c w).mono fun _ _ h=>⟨h.1,h.2.symm⟩
theorem yN(s sub:ByteArray)(w:World)(hT:bQ w)(I:s.size<=2000000000):
  Calls prog 105 #[s,sub] w fun e w'=>e=.returned (.int .i64 (Lib.index s.data.toList sub.data.toList))/\w=w':=by obtain⟨m,D⟩:=hT;exact(Any.strings_Index Tryz.laysIndex s sub m w (by omega) D).mono fun _ _ h=>⟨h.1,h.2.symm⟩
def dO(p:Nat):Ending:=.panicked [{ v:=.iface 186 (.agg #[(p:Int)]),recovered:=false }]
theorem iq(X:Nat)(p:Int)(w:World):Calls prog 227 #[X,.bool true,p] w fun e w'=>e=.returned (.tuple #[])/\w=w':=by(go_enter func227,ntmps227);go_wp2_with fail;go_end0;exact⟨rfl,rfl⟩
theorem eK(X:Nat)(p:Nat)(w:World):Calls prog 227 #[X,.bool false,(p:Int)] w fun e w'=>e=dO p/\w=w':=by(go_enter func227,ntmps227);go_wp2_with fail;exact⟨rfl,rfl,rfl⟩
inductive MV where
 |go (i:Nat) (l:List cz)
 |bad (p:Nat)
def iX[NsC](X:Nat)(s:ByteArray)(w:World)(r:MV)(v:Value)(e:Ending)(w':World):Prop:=
 match r with
 | .go i l=>sP X s w i l v e w'
 | .bad p=>e=dO p/\Below X w w'
def yw:ByteArray:=(⟨#[60,60,61,32,62,62,61,32,38,94,61,32,46,46,46]⟩:BA)
def yx:ByteArray:=(⟨#[38,38,32,124,124,32,61,61,32,33,61,32,60,61,32,62,61,32,58,61,32,43,43,32,45,45,32,43,61,32,45,61,32,42,61,32,47,61,32,37,61,32,38,61,32,124,61,32,94,61,32,60,60,32,62,62,32,38,94,32,60,45]⟩:BA)
def yy:ByteArray:=(⟨#[43,32,45,32,42,32,47,32,37,32,38,32,124,32,94,32,60,32,62,32,61,32,33,32,40,32,41,32,91,32,93,32,123,32,125,32,44,32,59,32,46,32,58,32,126]⟩:BA)
theorem B4{fn:Func}{q:Tmp}{ty:TypeId}(I:fn.results = #[.cell q 92])(tmps:Array Value){w:World}{g:Nat}{a b c:Value}(J:tmps.getD q undef=.pointer (some ⟨g,0,none⟩))(hb:aa w g ty #[a,b,c]):
  (results fn tmps).run prog w=.ok (.agg #[a,b,c]) w:=by obtain⟨h,O,M⟩:=O6 hb;unfold results;rw[I];(have D:tmps[q]?.getD undef=.pointer (some ⟨g,0,none⟩):=by simpa using J);simp[D,go_sem,h,O,M]
theorem FC(w:World):Calls prog 228 #[] w fun e w'=>e=.returned (.agg #[.string yw,.string yx,.string yy])/\Below w w w':=by(go_enter func228,ntmps228);go_wp2_with fail;refine jD (B4 (ty:=92) rfl _ (g:=w.heap.size) (by rfl) (a:=.string yw) (b:=.string yx) (c:=.string yy) (aa.new w _ _)) rfl ?_;exact⟨rfl,(gC _ _).alloc (gA _) _⟩
theorem tS(a b c:ByteArray)(i:Nat)(D:i<3)(w:World):(Instr.index 92 (.agg #[a,b,c]) (.int .i64 (i:Int))).run prog w=.ok (.string (if i=0 then a else if i=1 then b else c)) w:=by
 rcases i with _|_|_|i
 ·simp[Instr.index,run_underlying underlying92,asIntOf,go_sem]
 ·simp[Instr.index,run_underlying underlying92,asIntOf,go_sem]
 ·simp[Instr.index,run_underlying underlying92,asIntOf,go_sem]
 ·omega
def nL(row:ByteArray)(t:ByteArray)(n:Nat):Bool:=Lib.contains ((⟨#[32]⟩++row++⟨#[32]⟩:ByteArray)).data.toList ((⟨#[32]⟩++t.extract 0 n++⟨#[32]⟩:ByteArray)).data.toList
def dP(s:ByteArray)(i:Nat):Nat:=
 if 3<=s.size-i/\nL yw (s.extract i s.size) 3=true then 3
 else if 2<=s.size-i/\nL yx (s.extract i s.size) 2=true then 2
 else if 1<=s.size-i/\nL yy (s.extract i s.size) 1=true then 1
 else 0
def mI(s:ByteArray)(i:Nat)(l:List cz):MV:=
 if dP s i=0 then .bad i else .go (i+dP s i) (l++[⟨6,s.extract i (i+dP s i),i⟩])
theorem It[NsC](X:Nat)(s:ByteArray)(i:Nat)(l:List cz)(w:World)(h:ij w X s i l)(hT:bQ w)(hl:l.length+1<=65537)(hi:i<s.size):
  Calls prog 173 #[X] w (iX X s w (mI s i l) (.tuple #[])):=by
 obtain⟨lv,nv,gk⟩:=h.out;have hb:=gk.blk;have gx:=h.le;have gw:=h.most;have z:=hb.lt;have HH:=hid h;obtain⟨x0,x1,x2,x3,-,-,-,-⟩:=ah hb;(have p0:(0:Int)<=(i:Int):=by omega);(have p2:(i:Int)<=(s.size:Int):=by omega);have ge:=dA s i;have M:Hid (dP s i=if 3<=(s.extract i s.size).size/\nL yw (s.extract i s.size) 3=true then 3 else if 2<=(s.extract i s.size).size/\nL yx (s.extract i s.size) 2=true then 2 else if 1<=(s.extract i s.size).size/\nL yy (s.extract i s.size) 1=true then 1 else 0):=hid (by rw[ge];rfl);have H3:=hid (fun w'(hb:Below w w w')=>dz (⟨#[32]⟩++yw++⟨#[32]⟩) (⟨#[32]⟩++(s.extract i s.size).extract 0 3++⟨#[32]⟩) w' (hT.below hb) (gM (show _<=100 by decide +kernel) (by omega)));have H2:=hid (fun w'(hb:Below w w w')=>dz (⟨#[32]⟩++yx++⟨#[32]⟩) (⟨#[32]⟩++(s.extract i s.size).extract 0 2++⟨#[32]⟩) w' (hT.below hb) (gM (show _<=100 by decide +kernel) (by omega)));have H1:=hid (fun w'(hb:Below w w w')=>dz (⟨#[32]⟩++yy++⟨#[32]⟩) (⟨#[32]⟩++(s.extract i s.size).extract 0 1++⟨#[32]⟩) w' (hT.below hb) (gM (show _<=100 by decide +kernel) (by omega)));rw[show Lib.contains ((⟨#[32]⟩++yy++⟨#[32]⟩:ByteArray)).data.toList ((⟨#[32]⟩++(s.extract i s.size).extract 0 1++⟨#[32]⟩:ByteArray)).data.toList=nL yy (s.extract i s.size) 1 from rfl]at H1;rw[show Lib.contains ((⟨#[32]⟩++yx++⟨#[32]⟩:ByteArray)).data.toList ((⟨#[32]⟩++(s.extract i s.size).extract 0 2++⟨#[32]⟩:ByteArray)).data.toList=nL yx (s.extract i s.size) 2 from rfl]at H2;rw[show Lib.contains ((⟨#[32]⟩++yw++⟨#[32]⟩:ByteArray)).data.toList ((⟨#[32]⟩++(s.extract i s.size).extract 0 3++⟨#[32]⟩:ByteArray)).data.toList=nL yw (s.extract i s.size) 3 from rfl]at H3;clear hT;generalize nL yw (s.extract i s.size) 3=c3 at *;generalize nL yx (s.extract i s.size) 2=c2 at *;generalize nL yy (s.extract i s.size) 1=c1 at *;(have g3:yw.size<=100:=by decide +kernel);(have g2:yx.size<=100:=by decide +kernel);(have g1:yy.size<=100:=by decide +kernel);have gl:=hid (fun w=>FC w);generalize yw=r3 at *;generalize yx=r2 at *;generalize yy=r1 at *;(go_enter func173,ntmps173);go_wp2_with fail;go_quiet (fail);have hB:=az (gC w.heap.size w) nq;generalize w.drewN nq=w1 at *;generalize s.extract i s.size=t at *;clear x0 x1 x2 x3;go_wp2_with fail;refine(gl.out _).mono ?_;rintro e w2⟨rfl,gi⟩;have I:=aE hB gi;clear gi gl;have HQ:=HH.out.below I;obtain⟨gq,gp,gd⟩:=HQ.out;have gj:=gd.blk;obtain⟨x0,x1,x2,x3,f0,f1,f2,f3⟩:=ah gj;have gv:∀W:World,(Instr.index 92 (.agg #[.string r3,.string r2,.string r1]) (.int .i64 0)).run prog W=.ok (.string r3) W:=fun W=>tS r3 r2 r1 0 (by omega) W;have gu:∀W:World,(Instr.index 92 (.agg #[.string r3,.string r2,.string r1]) (.int .i64 1)).run prog W=.ok (.string r2) W:=fun W=>tS r3 r2 r1 1 (by omega) W;have gt:∀W:World,(Instr.index 92 (.agg #[.string r3,.string r2,.string r1]) (.int .i64 2)).run prog W=.ok (.string r1) W:=fun W=>tS r3 r2 r1 2 (by omega) W;(have k1:1<=t.size:=by omega);have ga:=hid ge;clear hb gj HH h ge gk gd;go_wp2_with fail;refine kG 4 ?_;by_cases k3:3<=t.size
 ·(have gn:(3:Int)<=(t.size:Int):=by omega);rw[jH];cases c3 with
  |true=>go_wp2_with fail;refine(H3.out _ I).mono ?_;rintro e w3⟨rfl,rfl⟩;have y:Hid (dP s i=3):=hid (by rw[M.out];simp[k3]);have q1:IntKind.i64.wrap ((i:Int)+3)=(i:Int)+3:=gQ _ (by omega);(have q2:IntKind.i64.wrap ((i:Int)+3-3)=(i:Int):=by rw[show(i:Int)+3-3=(i:Int)by omega];exact gQ _ (by omega));(have O:i+3<=s.size:=by have:=ga.out;omega);have D:=HQ.set (i+3) (by omega) O;rw[show((i+3:Nat):Int)=(i:Int)+3 by omega]at D;have J:=hid D;clear D;go_wp2_with fail;have D:=J.out;refine(iD X s (i+3) l 6 i (by omega) hl _ D).mono ?_;rintro e w4⟨rfl,q,x⟩;go_wp2_with fail;refine jD (qI rfl _ _ _) rfl ?_;unfold iX mI;rw[gE (by rw[y.out];omega),y.out];exact⟨rfl,q,((I.mono (jV z)).setCell (gA _) _).trans x⟩
  | false=>
   go_wp2_with fail;refine(H3.out _ I).mono ?_;rintro e w3⟨rfl,rfl⟩;go_wp2_with fail;(have k2:2<=t.size:=by omega);(have gg:(2:Int)<=(t.size:Int):=by omega);rw[jH];cases c2 with
   |true=>go_wp2_with fail;refine(H2.out _ I).mono ?_;rintro e w3⟨rfl,rfl⟩;have y:Hid (dP s i=2):=hid (by rw[M.out];simp[k2]);have q1:IntKind.i64.wrap ((i:Int)+2)=(i:Int)+2:=gQ _ (by omega);(have q2:IntKind.i64.wrap ((i:Int)+2-2)=(i:Int):=by rw[show(i:Int)+2-2=(i:Int)by omega];exact gQ _ (by omega));(have O:i+2<=s.size:=by have:=ga.out;omega);have D:=HQ.set (i+2) (by omega) O;rw[show((i+2:Nat):Int)=(i:Int)+2 by omega]at D;have J:=hid D;clear D;go_wp2_with fail;have D:=J.out;refine(iD X s (i+2) l 6 i (by omega) hl _ D).mono ?_;rintro e w4⟨rfl,q,x⟩;go_wp2_with fail;refine jD (qI rfl _ _ _) rfl ?_;unfold iX mI;rw[gE (by rw[y.out];omega),y.out];exact⟨rfl,q,((I.mono (jV z)).setCell (gA _) _).trans x⟩
   |false=>
    go_wp2_with fail;refine(H2.out _ I).mono ?_;rintro e w3⟨rfl,rfl⟩;go_wp2_with fail;(have gh:(1:Int)<=(t.size:Int):=by omega);rw[jH];cases c1 with
    |true=>go_wp2_with fail;refine(H1.out _ I).mono ?_;rintro e w3⟨rfl,rfl⟩;have y:Hid (dP s i=1):=hid (by rw[M.out];simp[k1]);have q1:IntKind.i64.wrap ((i:Int)+1)=(i:Int)+1:=gQ _ (by omega);(have q2:IntKind.i64.wrap ((i:Int)+1-1)=(i:Int):=by rw[show(i:Int)+1-1=(i:Int)by omega];exact gQ _ (by omega));(have O:i+1<=s.size:=by have:=ga.out;omega);have D:=HQ.set (i+1) (by omega) O;rw[show((i+1:Nat):Int)=(i:Int)+1 by omega]at D;have J:=hid D;clear D;go_wp2_with fail;have D:=J.out;refine(iD X s (i+1) l 6 i (by omega) hl _ D).mono ?_;rintro e w4⟨rfl,q,x⟩;go_wp2_with fail;refine jD (qI rfl _ _ _) rfl ?_;unfold iX mI;rw[gE (by rw[y.out];omega),y.out];exact⟨rfl,q,((I.mono (jV z)).setCell (gA _) _).trans x⟩
    |false=>go_wp2_with fail;refine(H1.out _ I).mono ?_;rintro e w3⟨rfl,rfl⟩;go_wp2_with fail;have y:Hid (dP s i=0):=hid (by rw[M.out];simp[]);rw[jH];go_wp2_with fail;refine(eK X i _).mono ?_;rintro e w4⟨rfl,rfl⟩;unfold dO;refine⟨rfl,?_⟩;unfold iX mI;rw[gL y.out];exact⟨rfl,I.mono (jV z)⟩
 ·(have gr:decide (3<=t.size)=false:=by rw[gH];exact k3);(have gn:decide ((3:Int)<=(t.size:Int))=false:=by rw[gH];omega);have gb:=hid k3;clear k3;rw[jH];go_wp2_with fail;by_cases k2:2<=t.size
  ·(have gg:(2:Int)<=(t.size:Int):=by omega);rw[jH];cases c2 with
   |true=>go_wp2_with fail;refine(H2.out _ I).mono ?_;rintro e w3⟨rfl,rfl⟩;have y:Hid (dP s i=2):=hid (by rw[M.out];simp[gb.out,k2]);have q1:IntKind.i64.wrap ((i:Int)+2)=(i:Int)+2:=gQ _ (by omega);(have q2:IntKind.i64.wrap ((i:Int)+2-2)=(i:Int):=by rw[show(i:Int)+2-2=(i:Int)by omega];exact gQ _ (by omega));(have O:i+2<=s.size:=by have:=ga.out;omega);have D:=HQ.set (i+2) (by omega) O;rw[show((i+2:Nat):Int)=(i:Int)+2 by omega]at D;have J:=hid D;clear D;go_wp2_with fail;have D:=J.out;refine(iD X s (i+2) l 6 i (by omega) hl _ D).mono ?_;rintro e w4⟨rfl,q,x⟩;go_wp2_with fail;refine jD (qI rfl _ _ _) rfl ?_;unfold iX mI;rw[gE (by rw[y.out];omega),y.out];exact⟨rfl,q,((I.mono (jV z)).setCell (gA _) _).trans x⟩
   |false=>
    go_wp2_with fail;refine(H2.out _ I).mono ?_;rintro e w3⟨rfl,rfl⟩;go_wp2_with fail;(have gh:(1:Int)<=(t.size:Int):=by omega);rw[jH];cases c1 with
    |true=>go_wp2_with fail;refine(H1.out _ I).mono ?_;rintro e w3⟨rfl,rfl⟩;have y:Hid (dP s i=1):=hid (by rw[M.out];simp[gb.out,k1]);have q1:IntKind.i64.wrap ((i:Int)+1)=(i:Int)+1:=gQ _ (by omega);(have q2:IntKind.i64.wrap ((i:Int)+1-1)=(i:Int):=by rw[show(i:Int)+1-1=(i:Int)by omega];exact gQ _ (by omega));(have O:i+1<=s.size:=by have:=ga.out;omega);have D:=HQ.set (i+1) (by omega) O;rw[show((i+1:Nat):Int)=(i:Int)+1 by omega]at D;have J:=hid D;clear D;go_wp2_with fail;have D:=J.out;refine(iD X s (i+1) l 6 i (by omega) hl _ D).mono ?_;rintro e w4⟨rfl,q,x⟩;go_wp2_with fail;refine jD (qI rfl _ _ _) rfl ?_;unfold iX mI;rw[gE (by rw[y.out];omega),y.out];exact⟨rfl,q,((I.mono (jV z)).setCell (gA _) _).trans x⟩
    |false=>go_wp2_with fail;refine(H1.out _ I).mono ?_;rintro e w3⟨rfl,rfl⟩;go_wp2_with fail;have y:Hid (dP s i=0):=hid (by rw[M.out];simp[gb.out]);rw[jH];go_wp2_with fail;refine(eK X i _).mono ?_;rintro e w4⟨rfl,rfl⟩;unfold dO;refine⟨rfl,?_⟩;unfold iX mI;rw[gL y.out];exact⟨rfl,I.mono (jV z)⟩
  ·(have gs:decide (2<=t.size)=false:=by rw[gH];exact k2);(have gg:decide ((2:Int)<=(t.size:Int))=false:=by rw[gH];omega);have gm:=hid k2;clear k2;rw[jH];go_wp2_with fail;(have gh:(1:Int)<=(t.size:Int):=by omega);rw[jH];cases c1 with
   |true=>go_wp2_with fail;refine(H1.out _ I).mono ?_;rintro e w3⟨rfl,rfl⟩;have y:Hid (dP s i=1):=hid (by rw[M.out];simp[gb.out,gm.out,k1]);have q1:IntKind.i64.wrap ((i:Int)+1)=(i:Int)+1:=gQ _ (by omega);(have q2:IntKind.i64.wrap ((i:Int)+1-1)=(i:Int):=by rw[show(i:Int)+1-1=(i:Int)by omega];exact gQ _ (by omega));(have O:i+1<=s.size:=by have:=ga.out;omega);have D:=HQ.set (i+1) (by omega) O;rw[show((i+1:Nat):Int)=(i:Int)+1 by omega]at D;have J:=hid D;clear D;go_wp2_with fail;have D:=J.out;refine(iD X s (i+1) l 6 i (by omega) hl _ D).mono ?_;rintro e w4⟨rfl,q,x⟩;go_wp2_with fail;refine jD (qI rfl _ _ _) rfl ?_;unfold iX mI;rw[gE (by rw[y.out];omega),y.out];exact⟨rfl,q,((I.mono (jV z)).setCell (gA _) _).trans x⟩
   |false=>go_wp2_with fail;refine(H1.out _ I).mono ?_;rintro e w3⟨rfl,rfl⟩;go_wp2_with fail;have y:Hid (dP s i=0):=hid (by rw[M.out];simp[gb.out,gm.out]);rw[jH];go_wp2_with fail;refine(eK X i _).mono ?_;rintro e w4⟨rfl,rfl⟩;unfold dO;refine⟨rfl,?_⟩;unfold iX mI;rw[gL y.out];exact⟨rfl,I.mono (jV z)⟩
end
end Go.Proofs.YtcoiialmdncpfaaGreatDoor
