/-
  Parts of the proof: Olight Oord. By an AI agent.
-/
import Derived.Test.YtcoiialmdncpfaaGreatDoorJ31
import Derived.Test.YtcoiialmdncpfaaGreatDoorJ32
import Derived.Test.YtcoiialmdncpfaaGreatDoorJ19
import Derived.Test.YtcoiialmdncpfaaGreatDoorJ13
import Derived.Test.YtcoiialmdncpfaaGreatDoorJ34
import Derived.Test.YtcoiialmdncpfaaGreatDoorJ10
import Derived.Test.YtcoiialmdncpfaaGreatDoorJ00
import Derived.Deep.RegionHeld3
import Derived.Deep.CutBlock
import Derived.Lib.SmallJoins
import Derived.BigQuiet
open Go.Proofs.Tryz
set_option maxRecDepth 100000
set_option maxHeartbeats 8000000
namespace Go.Proofs.YtcoiialmdncpfaaGreatDoor
section
open Go.RowKit Go.Lib Go.Proofs Go.Joins
attribute [local go_sem ↓] Go.wp_at_zero Go.wp_at_succ
def wZ(x:my):Prop:=x.1.size<=100/\x.2.2.2.size<=1000
def O1(n:Nat)(l:List my)(w:World)(e:Ending)(w':World):Prop:=w=w'/\∃b,e=.returned (.bool b)/\(b=true->n<=10/\∀x∈l,wZ x)
theorem GP(A:Option Addr)(n c:Nat)(l:List my)(w:World)(hl:l.length=n)(z:aA w w.heap.size 2 A n (l.flatMap f9)):
  Calls prog 4 #[.slice A n c,.int .i64 10] w (O1 n l w):=by
 by_cases ga:n<=10
 case neg=>(have h1:(n:Int)>10:=by omega);clear z;(go_enter func4,ntmps4);go_wp2_with fail;go_ret;exact⟨rfl,_,rfl,fun h=>by cases h⟩
 (have h1:¬ (n:Int)>10:=by omega);have HR:=hid z;have HL:=hid hl;clear z hl;(go_enter func4,ntmps4);go_wp2_with fail;go_loopg [5] n (fun g u5 wr=>∃i:Nat,i<=n/\n-i<=g/\u5=.int .i64 (i:Int)/\w=wr/\∀j(h:j<l.length),j<i->wZ l[j])
 case atStart=>exact⟨0,gT _,by omega,rfl,rfl,fun j _ h=>by omega⟩
 case round=>
  obtain⟨i,hi,hg,rfl,rfl,D⟩:=hrel;have O:=hid D;clear D;by_cases J:i<n
  ·(have I:(i:Int)<(n:Int):=by omega);(have gb:(0:Int)<=(i:Int):=by omega);obtain⟨bk,off,rfl,gd,hc⟩:=HR.out.el mH (by omega) HL.out J;(have M:i<l.length:=by rw[HL.out];exact J);have k0:=hc i M 0 _ rfl;have k1:=hc i M 1 _ rfl;have HJ:=hid (show wZ l[i]->∀j(h:j<l.length),j<i+1->wZ l[j]from fun hp j h hj=>by
    by_cases e:j=i
    ·subst e;exact hp
    ·exact O.out j h (by omega))
   unfold wZ at HJ;generalize l[i]=x at *;obtain⟨nm,sa,sc,sb⟩:=x;simp only[kF]at k0 k1 HJ;clear hc;by_cases y:nm.size<=100
   ·(have z1:¬ (nm.size:Int)>100:=by omega);by_cases q:sb.size<=1000
    ·(have z2:¬ (sb.size:Int)>1000:=by omega);go_wp2_with fail;go_roundg (n-(i+1))
     case measure=>omega
     case rel=>exact⟨i+1,by omega,by omega,by go_num,rfl,HJ.out ⟨y,q⟩⟩
    ·(have z2:(sb.size:Int)>1000:=by omega);go_wp2_with fail;go_ret;exact⟨rfl,_,rfl,fun h=>by cases h⟩
   ·(have z1:(nm.size:Int)>100:=by omega);go_wp2_with fail;go_ret;exact⟨rfl,_,rfl,fun h=>by cases h⟩
  ·(have I:¬ (i:Int)<(n:Int):=by omega);go_wp2_with fail;go_ret;refine⟨rfl,_,rfl,fun _=>⟨ga,fun x hx=>?_⟩⟩;obtain⟨j,hj,rfl⟩:=List.mem_iff_getElem.1 hx;exact O.out j hj (by have:=HL.out;omega)
def Mk(w:World)(B:Nat)(xs:List my):Prop:=∀x∈xs,w.ownsRow B 5 1 (.slice x.2.1 x.2.2.2.size x.2.2.1) x.2.2.2.size (x.2.2.2.data.toList.flatMap la)
theorem Pq:(prog.info? 5).map (fun i=>(i.zero,i.size,i.bytes))=some (some (.int .u8 0),1,1):=by kernel_rfl
theorem Ml(w:World):(w.alloc (.cells #[] 5)).ownsRow w.heap.size 5 1 (.slice (some ⟨w,0,none⟩) 0 0) 0 []:=
 ⟨by simp,.inr ⟨w.heap.size,0,#[],rfl,gA _,kJ w _,gA _,by unfold maxLen;omega,by simp,by simp⟩⟩
theorem GQ(l:List UInt8):∀u∈l.flatMap la,u.oneCell'=true:=by intro u hu;obtain⟨b,-,hb⟩:=List.mem_flatMap.1 hu;obtain rfl:=List.mem_singleton.1 hb;rfl
theorem Mm{w:World}{B:Nat}{e:TypeId}{s n:Nat}{v:Value}{xs:List Value}(h:w.ownsRow B e s v n xs):w.drew.ownsRow B e s v n xs:=fk h (gC _ _).drew
theorem EN{w:World}{B:Nat}{A:Option Addr}{c:Nat}{s:ByteArray}(h:w.ownsRow B 5 1 (.slice A s.size c) s.size (s.data.toList.flatMap la)):bR w A c s:=by
 rcases h.2 with⟨z,q⟩|⟨g,cap,cur,O,-,J,I,-,-,M⟩
 ·injection z with e1 e2 e3;refine .inl ⟨e1,e3,?_⟩;have hd:s.data = #[]:=Array.eq_empty_of_size_eq_zero q;cases s;exact qD _ hd
 ·injection O with e1 e2 e3;subst e1 e3;refine .inr ⟨g,0,rfl,I,(Array.getElem?_eq_some_iff.1 J).1,fun i hi=>?_⟩;have D:(s.data.toList.flatMap la)[i]? = some (.int .u8 (s[i].toNat:Int)):=by
   have x:s.data.toList.flatMap la=s.data.toList.map fun u=>Value.int .u8 (u.toNat:Int):=by
    generalize s.data.toList=L;induction L with
    |nil=>rfl
    |cons a L ih=>rw[qR,ih];rfl
   rw[x,xc,vY,vH (xs:=s.data) hi];rfl
  rw[kL];(have y:w.cell? ⟨g,i,none⟩=cur[i]? :=by simp[World.cell?,J]);rw[y];rw[<-M,List.getElem?_take]at D;split at D
  ·rw[vY]at D;exact D
  ·cases D
def Mn(n:Nat)(l:List my)(w:World)(e:Ending)(w':World):Prop:=∃A' c' xs,e=.returned (.slice A' n c')/\xs.length=n/\aA w' w'.heap.size 2 A' n (xs.flatMap f9)/\B2 w' w'.heap.size xs/\(∀x∈xs,bR w' x.2.1 x.2.2.1 x.2.2.2)/\xs.map bB=l.map bB/\Below w w w'
theorem tH(A:Option Addr)(n c:Nat)(l:List my)(w:World)(hl:l.length=n)(hn:n<=10)(hr:aA w w.heap.size 2 A n (l.flatMap f9))(O:B2 w w.heap.size l):
  Calls prog 7 #[.slice A n c] w (Mn n l w):=by
 obtain⟨i0,hi,gr,gq,gp⟩:=qr Pq;obtain⟨j0,hj,gv,gu,gt⟩:=qr Fg;have HR:=hid hr;have HL:=hid hl;have HX:=hid O;clear hr hl O;(go_enter func7,ntmps7);go_wp2_with fail;go_loopg [3,4] n (fun g u3 u4 wr=>∃(i:Nat)(xs:List my),i<=n/\n-i<=g/\u4=.int .i64 (i:Int)/\xs.length=i/\wr.ownsRow w.heap.size 46 2 u3 i (xs.flatMap f9)/\Mk wr w.heap.size xs/\xs.map bB=(l.take i).map bB/\Below w w wr)
 case atStart=>exact⟨0,[],gT _,by omega,rfl,rfl,kP _ _ _ _,nofun,by simp,gC _ _⟩
 case round=>
  rename World=>wr;obtain⟨i,xs,gz,hg,rfl,ga,J,gd,I,hB⟩:=hrel;have gl:=hid ga;have gh:=hid gd;have gn:=hid I;have M:=hid J;have HB:=hid hB;have gb:=hB.size;by_cases yk:i<n
  ·clear ga gd I hB J;(have gj:(i:Int)<(n:Int):=by omega);(have g0:(0:Int)<=(i:Int):=by omega);obtain⟨bk,off,rfl,gg,hc⟩:=HR.out.el mH (by omega) HL.out yk;(have q:i<l.length:=by rw[HL.out];exact yk);have K0:=hid (hc i q 0 _ rfl);have K1:=hid (hc i q 1 _ rfl);have gm:=hid (HX.out l[i] (jF q));have gw:=hid (show(l.take (i+1)).map bB=(l.take i).map bB++[bB l[i]]by rw[kC q,kW];rfl);generalize l[i]=y at *;obtain⟨nm,sa,sc,sb⟩:=y;simp only[kF]at K0 K1;have k0:wr.cell? ⟨bk,off+i*2,none⟩=some (.string nm):=(HB.out.cell (p:=⟨bk,off+i*2,none⟩) gg).trans K0.out;have k1:wr.cell? ⟨bk,off+i*2+1,none⟩=some (.slice sa sb.size sc):=(HB.out.cell (p:=⟨bk,off+i*2+1,none⟩) gg).trans K1.out;have gx:=hid ((gm.out.1.below HB.out).more gb);have gy:sb.size<=100000:=gm.out.2;(have ge:bk<wr.heap.size:=by omega);clear hc;(go_upto_block 1 with fail);go_cut [3] (fun s3 wy=>∃z c1,wy.ownsRow w.heap.size 46 2 s3 (i+1) ((xs++[(nm,z,c1,sb)]).flatMap f9)/\Mk wy w.heap.size (xs++[(nm,z,c1,sb)])/\Below w w wy)
   case first=>
    go_wp2_with fail;go_region_held3 (fun w'=>w'.cell? ⟨bk,off+i*2,none⟩=some (.string nm)/\w'.cell? ⟨bk,off+i*2+1,none⟩=some (.slice sa sb.size sc))
     (first
      |(go_keep;done)
      |(refine⟨?_,?_⟩<;>(rw[D.cell (by exact ge)];first|exact k0|exact k1))
      |(refine⟨?_,?_⟩<;>(rw[h.cell (by exact gg)];first|exact K0.out|exact K1.out))
      |(refine⟨?_,?_⟩<;>(rw[World.cell?_alloc_lt _ _ _ (by exact jY ge D.size),D.cell (by exact ge)];first|exact k0|exact k1)))
     ((first
       |(refine dt _ (by rfl) (.tmp 17) (.tmp 22) _ (by rfl) wr.heap.size 5 i0 _ 1 1 underlying22 hi gr gq gp (by rfl) (by omega) (.slice (some ⟨wr,0,none⟩) 0 0) 0 [] (by rfl) (Mm (Ml wr)) wr.heap.size sa sb.size sc (sb.data.toList.flatMap la) (by rfl) ((gx.out.alloc (gA _) _).drew) (GQ _) (by unfold maxLen;omega) (by omega) (by simp) ?_;intro v1 w1 hown1 hg1 hat1;have D:Below wr wr w1:=(((gC wr.heap.size wr).alloc (gA _) _).drew).grown hg1 (by simp) (by simp[Value.ownBlock]);obtain⟨z,c1,rfl,g1⟩:=iZ hown1)
       |(refine dt _ (by rfl) (.tmp 11) (.tmp 25) _ (by rfl) w.heap.size 46 j0 _ 2 40 underlying35 hj gv gu gt (by rfl) (by omega) u3 i (xs.flatMap f9) (by rfl) (kQ (fk M.out D) _) (w1.heap.size+1) (some ⟨w1,0,none⟩) 1 1 [.string nm,.slice z sb.size c1] (by rfl) (cc (fr:=(0,0)) (t:=46) (kJ w1 _) (by rfl) (jO _)) (by simp[Value.oneCell']) (by unfold maxLen;omega) (by omega) (by have:=D.size;rw[gP];omega) ?_;intro v2 w2 hown2 hg2 hat2;have h:Below w w w2:=(HB.out.trans (D.mono gb)).alloc (by have:=D.size;omega) _ |>.grown hg2 (by have:=D.size;rw[gP];omega) (fun g hg=>(M.out.lt g hg).1))))
    (all_goals go_wp2_with fail);(all_goals go_meet);all_goals
     refine⟨z,c1,by rw[kO];exact hown2,fun x O=>?_,h⟩;have gi:=kQ (fk M.out D) (.cells #[.string nm,.slice z sb.size c1] 46);rcases List.mem_append.1 O with O|O
     ·exact AB gi (kQ (fk (gh.out x O) D) _) (by decide) hg2
     ·obtain rfl:=List.mem_singleton.1 O;rw[kL,qE]at hown1;exact AB gi (kQ (OV hown1 gb) _) (by decide) hg2
   case rest=>
    obtain⟨z,c1,h1,h2,h3⟩:=hcut;clear k0 k1;go_wp2_with fail;go_roundg (n-(i+1))
    case measure=>omega
    case rel=>exact⟨i+1,xs++[(nm,z,c1,sb)],by omega,by omega,by go_num,by simp[gl.out],h1,h2,by rw[kW,gn.out,gw.out];rfl,h3⟩
  ·(have gj:¬ (i:Int)<(n:Int):=by omega);(obtain rfl:i=n:=by omega);rw[jU (by have:=HL.out;omega)]at I;obtain⟨A',c',rfl,-⟩:=iZ J;clear J gd hB ga;go_wp2_with fail;go_ret;refine⟨A',c',xs,rfl,gl.out,aA.of_own M.out,fun x O=>⟨aA.of_own (gh.out x O),?_⟩,fun x O=>EN (gh.out x O),I,HB.out⟩;have hk:bB x∈l.map bB:=I▸List.mem_map_of_mem O;obtain⟨y,hy,gs⟩:=List.mem_map.1 hk;have:=(HX.out y hy).2;rw[show x.2.2.2=y.2.2.2 from(qD Prod.snd gs).symm];exact this
end
section
open Go.RowKit Go.Lib Go.Proofs Go.Joins Go.Shelf
attribute [local go_sem ↓] Go.wp_at_zero Go.wp_at_succ
theorem NS:(prog.info? 27).map (fun i=>(i.zero,i.size,i.bytes))=some (some (.agg #[.string ⟨#[]⟩,.slice none 0 0]),2,40):=by kernel_rfl
def Pw(l:List my)(m:Nat):Prop:=∀p(hp:p<l.length),m<=p->∀q(hq:q<l.length),q<p->l[q].1≠l[p].1
theorem GS{l:List my}(h:Pw l 0):sh (l.map bB):=by unfold sh;rw[List.pairwise_map,List.pairwise_iff_getElem];exact fun i j hi hj hij=>h j hj (gT _) i hi hij
theorem Mp{l:List my}{n j i:Nat}(I:l.length=n)(J:j+i+1=n)(M:i<l.length):l.reverse.take (j+1)=l.reverse.take j++[l[i]]:=by(have D:j<l.reverse.length:=by rw[p5];omega);rw[kC D,List.getElem_reverse];congr 2;congr 1;omega
theorem GT(x y:ByteArray)(z:Int)(W:World):(binOp .neq 38 (.agg #[x,y,z]) (.agg #[x,y,z])).run prog W=.ok (.bool false) W:=by rw[run_neq_struct];simp[go_sem]
theorem Pp.bel{w w':World}{l:List Un}{xs:List Value}(h:Pp w l xs)(hb:Below w w w'):Pp w' l xs:=
 mQ.keepC (fun b _⟨_,_,_,D⟩=>hb.block b (Array.getElem?_eq_some_iff.1 D).1) _ _ h
theorem mQ.at_{X:Nat->Prop}{w:World}:∀(l:List Un)(xs:List Value),mQ X w l xs->∀i(h:i<l.length),∃A c,(∀j v,([.string l[i].1,.int .i64 l[i].2.1,.int .i64 l[i].2.2.kind,.string l[i].2.2.text,.slice A l[i].2.2.kids.length c,.int .i64 l[i].2.2.pos]:List Value)[j]? = some v->xs[i*6+j]? = some v) /\
  aq X w (.agg #[.int .i64 l[i].2.2.kind,.string l[i].2.2.text,.slice A l[i].2.2.kids.length c,.int .i64 l[i].2.2.pos]) l[i].2.2
 |[],_,_,i,h=>absurd h (by simp)
 |x::l,xs,D,0,h=>by obtain⟨A,c,ys,rfl,J,I⟩:=D;refine⟨A,c,fun j v hj=>?_,J⟩;simp only[vB]at hj;rw[vC,kL,List.getElem?_append_left (List.getElem?_eq_some_iff.1 hj).1];exact hj
 |x::l,xs,D,i+1,h=>by obtain⟨A,c,ys,rfl,J,I⟩:=D;obtain⟨A',c',O,M⟩:=mQ.at_ l ys I i (by simpa using h);refine⟨A',c',fun j v hj=>?_,M⟩;rw[vd (by simp;omega)];have:=O j v hj;rw[<-this];congr 1;simp;omega
theorem EO{s:ByteArray}{mi m:Int}{tags:List ByteArray}{t:Nd}(h:r5 s mi tags=.un m t):dD fG s=.tree t:=by
 unfold r5 at h;split at h
 ·cases h
 ·split at h
  ·cases h
  ·cases D:dD fG s with
   |out=>rw[D]at h;cases h
   |bad p k=>rw[D]at h;cases h
   | tree n=>
    rw[D]at h;unfold rZ at h;simp only at h;split at h
    ·split at h
     ·cases h
     ·injection h with _ h;rw[h]
    ·cases h
theorem Mq{s:ByteArray}{n:Nd}(h:dD fG s=.tree n):∃L,db s=.toks L/\∃D,fu fG ⟨L,(s.size:Int)⟩ ⟨0,false,-1⟩=.ok n D/\D.at_=L.length/\bJ ⟨L,(s.size:Int)⟩ 0 0 0 n L.length/\cB n=true:=by
 unfold dD at h;cases J:db s with
 |err p e=>rw[J]at h;cases h
 | toks L=>
  rw[J]at h;have h:lB ⟨L,(s.size:Int)⟩ (fu fG ⟨L,(s.size:Int)⟩ ⟨0,false,-1⟩)=.tree n:=h;cases I:fu fG ⟨L,(s.size:Int)⟩ ⟨0,false,-1⟩with
  |out=>rw[I]at h;cases h
  |fail p=>rw[I]at h;cases h
  | ok m D=>
   rw[I]at h;unfold lB at h;simp only at h;split at h
   ·cases h
   ·rename_i x;split at h
    ·rename_i M;injection h with h;subst h;have O:=t7 (oT J) I;have y:D.at_<=L.length:=O.le;(have q:D.at_=L.length:=by omega);rw[q]at O;exact⟨L,rfl,D,I,q,O,M⟩
    ·cases h
theorem Mr{s:ByteArray}{n:Nd}(h:dD fG s=.tree n):ie 200 n:=by
 obtain⟨L,M,O,-,-,I,D⟩:=Mq h;have q:=I.cnt;have J:tQ 100 n:=Et 100 n (.inr I.ok) (by have:=(fz (oS M)).2.1;omega);(have hd:mf n<=100:=by unfold cB at D;rw[gR,jG]at D;exact D.1);have key:∀(k:Nat),ie (100+k) n:=by
  intro k;induction k with
  |zero=>exact m8 J hd
  |succ k ih=>exact ih.succ
 exact key 100
theorem Ms{path sm:ByteArray}{us:List Un}{K:List Bs}{tags:List ByteArray}(h:tG.good path us=nO sm K tags):∀u∈us,ie 200 u.2.2:=by
 unfold nO yD at h;split at h
 ·injection h with _ h;subst h;intro u hu;unfold dE at hu;obtain⟨j,-,I⟩:=List.mem_flatMap.1 hu;cases D:o9 (nE sm).2.1 tags K j with
  |fnd t p=>rw[D]at I;simp[Md]at I
  |skip=>rw[D]at I;simp[Md]at I
  |un m t=>
   rw[D]at I;simp only[Md,List.mem_singleton]at I;subst I;unfold o9 at D;split at D
   ·exact Mr (EO D)
   ·cases D
 ·cases h
theorem NT{sm:ByteArray}{fs:List Bw}{K:List Bs}{tags:List ByteArray}(h:tG.bad fs=nO sm K tags):fs.length<=K.length+1:=by
 unfold nO yD at h;split at h
 ·cases h
 ·injection h with h;rw[h];split
  ·simp
  ·have I:=nI (nE sm).2.1 tags K K.length;(have D:(ec (nE sm).2.2).length<=1:=by unfold ec;split<;>simp);rw[gJ];omega
theorem Mt{path sm:ByteArray}{us:List Un}{K:List Bs}{tags:List ByteArray}(h:tG.good path us=nO sm K tags):us.length<=K.length:=by
 unfold nO yD at h;split at h
 ·injection h with _ h;rw[h];exact nJ _ _ _ _
 ·cases h
def NU(w:World)(e:Ending)(w':World):Prop:=e=.returned (.bool true)/\Below w w w'
theorem EP(A:Option Addr)(n c:Nat)(l:List my)(Am:Option Addr)(cm:Nat)(sm:ByteArray)(At:Option Addr)(ct:Nat)(tags:List ByteArray)(w:World)(ja:bR w Am cm sm)(hl:l.length=n)(hr:aA w w.heap.size 2 A n (l.flatMap f9))
  (hx:∀x∈l,aA w w.heap.size 1 x.2.1 x.2.2.2.size (x.2.2.2.data.toList.flatMap la))(hT:fQ w)(hN:mG w)(jb:sU w At tags):
  Calls prog 3 #[.slice Am sm.size cm,.slice A n c,.slice At tags.length ct] w (NU w):=by
 by_cases hz:1000<sm.size
 ·(have ke:(sm.size:Int)>1000:=by omega);clear ja hr hx hT hN jb;(go_enter func3,ntmps3);go_wp2_with fail;go_ret;exact⟨rfl,gC _ _⟩
 (have ke:¬ (sm.size:Int)>1000:=by omega);have kb:=hid (GP A n c l w hl hr);have HR:=hid hr;have HL:=hid hl;have HX:=hid hx;have jg:=hid ja;have HT:=hid hT;have HN:=hid hN;have jh:=hid jb;clear ja hr hx hT hN jb hl;(go_enter func3,ntmps3);go_wp2_with fail;refine kb.out.mono ?_;rintro e w0⟨rfl,b,rfl,hb⟩;clear kb;cases b with
 |false=>go_wp2_with fail;go_ret;exact⟨rfl,gC _ _⟩
 |true=>
 obtain⟨hn,jy⟩:=hb rfl;clear hb;by_cases ht:20<tags.length
 ·(have kj:(tags.length:Int)>20:=by omega);go_wp2_with fail;go_ret;exact⟨rfl,gC _ _⟩
 (have kj:¬ (tags.length:Int)>20:=by omega);have kc:=hid jy;clear jy;obtain⟨i0,hi,kh,kg,kf⟩:=qr NS;go_wp2_with fail;go_loopg [7,8] (n+1) (fun g u7 u8 wr=>∃j:Nat,j<=n/\n-j<=g/\u8=.int .i64 ((n:Int)-1-(j:Int))/\wr.ownsRow w.heap.size 27 2 u7 j ((l.reverse.take j).flatMap f9)/\Below w w wr/\Pw l (n-j))
 case atStart=>exact⟨0,gT _,by omega,by simp,kP _ _ _ _,gC _ _,fun p hp h=>by have:=HL.out;omega⟩
 case round=>
  rename World=>wr;obtain⟨j,hj,hg,rfl,h3,hB,h2⟩:=hrel;have gl:=hid h3;have HB:=hid hB;have gv:=hid h2;have ki:=hB.size;clear h3 hB h2;by_cases M:j<n
  ·obtain⟨i,kl⟩:∃i,j+i+1=n:=⟨n-j-1,by omega⟩;(have he:((n:Int)-1-(j:Int))=(i:Int):=by omega);rw[he];clear he;(have hw:i<l.length:=by rw[HL.out];omega);obtain⟨bk,off,rfl,gh,hc⟩:=HR.out.el mH (by omega) HL.out (show i<n by omega);have HC:=hid hc;have K0:=hid (hc i hw 0 _ rfl);have K1:=hid (hc i hw 1 _ rfl);(have j1:(0:Int)<=(i:Int):=by omega);(have k7:(i:Int)<(n:Int):=by omega);have j7:=hid (Mp HL.out kl hw);have j3:=hid (HX.out l[i] (jF hw));have jj:=hid (show(∀q(hq:q<l.length),q<i->l[q].1≠l[i].1)->Pw l (n-(j+1))from fun h p hp hm q hq hqp=>by
    by_cases e:p=i
    ·subst e;exact h q hq hqp
    ·exact gv.out p hp (by omega) q hq hqp)
   clear hc;go_wp2_with fail;go_loopg [9] i (fun g u9 wy=>∃k:Nat,k<=i/\i-k<=g/\u9=.int .i64 (k:Int)/\Below wr wr wy/\∀q(hq:q<l.length),q<k->l[q].1≠l[i].1)
   case atStart=>exact⟨0,gT _,by omega,rfl,gC _ _,fun q _ h=>by omega⟩
   case round=>
    rename World=>wy;obtain⟨k,hk,k8,rfl,gi,jw⟩:=hrel;have h1:=hid jw;have D:=hid gi;clear jw gi;have gd:=hid (aE HB.out D.out);by_cases kz:k<i
    ·(have j0:(k:Int)<(i:Int):=by omega);(have k6:(0:Int)<=(k:Int):=by omega);(have jc:(k:Int)<(n:Int):=by omega);(have jz:k<l.length:=by omega);have k0:wy.cell? ⟨bk,off+i*2,none⟩=some (.string l[i].1):=(gd.out.cell (p:=⟨bk,off+i*2,none⟩) gh).trans K0.out;have m0:wy.cell? ⟨bk,off+k*2,none⟩=some (.string l[k].1):=(gd.out.cell (p:=⟨bk,off+k*2,none⟩) gh).trans (HC.out k jz 0 _ rfl);have h8:Hid (l[k].1≠l[i].1->∀q(hq:q<l.length),q<k+1->l[q].1≠l[i].1):=hid (fun h q hq hqk=>by
      by_cases e:q=k
      ·subst e;exact h
      ·exact h1.out q hq (by omega))
     by_cases hq:l[i].1=l[k].1
     ·(have kk:(l[i].1.toList==l[k].1.toList)=true:=by rw[hq];simp);clear h1 h8 jj j7 j3 K0 K1 HC;generalize l[i].1=s1 at *;generalize l[k].1=s2 at *;go_wp2_with fail;go_quiet (fail);go_wp2_with fail;refine(pZ _ (HT.out.below (az gd.out _)) (HN.out.below (az gd.out _))).mono ?_;rintro e w2⟨rfl,gg⟩;go_wp2_with fail;go_ret;exact⟨rfl,aE (az gd.out _) gg⟩
     ·(have kk:(l[i].1.toList==l[k].1.toList)=false:=by rw[gD];exact fun h=>hq (Fj h));go_wp2_with fail;go_quiet (fail);go_wp2_with fail;go_roundg (i-(k+1))
      case measure=>omega
      case rel=>exact⟨k+1,by omega,gA _,by go_num,az D.out _,h8.out (fun h=>hq h.symm)⟩
    ·(have j0:¬ (k:Int)<(i:Int):=by omega);(obtain rfl:k=i:=by omega);have kq:=hid (jj.out h1.out);have k0:wy.cell? ⟨bk,off+k*2,none⟩=some (.string l[k].1):=(gd.out.cell (p:=⟨bk,off+k*2,none⟩) gh).trans K0.out;have k1:wy.cell? ⟨bk,off+k*2+1,none⟩=some (.slice l[k].2.1 l[k].2.2.2.size l[k].2.2.1):=(gd.out.cell (p:=⟨bk,off+k*2+1,none⟩) gh).trans K1.out;have ho:=hid (fk gl.out D.out);have kv:=D.out.size;clear h1 jj K0 K1 HC j3 gl gv;generalize l[k]=x at *;obtain⟨nm,sa,sc,sb⟩:=x;simp only at k0 k1;have ka:=hid (show aA (wy.alloc (.cells #[.string nm,.slice sa sb.size sc] 27)) (wy.heap.size+1) 2 (some ⟨wy,0,none⟩) 1 [.string nm,.slice sa sb.size sc]from cc (cs:=[.string nm,.slice sa sb.size sc]) (kJ wy _) rfl (jO _));have j9:Hid (∀u∈[Value.string nm,.slice sa sb.size sc],u.oneCell'=true):=hid (fun u hu=>by simp only[vb,qN,xj]at hu;rcases hu with rfl|rfl<;>rfl);go_wp2_with (at_builtin;refine du _ rfl (.tmp 53) (.tmp 58) 23 rfl w.heap.size 27 i0 _ 2 40 underlying23 hi kh kg kf rfl (by omega) u7 j _ rfl (kQ ho.out _) (wy.heap.size+1) (some ⟨wy,0,none⟩) 1 1 [.string nm,.slice sa sb.size sc] rfl ka.out j9.out (by unfold maxLen;omega) (by omega) (by rw[gP];omega) ?_;intro v' w3 hown3 hg3 hat3);have ko:=((gd.out.alloc (by have:=gd.out.size;omega) (.cells #[.string nm,.slice sa sb.size sc] 27)).grown hg3 (by have:=gd.out.size;rw[gP];omega) (fun g hg=>(ho.out.lt g hg).1));go_roundg (n-(j+1))
     case measure=>omega
     case rel=>exact⟨j+1,by omega,by omega,by congr 1;omega,by rw[j7.out,kO];exact hown3,ko,kq.out⟩
  ·(obtain rfl:j=n:=by omega);(have h5:Pw l 0:=by have:=gv.out;rwa [Nat.sub_self]at this);have kt:=hid (GS h5);obtain⟨Ab,cb,rfl,-⟩:=iZ gl.out;have ho:=hid (show wr.ownsRow w.heap.size 27 2 (.slice Ab j cb) j (l.reverse.flatMap f9)by have:=gl.out;rwa [jU (by rw[p5,HL.out];exact gA _)]at this);(have he:((j:Int)-1-(j:Int)) = -1:=by omega);rw[he];clear he M h5 gl gv hg hj;have ji:=hid (fun(W:World)(hb:Below w w W)x(hx:x∈l)=>(show aA W W.heap.size 1 x.2.1 x.2.2.2.size (x.2.2.2.data.toList.flatMap la)/\x.2.2.2.size<=100000 from⟨((HX.out x hx).below hb).more hb.size,by have:=(kc.out x hx).2;omega⟩));have j8:=hid (tH Ab j cb l.reverse);have HK:=hid (fun(xs:List my)(hk:xs.map bB=l.map bB\/xs.map bB=l.reverse.map bB)x(hx:x∈xs)=>(show x.1.size<=1000/\x.2.2.2.size<=100000000 by
    have hm:bB x∈l.map bB:=by
     have h0:=List.mem_map_of_mem (f:=bB) hx;rcases hk with hk|hk
     ·rw[<-hk];exact h0
     ·rw[hk,List.map_reverse,List.mem_reverse]at h0;exact h0
    obtain⟨y,hy,jo⟩:=List.mem_map.1 hm;have hp:=kc.out y hy;rw[show x.1=y.1 from(qD Prod.fst jo).symm,show x.2.2.2=y.2.2.2 from(qD Prod.snd jo).symm];exact⟨by have:=hp.1;omega,by have:=hp.2;omega⟩))
   have kd:=hid (tH A j c l wr HL.out hn ((HR.out.below HB.out).more ki) (ji.out wr HB.out));go_wp2_with fail;refine kd.out.mono ?_;rintro e w1⟨A1,c1,xs,rfl,h9,jr,-,j2,g8,jf⟩;have g2:=hid (aE HB.out jf);have gy:=hid (fk ho.out jf);have I:=callsIn_wide.1 (oY 0 xs j A1 c1 Am cm sm At ct tags w1 (by omega) (jg.out.below g2.out) (HT.out.below g2.out) (HN.out.below g2.out) ⟨by omega,jh.out.below g2.out⟩ h9 jr hn (fun x hx=>(HK.out xs (.inl g8) x hx).1) (fun x hx=>(HK.out xs (.inl g8) x hx).2) j2);(have h4:sh (xs.map bB):=by rw[g8];exact kt.out);have j4:=hid (fun(ys:List my)(hk:ys.map bB=l.reverse.map bB)=>(Dp (l1:=xs) (l2:=ys) (by rw[hk,g8,List.map_reverse];exact(List.reverse_perm _).symm) h4));(have jz:((cG xs).map bB).length<=10:=by rw[jN,fC,h9];exact hn);generalize(cG xs).map bB=K at *;obtain⟨r,hr⟩:∃r,r=nO sm K tags:=⟨_,rfl⟩;have hh:=hid hr;rw[<-hr]at I;have jk:=hid I;clear kd ho jf jr j2 h9 g8 h4 I hr;go_wp2_with fail;refine jk.out.mono ?_;cases r with
   | good path us=>
    rintro e w2⟨gg,A2,c2,jn,rfl,js,jp⟩;have kw:=Mt hh.out;have ga:Below w2 w2 (w2.alloc (.cells #[.string path,.slice A2 us.length c2] 31)):=bel;have jl:=hid (aE g2.out gg);have hv:=hid (aE jl.out ga);have hf:=aa.new w2 31 #[.string path,.slice A2 us.length c2];have gm:=hid (fk (fk gy.out gg) ga);have g4:w2.heap.size<=(w2.alloc (.cells #[.string path,.slice A2 us.length c2] 31)).heap.size:=ga.size;have yk:=hid ((js.below ga).more g4);have h7:=hid (jp.bel ga);clear js jp;clear gy gg ga jk;(go_upto_region 14 with fail);generalize w2.alloc (.cells #[.string path,.slice A2 us.length c2] 31)=w3 at *;have hs:=hid (j8.out w3 (by rw[p5];exact HL.out) hn (aA.of_own gm.out) (fun x hx=>ji.out w3 hv.out x (List.mem_reverse.1 hx)));go_wp2_with fail;refine hs.out.mono ?_;rintro e w4⟨A4,c4,ys,rfl,g3,g5,-,g9,ge,z⟩;have gb:=hid (aE hv.out z);have I:=callsIn_wide.1 (oY 0 ys j A4 c4 Am cm sm At ct tags w4 (by omega) (jg.out.below gb.out) (HT.out.below gb.out) (HN.out.below gb.out) ⟨by omega,jh.out.below gb.out⟩ g3 g5 hn (fun x hx=>(HK.out ys (.inr ge) x hx).1) (fun x hx=>(HK.out ys (.inr ge) x hx).2) g9);rw[<-j4.out ys ge,<-hh.out]at I;have gn:=hid I;have ha:=hf.bl z;have gj:=hid ((yk.out.below z).more z.size);have h6:=hid (h7.out.bel z);clear yk h7;clear hs g5 g9 g3 ge I hf gm z;go_wp2_with fail;refine gn.out.mono ?_;rintro e w5⟨O,A5,c5,jm,rfl,g6,jq⟩;have J:Below w5 w5 (w5.alloc (.cells #[.string path,.slice A5 us.length c5] 31)):=bel;have gu:=hid (aE (aE gb.out O) J);have gt:=(ha.bl O).bl J;have gz:=aa.new w5 31 #[.string path,.slice A5 us.length c5];have gx:=hid ((((gj.out.below O).more O.size).below J).more J.size);have gw:=hid ((g6.below J).more J.size);have j6:=hid ((h6.out.bel O).bel J);have j5:=hid (jq.bel J);have kr:=hid (Ms hh.out);clear gj h6 g6 jq;clear gn ha O J;(go_upto_region 15 with fail);generalize w5.alloc (.cells #[.string path,.slice A5 us.length c5] 31)=w6 at *;have f0:=(gt.cell 0).trans rfl;have f1:=(gt.cell 1).trans rfl;have g0:=(gz.cell 0).trans rfl;have g1:=(gz.cell 1).trans rfl;go_wp2_with fail;refine kG 1 ?_;rw[jH];go_wp2_with fail;go_loopg [15] us.length (fun g u15 wy=>∃i:Nat,i<=us.length/\us.length-i<=g/\u15=.int .i64 (i:Int)/\Below w6 w6 wy)
    case atStart=>exact⟨0,gT _,by omega,rfl,gC _ _⟩
    case round=>
     rename World=>wy;obtain⟨i,hi,hg,rfl,gi⟩:=hrel;have D:=hid gi;clear gi;have p1:=(D.out.cell (p:=⟨w2,1,none⟩) gt.lt).trans f1;by_cases M:i<us.length
     ·(have g7:(i:Int)<(us.length:Int):=by omega);(have j1:(0:Int)<=(i:Int):=by omega);obtain⟨Ak,ck,gs,jc⟩:=mQ.at_ us jn j6.out i M;obtain⟨ku,kp,gq,jx⟩:=mQ.at_ us jm j5.out i M;obtain⟨bp,op,rfl,kn,jv⟩:=wY gx.out (by omega) (by have:=gx.out.1;omega);obtain⟨bq,oq,rfl,km,ju⟩:=wY gw.out (by omega) (by have:=gw.out.1;omega);have HC:=hid (fun n:Wd (Below wy wy)=>GR 200 _ _ us[i].2.2 us[i].2.2 n.wd (by omega) (aq.below (aq.below jc D.out) n.ok) (aq.below (aq.below jx D.out) n.ok) (Bv.refl _) (kr.out us[i] (jF M)));have q1:=(D.out.cell (p:=⟨w5,1,none⟩) gz.lt).trans g1;(have gr:∀o v,jn[i*6+o]? = some v->∀n:Wd (Below wy wy),n.wd.cell? ⟨bp,op+(i*6+o),none⟩=some v:=fun o v h n=>by have h0:=(D.out.cell (p:=⟨bp,op+(i*6+o),none⟩) kn).trans (jv _ _ h);exact(n.ok.cell (gU wy _ h0)).trans h0);(have gp:∀o v,jm[i*6+o]? = some v->∀n:Wd (Below wy wy),n.wd.cell? ⟨bq,oq+(i*6+o),none⟩=some v:=fun o v h n=>by have h0:=(D.out.cell (p:=⟨bq,oq+(i*6+o),none⟩) km).trans (ju _ _ h);exact(n.ok.cell (gU wy _ h0)).trans h0);have k0:=gr 0 _ (gs 0 _ rfl);have k1:=gr 1 _ (gs 1 _ rfl);have k2:=gr 2 _ (gs 2 _ rfl);have k3:=gr 3 _ (gs 3 _ rfl);have k4:=gr 4 _ (gs 4 _ rfl);have k5:=gr 5 _ (gs 5 _ rfl);have m0:=gp 0 _ (gq 0 _ rfl);have m1:=gp 1 _ (gq 1 _ rfl);have m2:=gp 2 _ (gq 2 _ rfl);have m3:=gp 3 _ (gq 3 _ rfl);have m4:=gp 4 _ (gq 4 _ rfl);have m5:=gp 5 _ (gq 5 _ rfl);simp only[kF,<-Nat.add_assoc]at k0 k1 k2 k3 k4 k5 m0 m1 m2 m3 m4 m5;have K3:∀n:Wd (Below wy wy),n.wd.cell? ⟨bp,op+i*6+2+1,none⟩=some (.string us[i].2.2.text):=k3;have K4:∀n:Wd (Below wy wy),n.wd.cell? ⟨bp,op+i*6+2+2,none⟩=some (.slice Ak us[i].2.2.kids.length ck):=k4;have K5:∀n:Wd (Below wy wy),n.wd.cell? ⟨bp,op+i*6+2+3,none⟩=some (.int .i64 us[i].2.2.pos):=k5;have M3:∀n:Wd (Below wy wy),n.wd.cell? ⟨bq,oq+i*6+2+1,none⟩=some (.string us[i].2.2.text):=m3;have M4:∀n:Wd (Below wy wy),n.wd.cell? ⟨bq,oq+i*6+2+2,none⟩=some (.slice ku us[i].2.2.kids.length kp):=m4;have M5:∀n:Wd (Below wy wy),n.wd.cell? ⟨bq,oq+i*6+2+3,none⟩=some (.int .i64 us[i].2.2.pos):=m5;have px:∀n:Wd (Below wy wy),n.wd.cell? ⟨w2,1,none⟩=some (.slice (some ⟨bp,op,none⟩) us.length c2):=fun n=>(n.ok.cell (gU wy _ p1)).trans p1;have qx:∀n:Wd (Below wy wy),n.wd.cell? ⟨w5,1,none⟩=some (.slice (some ⟨bq,oq,none⟩) us.length c5):=fun n=>(n.ok.cell (gU wy _ q1)).trans q1;generalize us[i]=y at *;obtain⟨nm,mo,tr⟩:=y;simp only at k0 k1 k2 K3 K4 K5 m0 m1 m2 M3 M4 M5 HC;clear gr gp gs gq jc jx jv ju k3 k4 k5 m3 m4 m5 f0 f1 g0 g1;go_wp2_with fail;refine ei wy ?_;(repeat(go_big_quiet_step ((go_at_call 8;rename_i n;refine(HC.out n).mono ?_;rintro e w'⟨rfl,hb⟩;exact⟨rfl,⟨w',aE n.ok hb⟩,rfl⟩))));refine m7 ?_;intro n;have ks:=hid (aE D.out n.ok);clear HC k0 k1 k2 K3 K4 K5 m0 m1 m2 M3 M4 M5 px qx p1 q1;go_wp2_with fail;go_roundg (us.length-(i+1))
      case measure=>omega
      case rel=>exact⟨i+1,by omega,gA _,by go_num,ks.out⟩
     ·(have g7:¬ (i:Int)<(us.length:Int):=by omega);clear f0 f1 g0 g1;go_wp2_with fail;refine(pZ _ (HT.out.below (aE gu.out D.out)) (HN.out.below (aE gu.out D.out))).mono ?_;rintro e w8⟨rfl,je⟩;go_wp2_with fail;go_ret;exact⟨rfl,aE (aE gu.out D.out) je⟩
   | bad fs=>
    rintro e w2⟨gg,A2,c2,rfl,jt⟩;have k9:=NT hh.out;have ga:Below w2 w2 (w2.alloc (.cells #[.string ⟨#[]⟩,.slice none 0 0] 31)):=bel;have jl:=hid (aE g2.out gg);have hv:=hid (aE jl.out ga);have hf:=aa.new w2 31 #[.string ⟨#[]⟩,.slice none 0 0];have gm:=hid (fk (fk gy.out gg) ga);have g4:w2.heap.size<=(w2.alloc (.cells #[.string ⟨#[]⟩,.slice none 0 0] 31)).heap.size:=ga.size;have yk:=hid ((jt.below ga).more g4);clear jt;clear gy gg ga jk;(go_upto_region 14 with fail);generalize w2.alloc (.cells #[.string ⟨#[]⟩,.slice none 0 0] 31)=w3 at *;have hs:=hid (j8.out w3 (by rw[p5];exact HL.out) hn (aA.of_own gm.out) (fun x hx=>ji.out w3 hv.out x (List.mem_reverse.1 hx)));go_wp2_with fail;refine hs.out.mono ?_;rintro e w4⟨A4,c4,ys,rfl,g3,g5,-,g9,ge,z⟩;have gb:=hid (aE hv.out z);have I:=callsIn_wide.1 (oY 0 ys j A4 c4 Am cm sm At ct tags w4 (by omega) (jg.out.below gb.out) (HT.out.below gb.out) (HN.out.below gb.out) ⟨by omega,jh.out.below gb.out⟩ g3 g5 hn (fun x hx=>(HK.out ys (.inr ge) x hx).1) (fun x hx=>(HK.out ys (.inr ge) x hx).2) g9);rw[<-j4.out ys ge,<-hh.out]at I;have gn:=hid I;have ha:=hf.bl z;have gj:=hid ((yk.out.below z).more z.size);clear yk;clear hs g5 g9 g3 ge I hf gm z;go_wp2_with fail;refine gn.out.mono ?_;rintro e w5⟨O,A5,c5,rfl,g6⟩;have J:Below w5 w5 (w5.alloc (.cells #[.string ⟨#[]⟩,.slice none 0 0] 31)):=bel;have gu:=hid (aE (aE gb.out O) J);have gt:=(ha.bl O).bl J;have gz:=aa.new w5 31 #[.string ⟨#[]⟩,.slice none 0 0];have gx:=hid ((((gj.out.below O).more O.size).below J).more J.size);have gw:=hid ((g6.below J).more J.size);clear gj g6;clear gn ha O J;(go_upto_region 15 with fail);generalize w5.alloc (.cells #[.string ⟨#[]⟩,.slice none 0 0] 31)=w6 at *;have f0:=(gt.cell 0).trans rfl;have f1:=(gt.cell 1).trans rfl;have g0:=(gz.cell 0).trans rfl;have g1:=(gz.cell 1).trans rfl;go_wp2_with fail;go_loopg [14] fs.length (fun g u14 wy=>∃i:Nat,i<=fs.length/\fs.length-i<=g/\u14=.int .i64 (i:Int)/\Below w6 w6 wy)
    case atStart=>exact⟨0,gT _,by omega,rfl,gC _ _⟩
    case round=>
     rename World=>wy;obtain⟨i,hi,hg,rfl,gi⟩:=hrel;have D:=hid gi;clear gi;by_cases M:i<fs.length
     ·(have g7:(i:Int)<(fs.length:Int):=by omega);(have j1:(0:Int)<=(i:Int):=by omega);obtain⟨bk,off,rfl,gh,hc⟩:=aA.el (enc:=fun x:Bw=>[.string x.1,.string x.2.1,.int .i64 x.2.2]) gx.out (fun _=>rfl) (by omega) rfl M;obtain⟨bl,ofl,rfl,jd,hd⟩:=aA.el (enc:=fun x:Bw=>[.string x.1,.string x.2.1,.int .i64 x.2.2]) gw.out (fun _=>rfl) (by omega) rfl M;have k0:=(D.out.cell (p:=⟨bk,off+i*3,none⟩) gh).trans (hc i M 0 _ rfl);have k1:=(D.out.cell (p:=⟨bk,off+i*3+1,none⟩) gh).trans (hc i M 1 _ rfl);have k2:=(D.out.cell (p:=⟨bk,off+i*3+2,none⟩) gh).trans (hc i M 2 _ rfl);have m0:=(D.out.cell (p:=⟨bl,ofl+i*3,none⟩) jd).trans (hd i M 0 _ rfl);have m1:=(D.out.cell (p:=⟨bl,ofl+i*3+1,none⟩) jd).trans (hd i M 1 _ rfl);have m2:=(D.out.cell (p:=⟨bl,ofl+i*3+2,none⟩) jd).trans (hd i M 2 _ rfl);have ky:=GT fs[i].1 fs[i].2.1 fs[i].2.2;generalize fs[i]=x at *;clear hc hd f0 f1 g0 g1;go_wp2_with fail;go_quiet (fail);go_wp2_with fail;go_roundg (fs.length-(i+1))
      case measure=>omega
      case rel=>exact⟨i+1,by omega,gA _,by go_num,az D.out _⟩
     ·(have g7:¬ (i:Int)<(fs.length:Int):=by omega);have p1:=(D.out.cell (p:=⟨w2,1,none⟩) gt.lt).trans f1;clear f0 f1 g0 g1;go_wp2_with fail;refine kG 1 ?_;rw[jH];go_wp2_with fail;refine(pZ _ (HT.out.below (aE gu.out D.out)) (HN.out.below (aE gu.out D.out))).mono ?_;rintro e w8⟨rfl,je⟩;go_wp2_with fail;go_ret;exact⟨rfl,aE (aE gu.out D.out) je⟩
end
end Go.Proofs.YtcoiialmdncpfaaGreatDoor
