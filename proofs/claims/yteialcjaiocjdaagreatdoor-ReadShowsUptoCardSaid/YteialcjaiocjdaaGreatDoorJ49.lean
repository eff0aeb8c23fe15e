/-
  Parts of the proof: Pwi Pwj Pwk Pwl Pwm. By an AI agent.
-/
import Derived.Test.YteialcjaiocjdaaGreatDoorJ48
import Derived.Deep.RegionHeld3
import Derived.Deep.DeepCutAuto
open Go.Proofs.Tryz
set_option maxRecDepth 100000
set_option maxHeartbeats 8000000
namespace Go.Proofs.YteialcjaiocjdaaGreatDoor
section
open Go.RowKit Go.Lib Go.Proofs
attribute [local go_sem ↓] Go.wp_at_zero Go.wp_at_succ
def yp(d:Nat)(P:Int->Prop):Prop:=∀(v:Value)(n:Nd)(w:World)(deep:Nat)(head:Bool),aF w v n->aH (aa d) n=true->P n.kind->deep+d<=1000->(tx (mQ (ac d) n deep head)).size<=10000000000000000 ->
 Calls prog 9 #[v,(deep:Int),.bool head] w fun e w'=>e=.returned (.string (tx (mQ (ac d) n deep head)))/\Below w w w'
theorem Ov(d:Nat):yp d (fun k=>k=16\/k=18):=by
 intro v n w deep head hv hn D hd hM;obtain⟨A,cp,rfl,I⟩:=hv.toC;have hB:=(aj w #[n.kind,n.text,.slice A n.kids.length cp,n.pos]).1;have J:Hid (tx (mQ (ac d) n deep head)=n.text):=by
  refine hid ?_;unfold mQ;rcases D with h|h<;>rw[h]
  ·exact yh 4 n.text
  ·exact oQ n.text
 clear hv hn I hd hM;rcases D with h|h<;>rw[h]at hB |-;all_goals(go_enter func9,ntmps9);go_wp2_with fail;go_ret;exact⟨by rw[J.out];rfl,hB⟩
theorem Ru(d:Nat):yp d (fun k=>k=17):=by intro v n w deep head hv hn hk hd hM;obtain⟨A,cp,rfl,I⟩:=hv.toC;have hB:=(aj w #[n.kind,n.text,.slice A n.kids.length cp,n.pos]).1;(have J:Hid (tx (mQ (ac d) n deep head)=dx (dC (bytes n.text))):=by refine hid ?_;unfold mQ;rw[gB (by omega),gG hk];apply cQ;rw[pU,bX];exact kE _);(have hs:n.text.size<=1000:=by unfold aH at hn;rw[gB (by omega),gG hk]at hn;obtain⟨t,l,a,rfl,hs,-⟩:=aJ (by decide) hn;exact of_decide_eq_true hs);have M:=hid (fun w'=>IT n.text hs w');clear hv hn I hd hM;rw[hk]at hB |-;(go_enter func9,ntmps9);go_wp2_with fail;refine(M.out _).mono ?_;rintro e w3⟨rfl,D⟩;go_wp2_with fail;go_ret;exact⟨by rw[J.out];rfl,au hB D⟩
theorem Gr{W:World}{b:Nat}{t:TypeId}{v0 v1 v2 v3:Value}(h:aq W b t #[v0,v1,v2,v3]):
  (∀m:Wd (Below W W),m.wd.cell? ⟨b,0,none⟩=some v0)/\(∀m:Wd (Below W W),m.wd.cell? ⟨b,1,none⟩=some v1)/\(∀m:Wd (Below W W),m.wd.cell? ⟨b,2,none⟩=some v2)/\(∀m:Wd (Below W W),m.wd.cell? ⟨b,3,none⟩=some v3):=
 ⟨fun m=>((h.bl m.ok).cell 0).trans rfl,fun m=>((h.bl m.ok).cell 1).trans rfl,fun m=>((h.bl m.ok).cell 2).trans rfl,fun m=>((h.bl m.ok).cell 3).trans rfl⟩
theorem yq{W:World}{b o:Nat}{x:Nd}{A:Option Addr}{c:Nat}(h:K4 W b o x A c):
  (∀m:Wd (Below W W),m.wd.cell? ⟨b,o,none⟩=some (.int .i64 x.kind))/\(∀m:Wd (Below W W),m.wd.cell? ⟨b,o+1,none⟩=some (.string x.text))/\(∀m:Wd (Below W W),m.wd.cell? ⟨b,o+2,none⟩=some (.slice A x.kids.length c))/\(∀m:Wd (Below W W),m.wd.cell? ⟨b,o+3,none⟩=some (.int .i64 x.pos)):=
 ⟨fun m=>(h.below m.ok).1,fun m=>(h.below m.ok).2.1,fun m=>(h.below m.ok).2.2.1,fun m=>(h.below m.ok).2.2.2.1⟩
theorem Fj(n x:Nd):eT n x=((x.kind==20)||((x.kind==19)&&((n.text.toList==[45])&&(x.text.toList==[45])))):=by unfold eT;rw[cy,cy];rfl
theorem Ow(F:tZ)(t:ByteArray)(x:Nd)(p:Int)(deep:Nat)(head:Bool):tx (mQ F (.mk 19 t [x] p) deep head)=t++tx (aN F (eT (.mk 19 t [x] p) x) x deep head):=by show tx (ow t::aN F _ x deep head)=_;rw[ay,Ok];rfl
theorem To(d:Nat)(HE:fX d):yp d (fun k=>k=19):=by
 intro v n w deep head hv hn hk hd hM;unfold aH at hn;rw[gB (by omega),gB (by omega),gB (by omega),gG hk]at hn;obtain⟨t,l,p,rfl,-,h0⟩:=aJ (by decide) hn;obtain⟨x,rfl,hx⟩:=dW h0;have HR:=hid (Ow (ac d) t x p deep head);rw[HR.out,gE]at hM;have J:=hid (Fj (.mk 19 t [x] p) x);obtain⟨A,cp,rfl,hC⟩:=hv.toC;simp only[Nd.kind_mk,Nd.text_mk,Nd.kids_mk,Nd.pos_mk]at *;have hB:=(aj w #[.int .i64 19,.string t,.slice A 1 cp,.int .i64 p]).1;have M:aF w (.agg #[.int .i64 19,.string t,.slice A 1 cp,.int .i64 p]) (.mk 19 t [x] p):=hv;obtain⟨bp,op,D,c2,rfl,O⟩:=ep (af.below M hB) 0 (by simp);simp only[Nd.kids_mk,gN,jF,gZ]at O;have ga:=hB.alloc (by simp) (.cells #[x.kind,x.text,.slice D x.kids.length c2,x.pos] 24);have hX:aq ((w.alloc (.cells #[.int .i64 19,.string t,.slice (some ⟨bp,op,none⟩) 1 cp,.int .i64 p] 24)).alloc (.cells #[x.kind,x.text,.slice D x.kids.length c2,x.pos] 24)) (w.heap.size+1) 24 #[x.kind,x.text,.slice D x.kids.length c2,x.pos]:=aq.new_at (by simp) _ _;have hN:=(show aq (w.alloc (.cells #[.int .i64 19,.string t,.slice (some ⟨bp,op,none⟩) 1 cp,.int .i64 p] 24)) w.heap.size 24 #[.int .i64 19,.string t,.slice (some ⟨bp,op,none⟩) 1 cp,.int .i64 p]from aq.new w _ _).alloc (.cells #[x.kind,x.text,.slice D x.kids.length c2,x.pos] 24);have I:=af.below O.2.2.2.2 ((gH _ _).alloc (gC _) (.cells #[x.kind,x.text,.slice D x.kids.length c2,x.pos] 24));obtain⟨p0,p1,p2,p3,-⟩:=O;clear hv hC M hB h0;(go_enter func9,ntmps9);(go_upto_region 6 with fail);generalize(w.alloc (.cells #[.int .i64 19,.string t,.slice (some ⟨bp,op,none⟩) 1 cp,.int .i64 p] 24)).alloc (.cells #[x.kind,x.text,.slice D x.kids.length c2,x.pos] 24)=W at *;have HX:=hid (fun m:Wd (Below W W)=>pX d HE _ x m.wd (eT (.mk 19 t [x] p) x) deep head (af.below I m.ok) hx hd (by omega));obtain⟨x0,x1,x2,x3⟩:=Gr hX;obtain⟨-,n1,-,-⟩:=Gr hN;generalize tx (aN (ac d) (eT (.mk 19 t [x] p) x) x deep head)=X at *;clear hX hN I hx HE p0 p1 p2 p3;cases gb:(x.kind==20)
 rotate_left
 rotate_left
 cases gd:(x.kind==19)
 rotate_left
 cases U:(t.toList==[45])<;>cases N:(x.text.toList==[45]);all_goals
  (try rw[gd]at J);(try rw[U,N]at J);rw[gb]at J;first
   |rw[show eT (.mk 19 t [x] p) x=true from J.out]at HX
   |rw[show eT (.mk 19 t [x] p) x=false from J.out]at HX
  refine cF W ?_;(repeat(go_big_quiet_step ((go_at_call 25;rename_i m;refine(HX.out m).mono ?_;rintro e w'⟨rfl,hb⟩;exact⟨rfl,⟨w',au m.ok hb⟩,rfl⟩))));refine jQ ?_;intro m;have h:=au ga m.ok;go_wp2_with fail;go_ret;exact⟨by rw[HR.out];rfl,h⟩
theorem Ox(F:tZ)(t:ByteArray)(a b:Nd)(p:Int)(deep:Nat)(head:Bool):tx (mQ F (.mk 20 t [a,b] p) deep head)=tx (aN F (eU (.mk 20 t [a,b] p) a) a deep head)++(⟨#[32]⟩:BA)++t++(⟨#[32]⟩:BA)++tx (aN F (eG (.mk 20 t [a,b] p) b) b deep head):=by show tx (aN F _ a deep head++(aY::ow t::aY::aN F _ b deep head))=_;rw[bD,ay,ay (ow t),ay aY (aN F _ b deep head),Ok,yi,ar,ar,ar];rfl
theorem Rv(d:Nat)(HE:fX d):yp d (fun k=>k=20):=by
 intro v n w deep head hv hn hk hd hM;unfold aH at hn;rw[gB (by omega),gB (by omega),gB (by omega),gB (by omega),gG hk]at hn;obtain⟨t,l,p,rfl,-,h0⟩:=aJ (by decide) hn;obtain⟨a,b,rfl,ha,hb⟩:=iO h0;have HR:=hid (Ox (ac d) t a b p deep head);rw[HR.out,gE,gE,gE,gE]at hM;obtain⟨A,cp,rfl,hC⟩:=hv.toC;simp only[Nd.kind_mk,Nd.text_mk,Nd.kids_mk,Nd.pos_mk]at *;have hB:=(aj w #[.int .i64 20,.string t,.slice A 2 cp,.int .i64 p]).1;have gg:aF w (.agg #[.int .i64 20,.string t,.slice A 2 cp,.int .i64 p]) (.mk 20 t [a,b] p):=hv;have hN:=(aj w #[.int .i64 20,.string t,.slice A 2 cp,.int .i64 p]).2;obtain⟨bp,op,A2,c2,A3,c3,rfl,hp,hq⟩:=Fg (af.below gg hB);(go_enter func9,ntmps9);(go_upto_region 8 with fail);generalize w.alloc (.cells #[.int .i64 20,.string t,.slice (some ⟨bp,op,none⟩) 2 cp,.int .i64 p] 24)=W at *;have KS:∀w',Below W W w'->(w'.cell? ⟨w,1,none⟩=some (.string t)/\w'.cell? ⟨w,2,none⟩=some (.slice (some ⟨bp,op,none⟩) 2 cp)/\w'.cell? ⟨bp,op,none⟩=some (.int .i64 a.kind)/\w'.cell? ⟨bp,op+1,none⟩=some (.string a.text)/\w'.cell? ⟨bp,op+2,none⟩=some (.slice A2 a.kids.length c2)/\w'.cell? ⟨bp,op+3,none⟩=some (.int .i64 a.pos) /\
   w'.cell? ⟨bp,op+4,none⟩=some (.int .i64 b.kind)/\w'.cell? ⟨bp,op+4+1,none⟩=some (.string b.text)/\w'.cell? ⟨bp,op+4+2,none⟩=some (.slice A3 b.kids.length c3)/\w'.cell? ⟨bp,op+4+3,none⟩=some (.int .i64 b.pos)):=fun w' h=>
  ⟨(ab (hN.bl h)).2.1,(ab (hN.bl h)).2.2.1,(hp.below h).1,(hp.below h).2.1,(hp.below h).2.2.1,(hp.below h).2.2.2.1,(hq.below h).1,(hq.below h).2.1,(hq.below h).2.2.1,(hq.below h).2.2.2.1⟩
 have M:Hid (eU (.mk 20 t [a,b] p) a=((a.kind==20)&&decide ((b8 a.text:Int)<(b8 t:Int)))):=hid (by unfold eU;congr 1;rw[kV];exact Int.ofNat_lt.symm);have N:Hid (eG (.mk 20 t [a,b] p) b=((b.kind==20)&&decide ((b8 b.text:Int)<=(b8 t:Int)))):=hid (by unfold eG;congr 1;rw[kV];exact Int.ofNat_le.symm);have J:=hp.2.2.2.2;have I:=hq.2.2.2.2;have gh:=hid (fun W=>tA t W);clear hv hC gg h0;go_cut [8,9,10] (fun s8 s9 s10 wx=>∃ga gb,s8=.pointer (some ⟨ga,0,none⟩)/\s9=.pointer (some ⟨gb,0,none⟩)/\s10=.int .i64 (b8 t:Int)/\Below W W wx /\
  aq wx ga 24 #[a.kind,a.text,.slice A2 a.kids.length c2,a.pos]/\aq wx gb 24 #[b.kind,b.text,.slice A3 b.kids.length c3,b.pos])
 case first=>
  go_region_held3 (fun w'=>w'.cell? ⟨w,1,none⟩=some (.string t)/\w'.cell? ⟨w,2,none⟩=some (.slice (some ⟨bp,op,none⟩) 2 cp)/\w'.cell? ⟨bp,op,none⟩=some (.int .i64 a.kind)/\w'.cell? ⟨bp,op+1,none⟩=some (.string a.text)/\w'.cell? ⟨bp,op+2,none⟩=some (.slice A2 a.kids.length c2)/\w'.cell? ⟨bp,op+3,none⟩=some (.int .i64 a.pos) /\
    w'.cell? ⟨bp,op+4,none⟩=some (.int .i64 b.kind)/\w'.cell? ⟨bp,op+4+1,none⟩=some (.string b.text)/\w'.cell? ⟨bp,op+4+2,none⟩=some (.slice A3 b.kids.length c3)/\w'.cell? ⟨bp,op+4+3,none⟩=some (.int .i64 b.pos))
   (exact KS _ bel)
   ((go_at_call 26;refine(gh.out _).mono ?_;rintro e w'⟨rfl,rfl⟩))
  all_goals
   go_wp2_with fail;go_meet;first
    |exact⟨W.heap.size,W.heap.size+1,rfl,rfl,rfl,bel,(aq.new W _ _).alloc _,aq.new_at (by simp) _ _⟩
    |exact⟨W.heap.size+1,W.heap.size,rfl,rfl,rfl,bel,aq.new_at (by simp) _ _,(aq.new W _ _).alloc _⟩
 case rest=>
  obtain⟨ga,gb,rfl,rfl,rfl,D,ge,gd⟩:=hcut;have hN:=hN.bl D;have J:=af.below J D;have I:=af.below I D;have gl:=au hB D;clear hp hq KS gh D hB;generalize wc=V at *;have gn:=hid (fun m:Wd (Below V V)=>tA a.text m.wd);have gm:=hid (fun m:Wd (Below V V)=>tA b.text m.wd);generalize(b8 a.text:Int)=la at *;generalize(b8 b.text:Int)=lb at *;generalize(b8 t:Int)=lt at *;have U:=hid (fun m:Wd (Below V V)=>pX d HE _ a m.wd (eU (.mk 20 t [a,b] p) a) deep head (af.below J m.ok) ha hd (by omega));have O:=hid (fun m:Wd (Below V V)=>pX d HE _ b m.wd (eG (.mk 20 t [a,b] p) b) deep head (af.below I m.ok) hb hd (by omega));generalize tx (aN (ac d) (eU (.mk 20 t [a,b] p) a) a deep head)=X at *;generalize tx (aN (ac d) (eG (.mk 20 t [a,b] p) b) b deep head)=Y at *;obtain⟨a0,a1,a2,a3⟩:=Gr ge;obtain⟨b0,b1,b2,b3⟩:=Gr gd;obtain⟨-,n1,-,-⟩:=Gr hN;clear ge gd hN J I HE ha hb hn;cases gj:(a.kind==20)<;>cases gi:(b.kind==20);all_goals
   rw[gj]at M;rw[gi]at N;first
    |rw[show eU (.mk 20 t [a,b] p) a=false from M.out]at U
    |rw[show eU (.mk 20 t [a,b] p) a=decide (la<lt)from M.out]at U
   first
    |rw[show eG (.mk 20 t [a,b] p) b=false from N.out]at O
    |rw[show eG (.mk 20 t [a,b] p) b=decide (lb<=lt)from N.out]at O
   (go_upto_region 9 with fail);refine cF V ?_;repeat(go_big_quiet_step (first
    |(go_at_call 26;rename_i m;((with_reducible first|refine(gn.out m).mono ?_ |refine(gm.out m).mono ?_);rintro e w'⟨rfl,rfl⟩);exact⟨rfl,m,rfl⟩)
    |(go_at_call 25;rename_i m;with_reducible exact ub U.out m)
    |(go_at_call 25;rename_i m;with_reducible exact ub O.out m)))
   refine jQ ?_;intro m;have gk:=au gl m.ok;go_wp2_with fail;go_ret;exact⟨by rw[HR.out];rfl,gk⟩
theorem Rw{d:Nat}{x:Nd}(h:(aa d).expr x=true):¬ (x.kind=11\/x.kind=12):=by
 cases d with
 |zero=>cases h
 |succ d=>have h:aH (aa d) x=true:=h;intro D;rcases D with D|D<;>simp[aH,cE,D]at h
def IU(d:Nat)(x:Nd):Prop:=(if x.kind=11\/x.kind=12 then(aa d).typ x else(aa d).expr x)=true
theorem yr{d:Nat}{x:Nd}(h:(aa d).expr x=true):IU d x:=by unfold IU;rw[gB (Rw h)];exact h
theorem Oy{d:Nat}{x:Nd}(h:dJ (aa d) x=true):IU d x:=by
 unfold dJ at h;rw[gI,gA,gD]at h;rcases h with h|⟨I,D⟩
 ·exact yr h
 ·unfold IU;have:=typ_kind D;rw[gG (by omega)];exact D
theorem Rx{d:Nat}{n:Nd}(h:aH (aa d) n=true)(D:n.kind=21\/n.kind=22\/n.kind=23):∃k t f l p,n=.mk k t (f::l) p/\(aa d).expr f=true/\(k=23\/∀x∈l,IU d x):=by
 unfold aH at h;rw[gB (by omega),gB (by omega),gB (by omega),gB (by omega),gB (by omega)]at h;have e:=n.eta;rcases D with D|D|D
 ·rw[gG D,gA,gA,gD,gD]at h;obtain⟨-,J,I⟩:=h;generalize n.kids=l at *;rcases l with _|⟨f,l⟩
  ·cases J
  ·have I:=List.all_eq_true.1 I;exact⟨_,_,f,l,_,e,I f (by simp),.inr fun x hx=>yr (I x (by simp[hx]))⟩
 ·rw[gB (by omega),gG D,gA,gA,gA,gD,gD]at h;obtain⟨-,J,M,I⟩:=h;generalize n.kids=l at *;rcases l with _|⟨f,l⟩
  ·exact absurd J (by simp)
  ·exact⟨_,_,f,l,_,e,M,.inr fun x hx=>Oy (List.all_eq_true.1 I x hx)⟩
 ·rw[gB (by omega),gB (by omega),gG D]at h;obtain⟨t,l,p,rfl,-,N⟩:=aJ (by decide) h;obtain⟨f,rfl,M⟩:=dW N;exact⟨_,t,f,[],p,rfl,M,.inl rfl⟩
theorem DL(F:tZ)(k:Int)(t:ByteArray)(f:Nd)(l:List Nd)(p:Int)(deep:Nat)(head:Bool)(D:k=21\/k=22\/k=23):tx (mQ F (.mk k t (f::l) p) deep head)=tx (aN F ((f.kind==19)||(f.kind==20)) f deep head) ++
  (if k=21 then(⟨#[40]⟩:BA)++tx (du F (.mk k t (f::l) p) deep)++(⟨#[41]⟩:BA)else if k=22 then(⟨#[91]⟩:BA)++tx (du F (.mk k t (f::l) p) deep)++(⟨#[93]⟩:BA)else(⟨#[46]⟩:BA)++t):=by
 rcases D with rfl|rfl|rfl
 ·show tx (aN F _ f deep head++(cK 40::(du F _ deep++[cK 41])))=_;rw[bD,ay,bD,gG rfl,ar];rfl
 ·show tx (aN F _ f deep head++(cK 91::(du F _ deep++[cK 93])))=_;rw[bD,ay,bD,gB (by decide),gG rfl,ar];rfl
 ·show tx (aN F _ f deep head++[cK 46,iq t])=_;rw[bD,ay,oQ,gB (by decide),gB (by decide)];rfl
theorem Oz(d:Nat)(HE:fX d):yp d (fun k=>k=21\/k=22\/k=23):=by
 intro v n w deep head hv hn hk hd J;obtain⟨k,t,f,l,p,rfl,hf,hl⟩:=Rx hn hk;have O:=hid (DL (ac d) k t f l p deep head hk);rw[O.out,gE]at J;obtain⟨A,cp,rfl,hC⟩:=hv.toC;simp only[Nd.kind_mk,Nd.text_mk,Nd.kids_mk,Nd.pos_mk]at *;have hB:=(aj w #[.int .i64 k,.string t,.slice A (f::l).length cp,.int .i64 p]).1;have hN:=(aj w #[.int .i64 k,.string t,.slice A (f::l).length cp,.int .i64 p]).2;obtain⟨bp,op,A2,c2,rfl,hp⟩:=ep (af.below hv hB) 0 (by simp);simp only[Nd.kids_mk,gN,jF,gZ]at hp;(have gi:(0:Int)<((f::l).length:Int):=by simp);have N:=hB.alloc (by simp) (.cells #[f.kind,f.text,.slice A2 f.kids.length c2,f.pos] 24);have ga:=hN.alloc (.cells #[f.kind,f.text,.slice A2 f.kids.length c2,f.pos] 24);have U:=af.below hp.2.2.2.2 ((gH _ _).alloc (gC _) (.cells #[f.kind,f.text,.slice A2 f.kids.length c2,f.pos] 24));have gb:=af.below hv N;obtain⟨p0,p1,p2,p3,-⟩:=hp;have D:=hid (pX d HE _ f _ ((f.kind==19)||(f.kind==20)) deep head U hf hd (by omega));have HO:=hid (fun(w':World)(hb:Below w w w')(h:k≠23)(J:(tx (du (ac d) (.mk k t (f::l) p) deep)).size<=10000000000000000)=>yo d HE _ (.mk k t (f::l) p) w' deep (af.below hv hb) (hl.resolve_left h) hd J);generalize tx (aN (ac d) ((f.kind==19)||(f.kind==20)) f deep head)=X at *;generalize tx (du (ac d) (.mk k t (f::l) p) deep)=Y at *;clear hv hC hN U gb hn hf hl;generalize(f::l).length=m at *;(go_enter func9,ntmps9);cases gg:(f.kind==19)
 rotate_left
 rotate_left
 cases ge:(f.kind==20);all_goals
  rcases hk with rfl|rfl|rfl;all_goals
   first
    |rw[gG (show(21:Int)=21 from rfl)]at O J
    |rw[gB (show ¬ (22:Int)=21 by decide),gG (show(22:Int)=22 from rfl)]at O J
    |rw[gB (show ¬ (23:Int)=21 by decide),gB (show ¬ (23:Int)=22 by decide)]at O J
   (try rw[ge]at D);rw[gg]at D;simp only[gE]at J;go_wp2_with fail;refine D.out.mono ?_;rintro e w3⟨rfl,I⟩;have M:=au N I;obtain⟨n0,n1,n2,n3,-,-,-,-⟩:=ab (ga.bl I);clear I D p0 p1 p2 p3 ga N hB;first
    |(have gh:=HO.out w3 M (by decide) (by omega);go_wp2_with fail;refine gh.mono ?_;rintro e w4⟨rfl,gd⟩;go_wp2_with fail;go_ret;exact⟨by rw[O.out];simp only[ar];rfl,au M gd⟩)
    |(go_wp2_with fail;go_ret;exact⟨by rw[O.out];simp only[ar];rfl,M⟩)
theorem tC(d:Nat):(ac d).typ=ag d:=by cases d<;>rfl
theorem Tp{d:Nat}{n:Nd}(h:aH (aa d) n=true)(D:n.kind=24):∃f l p,n=.mk 24 ⟨#[]⟩ (f::l) p/\(aa d).typ f=true/\∀x∈l,IU d x:=by
 unfold aH at h;rw[gB (by omega),gB (by omega),gB (by omega),gB (by omega),gB (by omega),gB (by omega),gB (by omega),gB (by omega),gG D,gA,gA,gA,gA,gD,gD]at h;obtain⟨I,J,-,M,N⟩:=h;have e:=n.eta;rw[D,I]at e;generalize n.kids=l at *;rcases l with _|⟨f,l⟩
 ·exact absurd J (by simp)
 ·exact⟨f,l,n.pos,e,M,fun x hx=>yr (List.all_eq_true.1 N x hx)⟩
theorem Tq{d:Nat}{n:Nd}(h:aH (aa d) n=true)(I:n.kind=25):∃s b p,n=.mk 25 ⟨#[]⟩ [s,b] p/\er (aa d) s=true/\(aa d).block b=true:=by unfold aH at h;rw[gB (by omega),gB (by omega),gB (by omega),gB (by omega),gB (by omega),gB (by omega),gB (by omega),gB (by omega),gB (by omega)]at h;obtain⟨l,p,rfl,D⟩:=cg h;obtain⟨s,b,rfl,hs,hb⟩:=iO D;exact⟨s,b,p,rfl,hs,hb⟩
theorem Tr(d:Nat)(n:Nd)(deep:Nat):tx (oy (ac d) n deep)=tx (ag d (aW n 0))++(⟨#[123]⟩:BA)++tx (du (ac d) n deep)++(⟨#[125]⟩:BA):=by unfold oy;rw[bD,ay,bD,tC,ar,ar];rfl
theorem OA(d:Nat)(f:Nd)(l:List Nd)(p:Int)(deep:Nat)(head:Bool):tx (mQ (ac d) (.mk 24 ⟨#[]⟩ (f::l) p) deep head)=if(head&&(f.kind==10))=true then(⟨#[40]⟩:BA)++tx (oy (ac d) (.mk 24 ⟨#[]⟩ (f::l) p) deep)++(⟨#[41]⟩:BA)else tx (oy (ac d) (.mk 24 ⟨#[]⟩ (f::l) p) deep):=by
 show tx (if head=true/\f.kind=10 then cK 40::(oy (ac d) (.mk 24 ⟨#[]⟩ (f::l) p) deep++[cK 41])else oy (ac d) (.mk 24 ⟨#[]⟩ (f::l) p) deep)=_;by_cases h:head=true/\f.kind=10
 ·rw[gG h,gG (by rw[gA,kO];exact h),ay,bD,ar];rfl
 ·rw[gB h,gB (by rw[gA,kO];exact h)]
theorem OC(d:Nat)(s b:Nd)(p:Int)(deep:Nat)(head:Bool):tx (mQ (ac d) (.mk 25 ⟨#[]⟩ [s,b] p) deep head)=(⟨#[102,117,110,99]⟩:BA)++tx (eg (ag d) s)++(⟨#[32]⟩:BA)++tx ((ac d).block b deep):=by show tx (f8 ⟨#[102,117,110,99]⟩::(eg (ac d).typ s++(aY::(ac d).block b deep)))=_;rw[ay,bD,ay aY,DG,yi,tC,ar,ar]
theorem Ry(d:Nat)(HE:fX d):yp d (fun k=>k=24):=by
 intro v n w deep head hv hn hk hd hM;obtain⟨f,l,p,rfl,hf,hl⟩:=Tp hn hk;have M:=hid (OA d f l p deep head);have O:=hid (Tr d (.mk 24 ⟨#[]⟩ (f::l) p) deep);have I:(tx (oy (ac d) (.mk 24 ⟨#[]⟩ (f::l) p) deep)).size<=10000000000000000:=by
  rw[M.out]at hM;split at hM
  ·rw[gE,gE]at hM;omega
  ·exact hM
 rw[O.out,gE,gE,gE]at I;rw[show aW (.mk 24 ⟨#[]⟩ (f::l) p) 0=f from rfl]at O I;obtain⟨A,cp,rfl,hC⟩:=hv.toC;simp only[Nd.kind_mk,Nd.text_mk,Nd.kids_mk,Nd.pos_mk]at *;have hB:=(aj w #[.int .i64 24,.string ⟨#[]⟩,.slice A (f::l).length cp,.int .i64 p]).1;have hN:=(aj w #[.int .i64 24,.string ⟨#[]⟩,.slice A (f::l).length cp,.int .i64 p]).2;obtain⟨bp,op,A2,c2,rfl,N⟩:=ep (af.below hv hB) 0 (by simp);simp only[Nd.kids_mk,gN,jF,gZ]at N;(have ga:(0:Int)<((f::l).length:Int):=by simp);have D:=af.below hv hB;clear hn hk hv hC;(go_enter func9,ntmps9);(go_upto_region 21 with fail);generalize w.alloc (.cells #[.int .i64 24,.string ⟨#[]⟩,.slice (some ⟨bp,op,none⟩) (f::l).length cp,.int .i64 p] 24)=W at *;have J:=hid (fun m:Wd (Below W W)=>lu d _ f m.wd (N.below m.ok).2.2.2.2 hf (by omega));have HO:=hid (fun m:Wd (Below W W)=>yo d HE _ (.mk 24 ⟨#[]⟩ (f::l) p) m.wd deep (af.below D m.ok) hl hd (by omega));obtain⟨k0,k1,k2,k3⟩:=yq N;obtain⟨n0,n1,n2,n3⟩:=Gr hN;generalize tx (du (ac d) (.mk 24 ⟨#[]⟩ (f::l) p) deep)=Y at *;generalize tx (ag d f)=X at *;generalize tx (oy (ac d) (.mk 24 ⟨#[]⟩ (f::l) p) deep)=L at *;clear hN N D HE hf hl;generalize(f::l).length=q at *;refine cF W ?_;repeat(go_big_quiet_step (first
  |(go_at_call 28;rename_i m;exact ub J.out m)
  |(go_at_call 27;rename_i m;exact ub HO.out m)))
 refine jQ ?_;intro m;have U:=au hB m.ok;have k0:=k0 m;have n2:=n2 m;clear J HO k1 k2 k3 n0 n1 n3;cases head<;>cases h:(f.kind==10);all_goals
  rw[h]at M;first
   |rw[gG (show(true&&true)=true from rfl),O.out]at M
   |rw[gB (by decide),O.out]at M
  go_wp2_with fail;go_ret;exact⟨by rw[M.out];simp only[ar];rfl,U⟩
theorem Rz(d:Nat)(I:mO d):yp d (fun k=>k=25):=by
 intro v n w deep head hv hn hk hd hM;obtain⟨s,b,p,rfl,hs,hb⟩:=Tq hn hk;have h:=hid (OC d s b p deep head);rw[h.out,gE,gE,gE]at hM;obtain⟨A,cp,rfl,hC⟩:=hv.toC;simp only[Nd.kind_mk,Nd.text_mk,Nd.kids_mk,Nd.pos_mk]at *;have hB:=(aj w #[.int .i64 25,.string ⟨#[]⟩,.slice A 2 cp,.int .i64 p]).1;have D:aF w (.agg #[.int .i64 25,.string ⟨#[]⟩,.slice A 2 cp,.int .i64 p]) (.mk 25 ⟨#[]⟩ [s,b] p):=hv;have U:=(aj w #[.int .i64 25,.string ⟨#[]⟩,.slice A 2 cp,.int .i64 p]).2;obtain⟨bp,op,A2,c2,A3,c3,rfl,M,J⟩:=Fg (af.below D hB);clear hn hk hv hC D;(go_enter func9,ntmps9);(go_upto_region 26 with fail);generalize w.alloc (.cells #[.int .i64 25,.string ⟨#[]⟩,.slice (some ⟨bp,op,none⟩) 2 cp,.int .i64 p] 24)=W at *;have O:=hid (fun m:Wd (Below W W)=>yj d (lu d) _ s m.wd (M.below m.ok).2.2.2.2 hs (by omega));have HO:=hid (fun m:Wd (Below W W)=>I _ b m.wd deep (J.below m.ok).2.2.2.2 hb hd (by omega));obtain⟨k0,k1,k2,k3⟩:=yq M;obtain⟨b0,b1,b2,b3⟩:=yq J;obtain⟨n0,n1,n2,n3⟩:=Gr U;generalize tx (eg (ag d) s)=X at *;generalize tx ((ac d).block b deep)=Y at *;clear U M J I hs hb;refine cF W ?_;repeat(go_big_quiet_step (first
  |(go_at_call 29;rename_i m;exact ub O.out m)
  |(go_at_call 30;rename_i m;exact ub HO.out m)))
 refine jQ ?_;intro m;have N:=au hB m.ok;go_wp2_with fail;go_ret;exact⟨by rw[h.out];rfl,N⟩
theorem IV(d:Nat)(J:fX d)(HB:mO d):fX (d+1):=by
 intro v n w deep head hv D hd I;have D:aH (aa d) n=true:=D;have I:(tx (mQ (ac d) n deep head)).size<=10000000000000000:=I;(have hd:deep+d<=1000:=by omega);by_cases h1:n.kind=16\/n.kind=18
 ·exact Ov d v n w deep head hv D h1 hd I
 by_cases h2:n.kind=17
 ·exact Ru d v n w deep head hv D h2 hd I
 by_cases h3:n.kind=19
 ·exact To d J v n w deep head hv D h3 hd I
 by_cases U:n.kind=20
 ·exact Rv d J v n w deep head hv D U hd I
 by_cases O:n.kind=21\/n.kind=22\/n.kind=23
 ·exact Oz d J v n w deep head hv D O hd I
 by_cases N:n.kind=24
 ·exact Ry d J v n w deep head hv D N hd I
 (have M:n.kind=25:=by have h:=D;unfold aH at h;rw[gB (by omega),gB (by omega),gB (by omega),gB (by omega),gB (by omega),gB (by omega),gB (by omega),gB (by omega),gB (by omega)]at h;obtain⟨l,p,rfl,-⟩:=cg h;rfl);exact Rz d HB v n w deep head hv D M hd I
def nV(F:tZ)(deep:Nat)(x:Nd):List It:=mP (deep+1)++(F.stmt x (deep+1) false++[.nl])
theorem B0(F:tZ)(deep:Nat)(x:Nd):tx (nV F deep x)=ym (deep+1)++tx (F.stmt x (deep+1) false)++(⟨#[10]⟩:BA):=by unfold nV;rw[bD,bD,ar];rfl
theorem Ts(F:tZ)(n:Nd)(deep:Nat):tx (oT F n deep)=(⟨#[123,10]⟩:BA)++tx (n.kids.flatMap (nV F deep))++ym deep++(⟨#[125]⟩:BA):=by show tx (cK 123::.gap 10::(n.kids.flatMap (nV F deep)++(mP deep++[cK 125])))=_;rw[ay,ay (.gap 10),bD,bD,<-ar,ar,ar];rfl
theorem yt(d:Nat)(HS:yn d)(v:Value)(n:Nd)(w:World)(deep:Nat)(hv:aF w v n)(h:bI (aa d) n=true)(hd:deep+d+1<=1000)(hM:(tx (oT (ac d) n deep)).size<=10000000000000000):
  Calls prog 30 #[v,(deep:Int)] w fun e w'=>e=.returned (.string (tx (oT (ac d) n deep)))/\Below w w w':=by
 unfold bI at h;rw[gA,gA]at h;have HL:=hid (List.all_eq_true.1 h.2.2);have HR:=hid (Ts (ac d) n deep);rw[HR.out,gE,gE,gE]at hM;have gh:=ux (nV (ac d) deep) (fun x=>by rw[B0,gE];exact Nat.le_add_left _ _) n.kids;obtain⟨A,cp,rfl,hC⟩:=hv.toC;have HV:=hid hv;have hB:=(aj w #[n.kind,n.text,.slice A n.kids.length cp,n.pos]).1;have N:=(aj w #[n.kind,n.text,.slice A n.kids.length cp,n.pos]).2;have gj:=tB deep;have gi:=tB (deep+1);have q1:IntKind.i64.wrap ((deep:Int)+1)=(deep:Int)+1:=jC _ (by omega);clear hv hC h;(go_enter func30,ntmps30);go_wp2_with fail;generalize w.alloc (.cells #[n.kind,n.text,.slice A n.kids.length cp,n.pos] 24)=w0 at *;go_loopg [5,6] n.kids.length (fun k u5 u6 wr=>∃i:Nat,i<=n.kids.length/\n.kids.length-i<=k/\u6=.int .i64 (i:Int)/\u5=.string ((⟨#[123,10]⟩:BA)++tx ((n.kids.take i).flatMap (nV (ac d) deep)))/\Below w0 w0 wr)
 case atStart=>exact⟨0,gQ _,by omega,rfl,rfl,gH _ _⟩
 case round=>
  obtain⟨i,hi,hk,rfl,rfl,D⟩:=hrel;have yk:=pV (nV (ac d) deep) n.kids i;by_cases M:i<n.kids.length
  ·(have U:(i:Int)<(n.kids.length:Int):=by omega);(have h0:(0:Int)<=(i:Int):=by omega);obtain⟨x0,x1,x2,x3,-,-,-,-⟩:=ab (N.bl D);obtain⟨-,-,n2,-⟩:=Gr (N.bl D);obtain⟨bp,op,A2,c2,gg,hp⟩:=ep (af.below HV.out (au hB D)) i M;subst gg;have J:=hid (BZ (nV (ac d) deep) n.kids i M);have ga:=pV (nV (ac d) deep) n.kids (i+1);rw[J.out,B0,gE,gE,gE]at ga;rw[B0]at J;have HX:=hid (HL.out _ (gS M));generalize n.kids[i]=x at *;have O:=hid (fun m:Wd (Below wr wr)=>HS _ x m.wd (deep+1) (hp.below m.ok).2.2.2.2 HX.out (by omega) (by omega));have I:=hid (fun m:Wd (Below wr wr)=>DK (deep+1) (by omega) m.wd);obtain⟨k0,k1,k2,k3⟩:=yq hp;generalize tx ((ac d).stmt x (deep+1) false)=X at *;generalize tx ((n.kids.take i).flatMap (nV (ac d) deep))=S at *;generalize ym (deep+1)=T at *;rw[show((deep+1:Nat):Int)=(deep:Int)+1 by omega]at O I;clear hp HX;go_wp2_with fail;refine cF wr ?_;repeat(go_big_quiet_step (first
    |(go_at_call 60;rename_i m;exact ub O.out m)
    |(go_at_call 59;rename_i m;exact ub I.out m)))
   refine jQ ?_;intro m;have gd:=m.ok;clear k0 k1 k2 k3 n2 x0 x1 x2 x3 O I;go_wp2_with fail;go_roundg (n.kids.length-(i+1))
   case measure=>omega
   case rel=>exact⟨i+1,by omega,gC _,by go_num,by rw[J.out];simp only[ar],au D gd⟩
  ·(have U:¬ (i:Int)<(n.kids.length:Int):=by omega);obtain⟨x0,x1,x2,x3,-,-,-,-⟩:=ab (N.bl D);have J:=hid (show tx ((n.kids.take i).flatMap (nV (ac d) deep))=tx (n.kids.flatMap (nV (ac d) deep))by rw[gV (by omega)]);rw[<-J.out]at HR hM;generalize tx ((n.kids.take i).flatMap (nV (ac d) deep))=S at *;have I:=hid (DK deep (by omega) wr);generalize ym deep=T at *;go_wp2_with fail;refine I.out.mono ?_;rintro e w3⟨rfl,gb⟩;go_wp2_with fail;go_ret;have ge:=au D gb;exact⟨by rw[HR.out];rfl,au hB ge⟩
theorem Fk(d:Nat)(D:yn d):mO (d+1):=fun v n w deep hv hn hd hM=>yt d D v n w deep hv hn (by omega) hM
theorem OD{F:cm}{n:Nd}(h:iL F n=true):∃t a b p,n=.mk 5 t [a,b] p/\(an a=true\/F.typ a=true)/\(an b=true\/F.expr b=true):=by unfold iL at h;rw[gA]at h;obtain⟨t,l,p,rfl,-,I⟩:=aJ (by decide) h.1;obtain⟨a,b,rfl,D,hb⟩:=iO I;unfold ck at D hb;rw[gI]at D hb;exact⟨t,a,b,p,rfl,D,hb⟩
theorem lH{P:Prop}{n:Nd}(h:an n=true\/P)(D:n.kind≠0):P:=h.resolve_left fun h=>by obtain⟨a,rfl⟩:=bN h;exact D rfl
theorem Tt(d:Nat)(t:ByteArray)(a b:Nd)(p:Int)(deep:Nat):tx (pl (ac d) (.mk 5 t [a,b] p) deep)=(⟨#[118,97,114,32]⟩:BA)++t++(if a.kind=0 then(⟨#[]⟩:BA)else(⟨#[32]⟩:BA)++tx (ag d a))++(if b.kind=0 then(⟨#[]⟩:BA)else(⟨#[32,61,32]⟩:BA)++tx ((ac d).expr b deep false)):=by
 show tx (f8 ⟨#[118,97,114]⟩::aY::iq t::((if a.kind=0 then[]else aY::(ac d).typ a)++(if b.kind=0 then[]else aY::cK 61::aY::(ac d).expr b deep false)))=_;rw[ay,ay aY,ay (iq t),bD,DG,oQ,tC,<-ar,<-ar,<-ar];congr 1
 ·congr 1;split
  ·rfl
  ·rw[ay,yi]
 ·split
  ·rfl
  ·rw[ay,ay (cK 61),ay aY ((ac d).expr b deep false),<-ar,<-ar];rfl
theorem DM(d:Nat)(HE:fX d)(v:Value)(n:Nd)(w:World)(deep:Nat)(hv:aF w v n)(hn:iL (aa d) n=true)(hd:deep+d<=1000)(M:(tx (pl (ac d) n deep)).size<=10000000000000000):
  Calls prog 47 #[v,(deep:Int)] w fun e w'=>e=.returned (.string (tx (pl (ac d) n deep)))/\Below w w w':=by
 obtain⟨t,a,b,p,rfl,ha,hb⟩:=OD hn;have J:=hid (Tt d t a b p deep);rw[J.out,gE,gE,gE]at M;obtain⟨A,cp,rfl,hC⟩:=hv.toC;simp only[Nd.kind_mk,Nd.text_mk,Nd.kids_mk,Nd.pos_mk]at *;have hB:=(aj w #[.int .i64 5,.string t,.slice A 2 cp,.int .i64 p]).1;have ga:aF w (.agg #[.int .i64 5,.string t,.slice A 2 cp,.int .i64 p]) (.mk 5 t [a,b] p):=hv;have hN:=(aj w #[.int .i64 5,.string t,.slice A 2 cp,.int .i64 p]).2;obtain⟨bp,op,A2,c2,A3,c3,rfl,hp,hq⟩:=Fg (af.below ga hB);have gh:=hid (fun(h:a.kind≠0)(hm:(tx (ag d a)).size<=10000000000000000)=>lu d _ a _ hp.2.2.2.2 (lH ha h) hm);have gd:=hid (fun(w':World)(gg:Below _ _ w')(h:b.kind≠0)(hm:(tx ((ac d).expr b deep false)).size<=10000000000000000)=>HE _ b w' deep false (hq.below gg).2.2.2.2 (lH hb h) hd hm);have HQ:=hid hq;have gb:=hid hN;obtain⟨p0,p1,p2,p3,-⟩:=hp;obtain⟨q0,q1,q2,q3,-⟩:=hq;generalize tx (ag d a)=X at *;generalize tx ((ac d).expr b deep false)=Y at *;clear hv hC ga hN ha hb hn HE;by_cases O:a.kind=0
 ·rw[gG O]at J M;rw[O]at p0;by_cases I:b.kind=0
  ·rw[gG I]at J M;rw[I]at q0;(go_enter func47,ntmps47);go_wp2_with fail;go_ret;exact⟨by rw[J.out,oM,oM];rfl,hB⟩
  ·rw[gB I]at J M;rw[gE]at M;(have e2:(b.kind != 0)=true:=by simpa using I);have N:=hid (gd.out _ (gH _ _) I (by omega));(go_enter func47,ntmps47);go_wp2_with fail;refine N.out.mono ?_;rintro e w3⟨rfl,D⟩;go_wp2_with fail;go_ret;exact⟨by rw[J.out,oM];rfl,au hB D⟩
 ·rw[gB O,gE]at M;rw[gB O]at J;(have e1:(a.kind != 0)=true:=by simpa using O);have gi:=hid (gh.out O (by omega));(go_enter func47,ntmps47);go_wp2_with fail;refine gi.out.mono ?_;rintro e w3⟨rfl,D⟩;obtain⟨n0,n1,n2,n3,-,-,-,-⟩:=ab (gb.out.below D gb.out.lt);obtain⟨r0,r1,r2,r3,-⟩:=HQ.out.below D;have U:=au hB D;by_cases I:b.kind=0
  ·rw[gG I]at J M;rw[I]at r0;clear q0 q1 q2 q3 p0 p1 p2 p3;go_wp2_with fail;go_ret;exact⟨by rw[J.out,oM];rfl,U⟩
  ·rw[gB I]at J M;rw[gE]at M;(have e2:(b.kind != 0)=true:=by simpa using I);have N:=hid (gd.out _ D I (by omega));clear q0 q1 q2 q3 p0 p1 p2 p3;go_wp2_with fail;refine N.out.mono ?_;rintro e w4⟨rfl,ge⟩;go_wp2_with fail;go_ret;exact⟨by rw[J.out];rfl,au U ge⟩
end
end Go.Proofs.YteialcjaiocjdaaGreatDoor
