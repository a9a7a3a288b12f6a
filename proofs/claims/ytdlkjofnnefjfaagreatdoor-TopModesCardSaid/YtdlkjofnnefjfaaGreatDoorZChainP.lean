/- The laws' example, by its plain functions (no program in sight). What a chain keeps: sizes, and what the two laws ask (no program in sight). What the two laws ask of a chain (no program in sight). The laws' example, walked. -/
import Derived.Test.YtdlkjofnnefjfaaGreatDoorZShort
import Derived.Test.YtdlkjofnnefjfaaGreatDoorZSizeA
import Derived.Test.YtdlkjofnnefjfaaGreatDoorZRunA
set_option linter.all false
namespace Go.Proofs.YtdlkjofnnefjfaaGreatDoor
set_option maxRecDepth 100000
section
open Go.RowKit
def zgT:ByteArray:=⟨#[104,116,116,112,115,58,47,47,97,46,111,114,103,47,121]⟩
def zcV:ByteArray:=⟨#[104,116,116,112,115,58,47,47,97,46,111,114,103,47,120]⟩
def zej:ByteArray:=⟨#[104,116,116,112,115,58,47,47,97,46,111,114,103,47]⟩
def zfR:ByteArray:=⟨#[76,111,99,97,116,105,111,110,58,32,104,116,116,112,115,58,47,47,98,46,111,114,103,47,13,10]⟩
def awA:ByteArray:=⟨#[97,46,111,114,103]⟩
def awB:ByteArray:=⟨#[98,46,111,114,103]⟩
def awU (p h:ByteArray):Url:={ url0 with scheme:=sHttps,host:=⟨1,h,0,six0⟩,port:=-1,path:=[p] }
def awQ:Req:={ req0 with method:=sGET,orig:=zcF,referrer:=zcV }
def awRs:List (Int×ByteArray):=[(302,zfR),(200,⟨#[]⟩)]
def awX:Req:={ awQ with url:=awU ⟨#[121]⟩ awA }
def awY:Req:={ awQ with url:=awU ⟨#[]⟩ awB,tainted:=true,count:=1 }
theorem zeP:chainR zgT awQ awRs=([awX,awY],0,200):=by kernel_rfl
theorem zfS:zch zcV=some (awU ⟨#[120]⟩ awA):=by kernel_rfl
theorem zhx:mayR awX=true∧mayR awY=true:=⟨by kernel_rfl,by kernel_rfl⟩
theorem zeR:quietR awX=true∧quietR awY=true:=⟨by kernel_rfl,by kernel_rfl⟩
theorem zfV:zbJ awX=[]∧zbJ awY=[]:=⟨by kernel_rfl,by kernel_rfl⟩
theorem zeQ {b:Url} {n:Int} (hb:b.scheme=sHttps) (h:zbL 0 (awU ⟨#[120]⟩ awA) b n):n=Policy.al 0 (bothU (awU ⟨#[120]⟩ awA) b) (zbK (awU ⟨#[120]⟩ awA) && !zbK b):=by
 obtain⟨d,⟨x,y,hx,hy,rfl⟩,rfl⟩:=h
 have h1:x=zbK (awU ⟨#[120]⟩ awA):=hx (by decide)
 have h2:y=zbK b:=hy (by rw[hb];decide)
 rw[h1,h2]
theorem zfT {u:Url} {d:ByteArray} (h1:u.host.kind=1) (h2:mayH u.host=true) (h:zaP u d):d=doorT u u.host.name:=by
 obtain⟨ht,h3,rfl⟩:=h
 rw[h3.2 h1 h2]
theorem zhJ {s:ByteArray} (h:zaY (awU ⟨#[120]⟩ awA) s):s=zcV:=by
 unfold zaY Told at h
 rw[if_pos (by kernel_rfl)] at h
 obtain⟨d,hd,rfl⟩:=h
 rw[zfT (by kernel_rfl) (by kernel_rfl) hd]
 kernel_rfl
theorem zhK {s:ByteArray} (h:zbf (awU ⟨#[120]⟩ awA) s):s=zej:=by
 unfold zbf Told at h
 rw[if_pos (by kernel_rfl)] at h
 obtain⟨t,ht,rfl⟩:=h
 obtain⟨r,⟨d,hd,rfl⟩,rfl⟩:=ht.1 (by kernel_rfl) (by kernel_rfl)
 rw[zfT (by kernel_rfl) (by kernel_rfl) hd]
 kernel_rfl
theorem zil {hs:List Fld} (h:zcr awX hs):hs=[(sReferer,zcV)]:=by
 obtain⟨rt,rb,ot,ob,hr,⟨ho,_,_⟩,rfl⟩:=h
 obtain⟨n,hl,ht⟩:=hr.2 _ zfS
 have hn:=zeQ (by kernel_rfl) hl
 rw[show Policy.al 0 (bothU (awU ⟨#[120]⟩ awA) awX.url) (zbK (awU ⟨#[120]⟩ awA) && !zbK awX.url)=2 by kernel_rfl] at hn
 obtain⟨s,hf,hs,_⟩:=ht.2.2.1 hn
 have hs':=zhJ hf
 have hrt:rt=zcV:=by rw[hs (by rw[hs'];decide),hs']
 have hrb:rb=true:=by rw[ht.1,hrt];kernel_rfl
 rw[zeR.1] at ho
 rw[ho,hrb,hrt,zfV.1]
 rfl
theorem zim {hs:List Fld} (h:zcr awY hs):hs=[(sReferer,zej)]:=by
 obtain⟨rt,rb,ot,ob,hr,⟨ho,_,_⟩,rfl⟩:=h
 obtain⟨n,hl,ht⟩:=hr.2 _ zfS
 have hn:=zeQ (by kernel_rfl) hl
 rw[show Policy.al 0 (bothU (awU ⟨#[120]⟩ awA) awY.url) (zbK (awU ⟨#[120]⟩ awA) && !zbK awY.url)=1 by kernel_rfl] at hn
 have hrt:rt=zej:=zhK (ht.2.1 hn)
 have hrb:rb=true:=by rw[ht.1,hrt];kernel_rfl
 rw[zeR.2] at ho
 rw[ho,hrb,hrt,zfV.2]
 rfl
theorem zhw:getL [(sReferer,zcV)] sReferer=zcV∧getL [(sReferer,zej)] sReferer=zej:=⟨by kernel_rfl,by kernel_rfl⟩
end
section
open Go.RowKit
structure Req.In (x:Req):Prop where
 u:x.url.In 3000 (2000 * (x.count.toNat + 1))
 m:x.method.size≤300
 hl:x.heads.length≤60
 hz:∀ f∈x.heads,f.1.size≤300∧f.2.size≤300
 on:x.orig.host.name.size≤300
 os:x.orig.scheme.size≤300
 rf:x.referrer.size≤5000
 c0:0≤x.count
 c1:x.count≤20
theorem Req.In.k {x:Req} (h:x.In):2000 * (x.count.toNat + 1)≤42000:=by have:=h.c0;have:=h.c1;omega
theorem Req.In.ff {x:Req} (h:x.In):zax x.heads:=⟨yW h.hl (by decide),fun f hf=>⟨yW (h.hz f hf).1 (by decide),yW (h.hz f hf).2 (by decide)⟩⟩
theorem Req.In.fits {x:Req} (h:x.In):x.Fits :=
 ⟨h.u.fits (by decide) (yW h.k (by decide)),yW h.m (by decide),h.ff,yW h.on (by decide),yW h.rf (by decide)⟩
theorem Req.In.small {x:Req} (h:x.In):x.Small :=
 ⟨h.fits,h.u.small (by decide) (yW h.k (by decide)),yW h.os (by decide),yW h.rf (by decide),fun a ha=>by
  unfold zch zhV at ha
  cases hp:parseR x.referrer with
  | none=>rw[hp] at ha;cases ha
  | some u =>
   rw[hp] at ha
   simp only at ha
   have hu:=zby _ _ hp
   have hr:=h.rf
   split at ha
   ·cases ha
   ·cases ha;exact hu.small (by omega) (by omega)⟩
theorem zie (l:List Fld):0≤zdw l∧zdw l < 9:=by
 have h1:∀ s,0≤zaV s∧zaV s < 9:=by
  intro s
  unfold zaV findL
  have h2:∀ (p:ByteArray→Bool) (l:List ByteArray) (k:Int),0≤k→findGo p l k < k + l.length∨findGo p l k < 0:=by
   intro p l
   induction l with
   | nil=>intro k hk;right;simp[findGo]
   | cons x l ih =>
    intro k hk
    unfold findGo
    split
    ·left;simp;omega
    ·rcases ih (k + 1) (by omega) with h|h
     ·left;simp;omega
     ·right;exact h
  have h3:=h2 (isPol s) polNames 0 (by decide)
  have h4:polNames.length=9:=rfl
  rw[h4] at h3
  omega
 have h2:∀ l,0≤za1 l∧za1 l < 9:=by
  intro l
  induction l with
  | nil=>exact⟨by decide,by decide⟩
  | cons x l ih =>
   show 0≤(if zaV x=0 then za1 l else zaV x)∧(if zaV x=0 then za1 l else zaV x) < 9
   split
   ·exact ih
   ·exact h1 x
 exact h2 _
theorem ze5 {raw:ByteArray} (hr:raw.size≤300):(zaw raw).length≤300∧∀ f∈zaw raw,f.1.size≤300∧f.2.size≤300 :=
 ⟨yW (zcI raw).1 hr,fun f hf=>⟨yW ((zcI raw).2 f hf).1 hr,yW ((zcI raw).2 f hf).2 hr⟩⟩
theorem zhD {raw:ByteArray} (hr:raw.size≤300):(rawR (zaw raw)).1.size≤600:=zh3 _ 300 (fun f hf=>((ze5 hr).2 f hf).2)
theorem zgk {x:Req} (h:x.In) {raw:ByteArray} (hr:raw.size≤300):(zbd (zaw raw) x.url).In 3000 (2000 * (x.count.toNat + 1) + 2000):=by
 have h1:=zhD hr
 exact(zgt (zaw raw) x.url 3000 _ h.u (by omega)).mono (yV _) (by omega)
theorem Req.In.follows {x:Req} (h:x.In) {raw:ByteArray} (hr:raw.size≤300):Follows x raw:=by
 have hk:=h.k
 have hp:=ze5 hr
 have h1:=zhD hr
 exact⟨yW hr (by decide),⟨yW hp.1 (by decide),fun f hf=>⟨yW (hp.2 f hf).1 (by decide),yW (hp.2 f hf).2 (by decide)⟩⟩,h.fits,h.small.u.np,yW h1 (by decide),
  fun r hx=>((zcJ x.url _ 3000 _ h.u (by omega) r hx).fits (by decide) (by omega)).np,(zgk h hr).fits (by decide) (by omega),
  yW (zhW _ _ 300 300 hp.1 (fun f hf=>(hp.2 f hf).2)) (by decide),h.c0,Int.le_trans h.c1 (by decide)⟩
structure Goes (x:Req) (st:Int) (raw:ByteArray) (y:Req):Prop where
 may:mayR x=true
 ok:zaN raw=true
 rd:redir st=true
 r1:x.redirect≠1
 r2:x.redirect≠2
 web:webU (zbd (zaw raw) x.url)=true
 cn:x.count≠20
 y:y=polX (zdw (zaw raw)) (zbI (changeR x st) (zbd (zaw raw) x.url))
theorem zbb {x y:Req} {st n:Int} {raw:ByteArray} (h:stepR x st raw=(some y,n)):Goes x st raw y:=by
 unfold stepR at h
 split at h
 ·cases h
 ·rename_i h1
  unfold followR at h
  split at h
  ·cases h
  ·rename_i h2
   split at h
   ·cases h
   ·rename_i h3
    split at h
    ·cases h
    ·rename_i h4
     split at h
     ·cases h
     ·rename_i h5
      unfold nextR at h
      split at h
      ·cases h
      ·split at h
       ·cases h
       ·split at h
        ·cases h
        ·rename_i h6
         split at h
         ·cases h
         ·rename_i h7
          split at h
          ·cases h
          ·exact⟨by simpa using h1,by simpa using h2,by simpa using h3,h4,h5,by simpa using h6,h7,(Option.some.inj (Prod.mk.inj h).1).symm⟩
theorem ze6 (p:Int) (x:Req):(polX p x).url=x.url∧(polX p x).method=x.method∧(polX p x).heads=x.heads∧(polX p x).orig=x.orig∧(polX p x).mode=x.mode∧(polX p x).redirect=x.redirect∧(polX p x).referrer=x.referrer∧(polX p x).tainted=x.tainted∧(polX p x).count=x.count:=by
 unfold polX
 split <;> simp
theorem zct (st:Int) (x:Req):(changeR x st).url=x.url∧(changeR x st).orig=x.orig∧(changeR x st).mode=x.mode∧(changeR x st).redirect=x.redirect∧(changeR x st).policy=x.policy∧(changeR x st).referrer=x.referrer∧(changeR x st).tainted=x.tainted∧(changeR x st).count=x.count:=by
 unfold changeR
 split <;> simp
structure Next (x y:Req):Prop where
 orig:y.orig=x.orig
 mode:y.mode=x.mode
 redirect:y.redirect=x.redirect
 referrer:y.referrer=x.referrer
 count:y.count=x.count + 1
 tainted:y.tainted=taintR x.tainted x.orig x.url y.url
 heads:∀ f∈y.heads,f∈x.heads
 hl:y.heads.length≤x.heads.length
 method:y.method=x.method∨y.method=sGET
theorem zdi (ns:List ByteArray) (l:List Fld):∀ f∈zaf ns l,f∈l:=fun f hf=>(List.mem_filter.1 (show f∈List.filter _ _ from hf)).1
theorem zeT (ns:List ByteArray) (l:List Fld):(zaf ns l).length≤l.length:=List.length_filter_le _ _
theorem Goes.next {x y:Req} {st:Int} {raw:ByteArray} (h:Goes x st raw y):Next x y:=by
 obtain⟨p,hp⟩:∃ p,p=zdw (zaw raw):=⟨_,rfl⟩
 obtain⟨nx,hn⟩:∃ nx,nx=zbd (zaw raw) x.url:=⟨_,rfl⟩
 have hy:=h.y
 rw[← hp,← hn] at hy
 obtain⟨p1,p2,p3,p4,p5,p6,p7,p8,p9⟩:=ze6 p (zbI (changeR x st) nx)
 obtain⟨c1,c2,c3,c4,c5,c6,c7,c8⟩:=zct st x
 have hh:∀ f∈(zbI (changeR x st) nx).heads,f∈(changeR x st).heads:=by
  intro f hf
  have hf':f∈(if bothU (changeR x st).url nx=true then (changeR x st).heads else zaf [zeJ] (changeR x st).heads):=hf
  split at hf'
  ·exact hf'
  ·exact zdi _ _ f hf'
 have hl:(zbI (changeR x st) nx).heads.length≤(changeR x st).heads.length:=by
  show (if bothU (changeR x st).url nx=true then (changeR x st).heads else zaf [zeJ] (changeR x st).heads).length≤_
  split
  ·exact yV _
  ·exact zeT _ _
 have ch:(∀ f∈(changeR x st).heads,f∈x.heads)∧(changeR x st).heads.length≤x.heads.length∧((changeR x st).method=x.method∨(changeR x st).method=sGET):=by
  unfold changeR
  split
  ·exact⟨zdi _ _,zeT _ _,.inr rfl⟩
  ·exact⟨fun f hf=>hf,yV _,.inl rfl⟩
 subst hy
 refine⟨p4.trans c2,p5.trans c3,p6.trans c4,p7.trans c6,?_,?_,?_,?_,?_⟩
 ·rw[p9];show (changeR x st).count + 1=_;rw[c8]
 ·rw[p8,p1];show taintR (changeR x st).tainted (changeR x st).orig (changeR x st).url nx=taintR _ _ _ nx;rw[c7,c2,c1]
 ·rw[p3];exact fun f hf=>ch.1 f (hh f hf)
 ·rw[p3];exact yW hl ch.2.1
 ·rw[p2];exact ch.2.2
theorem Goes.url {x y:Req} {st:Int} {raw:ByteArray} (h:Goes x st raw y):y.url=zbd (zaw raw) x.url:=by
 rw[h.y,(ze6 _ _).1];rfl
theorem Goes.in_ {x y:Req} {st:Int} {raw:ByteArray} (h:Goes x st raw y) (hx:x.In) (hr:raw.size≤300):y.In:=by
 have hn:=h.next
 have hc0:=hx.c0
 have hc1:=hx.c1
 have hcn:=h.cn
 have hcy:=hn.count
 refine⟨?_,?_,yW hn.hl hx.hl,fun f hf=>hx.hz f (hn.heads f hf),by rw[hn.orig];exact hx.on,by rw[hn.orig];exact hx.os,by rw[hn.referrer];exact hx.rf,by omega,by omega⟩
 ·rw[h.url];exact(zgk hx hr).mono (yV _) (by omega)
 ·rcases hn.method with e|e
  ·rw[e];exact hx.m
  ·rw[e];decide
theorem Goes.policy {x y:Req} {st:Int} {raw:ByteArray} (h:Goes x st raw y):y.policy=x.policy∨(0≤y.policy∧y.policy < 9):=by
 have ht:=zie (zaw raw)
 rw[h.y]
 unfold polX
 split
 ·left;show (changeR x st).policy=_;exact(zct st x).2.2.2.2.1
 ·right;exact ht
theorem zcC {x:Req}:mayR x=true↔webU x.url=true∧nameB x.method=true∧x.heads.any oddF=false∧mayO x.orig=true∧inB x.mode 3=true∧inB x.redirect 3=true∧inB x.policy 9=true∧inB x.count 21=true:=by
 unfold mayR
 simp only[Bool.and_eq_true,Bool.not_eq_true']
theorem zeZ {n m:Int}:inB n m=true↔0≤n∧n < m:=by
 unfold inB
 simp only[Bool.and_eq_true,decide_eq_true_eq]
theorem zg5:nameB sGET=true:=by decide
theorem Goes.may_next {x y:Req} {st:Int} {raw:ByteArray} (h:Goes x st raw y):mayR y=true:=by
 obtain⟨m1,m2,m3,m4,m5,m6,m7,m8⟩:=zcC.1 h.may
 have hn:=h.next
 have hcn:=h.cn
 have hcy:=hn.count
 refine zcC.2 ⟨by rw[h.url];exact h.web,?_,?_,by rw[hn.orig];exact m4,by rw[hn.mode];exact m5,by rw[hn.redirect];exact m6,?_,?_⟩
 ·rcases hn.method with e|e
  ·rw[e];exact m2
  ·rw[e];exact zg5
 ·rw[List.any_eq_false] at m3 ⊢
  exact fun f hf=>m3 f (hn.heads f hf)
 ·rcases h.policy with e|e
  ·rw[e];exact m7
  ·exact zeZ.2 e
 ·have:=zeZ.1 m8
  exact zeZ.2 (by omega)
def zcc (rs:List (Int×ByteArray)):Prop:=∀ r∈rs,r.2.size≤300
theorem zf8:∀ (rs:List (Int×ByteArray)) (x:Req),x.In→zcc rs→zbR x rs
 | [],x,_,_=>trivial
 | r::rs,x,hx,hr=>⟨hx.follows (hr r (by simp)),fun y n hy=>zf8 rs y ((zbb hy).in_ hx (hr r (by simp))) (fun z hz=>hr z (by simp[hz]))⟩
theorem go_in:∀ (rs:List (Int×ByteArray)) (x:Req),x.In→zcc rs→∀ y∈(goR x rs).1,y.In
 | [],x,_,_,y,hy=>by cases hy
 | r::rs,x,hx,hr,y,hy=>by
  unfold goR at hy
  split at hy
  ·cases hy
  ·rename_i z n hz
   have hz':=(zbb hz).in_ hx (hr r (by simp))
   rcases List.mem_cons.1 hy with rfl|hy
   ·exact hz'
   ·exact go_in rs z hz' (fun z hz=>hr z (by simp[hz])) y hy
def zfI:Req→List Req→Prop
 | _,[]=>True
 | x,y::l=>(Next x y∧mayR x=true∧mayR y=true)∧zfI y l
theorem zeX:∀ (rs:List (Int×ByteArray)) (x:Req),zfI x (goR x rs).1
 | [],x=>trivial
 | r::rs,x=>by
  unfold goR
  split
  ·trivial
  ·rename_i z n hz
   exact⟨⟨(zbb hz).next,(zbb hz).may,(zbb hz).may_next⟩,zeX rs z⟩
structure Begin (raw:ByteArray) (q:Req):Prop where
 rs:raw.size≤300
 u:q.url.In 300 18060
 m:q.method.size≤300
 hl:q.heads.length≤60
 hz:∀ f∈q.heads,f.1.size≤300∧f.2.size≤300
 on:q.orig.host.name.size≤300
 os:q.orig.scheme.size≤300
 rf:q.referrer.size≤5000
theorem Begin.starts {raw:ByteArray} {q:Req} (h:Begin raw q):Starts raw q:=by
 have hr:=h.rs
 exact⟨by omega,⟨h.u.fits (by decide) (by decide),yW h.m (by decide),⟨yW h.hl (by decide),fun f hf=>⟨yW (h.hz f hf).1 (by decide),yW (h.hz f hf).2 (by decide)⟩⟩,yW h.on (by decide),yW h.rf (by decide)⟩,
  fun u hu=>(zby raw u hu).fits (by omega) (by omega)⟩
theorem zbm {raw:ByteArray} {q x:Req} {n:Int} (h:startR raw q=(some x,n)):∃ u,parseR raw=some u∧x=zaR q u∧mayR x=true∧n=0:=by
 unfold startR at h
 split at h
 ·cases h
 ·rename_i u hu
  split at h
  ·cases h
  ·split at h
   ·cases h
   ·rename_i h1
    cases h
    exact⟨u,hu,rfl,by simpa using h1,rfl⟩
theorem Begin.in_ {raw:ByteArray} {q x:Req} {n:Int} (h:Begin raw q) (hs:startR raw q=(some x,n)):x.In:=by
 obtain⟨u,hu,rfl,_,_⟩:=zbm hs
 have hr:=h.rs
 exact⟨(zby raw u hu).mono (by omega) (by show _≤2000 * (Int.toNat 0 + 1);simp;omega),h.m,h.hl,h.hz,h.on,h.os,h.rf,Int.le_refl _,by show (0:Int)≤20;decide⟩
theorem Begin.fits {raw:ByteArray} {q:Req} (h:Begin raw q) {rs:List (Int×ByteArray)} (hr:zcc rs):∀ x n,startR raw q=(some x,n)→zbR x rs:=fun x n hs=>zf8 rs x (h.in_ hs) hr
theorem zcl {raw:ByteArray} {q:Req} (h:Begin raw q) {rs:List (Int×ByteArray)} (hr:zcc rs):∀ y∈(chainR raw q rs).1,y.In:=by
 intro y hy
 unfold chainR at hy
 split at hy
 ·cases hy
 ·rename_i x n hs
  rcases List.mem_cons.1 hy with rfl|hy
  ·exact h.in_ hs
  ·exact go_in rs x (h.in_ hs) hr y hy
theorem zhz:∀ (rs:List (Int×ByteArray)) (x:Req),0≤x.count→x.count≤20→((goR x rs).1.length:Int)≤20 - x.count∧(goR x rs).1.length≤rs.length
 | [],x,_,h1=>by constructor <;> simp[goR];omega
 | r::rs,x,h0,h1=>by
  unfold goR
  split
  ·constructor <;> simp;omega
  ·rename_i z n hz
   have hg:=zbb hz
   have hc:=hg.next.count
   have hn:=hg.cn
   have:=zhz rs z (by omega) (by omega)
   simp only[List.length_cons]
   omega
theorem zgD {x:Req} {st e:Int} {raw:ByteArray} (h:stepR x st raw=(none,e)) (hm:mayR x=true) (hr:x.redirect=0):e≠7∧e≠10∧(e=6→x.count=20):=by
 unfold stepR at h
 rw[if_neg (by simp[hm])] at h
 unfold followR at h
 split at h
 ·cases h;exact⟨by decide,by decide,fun h=>absurd h (by decide)⟩
 ·split at h
  ·cases h;exact⟨by decide,by decide,fun h=>absurd h (by decide)⟩
  ·rw[if_neg (by rw[hr];decide),if_neg (by rw[hr];decide)] at h
   unfold nextR at h
   split at h
   ·cases h;exact⟨by decide,by decide,fun h=>absurd h (by decide)⟩
   ·split at h
    ·cases h;exact⟨by decide,by decide,fun h=>absurd h (by decide)⟩
    ·split at h
     ·cases h;exact⟨by decide,by decide,fun h=>absurd h (by decide)⟩
     ·split at h
      ·rename_i hc;cases h;exact⟨by decide,by decide,fun _=>hc⟩
      ·split at h
       ·cases h;exact⟨by decide,by decide,fun h=>absurd h (by decide)⟩
       ·cases h
theorem zhy:∀ (rs:List (Int×ByteArray)) (x:Req),mayR x=true→x.redirect=0→(goR x rs).2.1≠7∧(goR x rs).2.1≠10∧((goR x rs).2.1=6→((goR x rs).1.length:Int)=20 - x.count)
 | [],x,_,_=>by simp[goR]
 | r::rs,x,hm,hr=>by
  unfold goR
  split
  ·rename_i e he
   have h:=zgD he hm hr
   exact⟨h.1,h.2.1,fun h6=>by rw[h.2.2 h6];rfl⟩
  ·rename_i z n hz
   have hg:=zbb hz
   have hc:=hg.next.count
   have h:=zhy rs z hg.may_next (hg.next.redirect.trans hr)
   refine⟨h.1,h.2.1,fun h6=>?_⟩
   have h3:=h.2.2 h6
   simp only[List.length_cons]
   omega
end
section
open Go.RowKit
theorem zhq {raw:ByteArray} {q:Req} {e:Int} (h:startR raw q=(none,e)):e≠0:=by
 unfold startR at h
 split at h
 ·cases h;decide
 ·split at h
  ·cases h;decide
  ·split at h
   ·cases h;decide
   ·cases h
theorem zb7 {raw:ByteArray} {q:Req} {e:Int} (h:startR raw q=(none,e)) (rs:List (Int×ByteArray)):e≠0∧chainR raw q rs=([],e,0):=by
 refine⟨zhq h,?_⟩
 unfold chainR
 rw[h]
theorem zbh {raw:ByteArray} {q x:Req} {n:Int} (h:startR raw q=(some x,n)) (rs:List (Int×ByteArray)):chainR raw q rs=(x::(goR x rs).1,(goR x rs).2):=by
 unfold chainR
 rw[h]
theorem zdO {raw:ByteArray} {q x:Req} {n:Int} (h:startR raw q=(some x,n)) (rs:List (Int×ByteArray)):1≤(chainR raw q rs).1.length∧(chainR raw q rs).1.length≤21∧(chainR raw q rs).1.length≤rs.length + 1:=by
 obtain⟨u,hu,rfl,hm,rfl⟩:=zbm h
 have hc:(zaR q u).count=0:=rfl
 have hg:=zhz rs (zaR q u) (by rw[hc];decide) (by rw[hc];decide)
 rw[zbh h rs]
 simp only[List.length_cons]
 omega
theorem zdF {raw:ByteArray} {q:Req} {rs:List (Int×ByteArray)} (h:rs.length≤30):(chainR raw q rs).1.length≤31:=by
 cases hs:startR raw q with
 | mk o n =>
  cases o with
  | none=>rw[(zb7 hs rs).2];exact Nat.zero_le _
  | some x=>have:=zdO hs rs;omega
theorem zdN {raw:ByteArray} {q x:Req} {n:Int} (h:startR raw q=(some x,n)) (rs:List (Int×ByteArray)) (hr:q.redirect=0) :
  (chainR raw q rs).2.1≠7∧(chainR raw q rs).2.1≠10∧((chainR raw q rs).2.1=6→(chainR raw q rs).1.length=21):=by
 obtain⟨u,hu,rfl,hm,rfl⟩:=zbm h
 have hc:(zaR q u).count=0:=rfl
 have hg:=zhy rs (zaR q u) hm hr
 rw[zbh h rs]
 refine⟨hg.1,hg.2.1,fun h6=>?_⟩
 have:=hg.2.2 h6
 simp only[List.length_cons]
 omega
theorem zeA {raw:ByteArray} {q x:Req} {n:Int} (h:startR raw q=(some x,n)):chainR raw q []=([x],9,0):=zbh h []
theorem zfs {raw:ByteArray} {q x:Req} {n:Int} (h:startR raw q=(some x,n)) (hr:q.redirect≠0) (r:Int×ByteArray) (rs:List (Int×ByteArray)) :
  ∃ e m,chainR raw q (r::rs)=([x],e,m)∧(zaN r.2=false→e=3)∧(zaN r.2=true→redir r.1=false→e=0∧m=r.1)∧(zaN r.2=true→redir r.1=true→(q.redirect=1∧e=7)∨(q.redirect=2∧e=10)):=by
 rw[zbh h]
 obtain⟨u,hu,rfl,hm,rfl⟩:=zbm h
 have hx:(zaR q u).redirect=q.redirect:=rfl
 have h6:=(zcC.1 hm).2.2.2.2.2.1
 rw[hx] at h6
 have h7:=zeZ.1 h6
 have hs:stepR (zaR q u) r.1 r.2=followR (zaR q u) r.1 r.2:=by unfold stepR;rw[if_neg (by simp[hm])]
 unfold goR
 rw[hs]
 unfold followR
 rw[hx]
 cases h1:zaN r.2 with
 | false=>exact⟨_,_,rfl,fun _=>rfl,fun h=>by simp at h,fun h=>by simp at h⟩
 | true =>
  cases h2:redir r.1 with
  | false=>exact⟨_,_,rfl,fun h=>by simp at h,fun _ _=>⟨rfl,rfl⟩,fun _ h=>by simp at h⟩
  | true =>
   by_cases h3:q.redirect=1
   ·rw[if_neg (by simp),if_neg (by simp),if_pos h3]
    exact⟨_,_,rfl,fun h=>by simp at h,fun _ h=>by simp at h,fun _ _=>.inl ⟨h3,rfl⟩⟩
   ·have h4:q.redirect=2:=by omega
    rw[if_neg (by simp),if_neg (by simp),if_neg h3,if_pos h4]
    exact⟨_,_,rfl,fun h=>by simp at h,fun _ h=>by simp at h,fun _ _=>.inr ⟨h4,rfl⟩⟩
def zcA (o:Orig) (hs:List Req):Nat→Bool
 | 0=>false
 | j + 1=>zcA o hs j || (!sameO o (ofO (hs.getD j req0).url) && !bothU (hs.getD j req0).url (hs.getD (j + 1) req0).url)
theorem ze0:∀ (l:List Req) (x:Req),zfI x l→∀ k,k < l.length→Next ((x::l).getD k req0) ((x::l).getD (k + 1) req0)
 | [],x,_,k,hk=>by simp at hk
 | y::l,x,h,0,_=>h.1.1
 | y::l,x,h,k + 1,hk=>by
  have:=ze0 l y h.2 k (by simpa using hk)
  simpa using this
theorem zdM:∀ (l:List Req) (x:Req),zfI x l→mayR x=true→∀ y∈x::l,mayR y=true
 | [],x,_,hx,y,hy=>by rw[List.mem_singleton.1 hy];exact hx
 | z::l,x,h,hx,y,hy=>by
  rcases List.mem_cons.1 hy with rfl|hy
  ·exact hx
  ·exact zdM l z h.2 h.1.2.2 y hy
theorem zc5 (x:Req) (l:List Req) (h:zfI x l) (ht:x.tainted=false):∀ k,k≤l.length→((x::l).getD k req0).orig=x.orig∧((x::l).getD k req0).tainted=zcA x.orig (x::l) k
 | 0,_=>⟨rfl,ht⟩
 | k + 1,hk=>by
  have h1:=zc5 x l h ht k (by omega)
  have h2:=ze0 l x h k (by omega)
  refine⟨h2.orig.trans h1.1,?_⟩
  rw[h2.tainted,h1.2,h1.1]
  unfold taintR
  rw[zcA]
  congr 1
  rw[Bool.and_comm]
theorem zhs {raw:ByteArray} {q:Req} (rs:List (Int×ByteArray)) (k:Nat) (hk:k < (chainR raw q rs).1.length) :
  ((chainR raw q rs).1.getD k req0).tainted=zcA q.orig (chainR raw q rs).1 k∧mayR ((chainR raw q rs).1.getD k req0)=true:=by
 cases hs:startR raw q with
 | mk o n =>
  cases o with
  | none=>rw[(zb7 hs rs).2] at hk;simp at hk
  | some x =>
   rw[zbh hs rs] at hk ⊢
   obtain⟨u,hu,rfl,hm,rfl⟩:=zbm hs
   have hl:=zeX rs (zaR q u)
   simp only at hk ⊢
   refine⟨(zc5 (zaR q u) _ hl rfl k (by simpa using Nat.le_of_lt_succ (by simpa using hk))).2,?_⟩
   refine zdM _ _ hl hm _ ?_
   rw[List.getD_eq_getElem?_getD,List.getElem?_eq_getElem hk]
   exact List.getElem_mem hk
theorem zh8:zbg sOrigin sOrigin=true:=by decide
theorem zh9:zbg sReferer sOrigin=false:=by decide
theorem zfP (nm:ByteArray) (a b:List Fld):allL nm (a++b)=allL nm a++allL nm b:=by
 unfold allL;rw[List.filter_append,List.map_append]
theorem zfC (a b:ByteArray):zbg a b=zbg b a:=by
 unfold zbg sameL
 exact Bool.beq_comm
theorem zeO (r:Req):allL sOrigin (zbJ r)=[]:=by
 unfold allL zbJ zaf
 rw[List.filter_filter,List.map_eq_nil_iff,List.filter_eq_nil_iff]
 intro f _ h
 rw[Bool.and_eq_true,Bool.not_eq_true'] at h
 have h1:=h.2
 unfold zcD at h1
 rw[List.any_eq_false] at h1
 have h2:=h1 sOrigin (by simp)
 rw[zfC] at h2
 exact h2 h.1
theorem zeK {r:Req} {hs:List Fld} (h:zcr r hs):(quietR r=true→allL sOrigin hs=[])∧(quietR r=false→∃ t,allL sOrigin hs=[t]∧(r.tainted=true→t=sNull)):=by
 obtain⟨rt,rb,ot,ob,_,⟨h1,h2,h3⟩,rfl⟩:=h
 have ha:allL sOrigin (addF rb (zbJ r) (sReferer,rt))=[]:=by
  cases rb with
  | false=>exact zeO r
  | true =>
   rw[zck,zfP,zeO]
   unfold allL
   rw[List.filter_cons_of_neg (by show ¬ zbg sReferer sOrigin=true;rw[zh9];decide)]
   rfl
 refine⟨fun hq=>?_,fun hq=>?_⟩
 ·rw[hq] at h1
  rw[h1,show (!true)=false from rfl,zfM];exact ha
 ·rw[hq] at h1
  rw[h1,show (!false)=true from rfl,zck,zfP,ha]
  refine⟨ot,?_,h3 hq⟩
  unfold allL
  rw[List.filter_cons_of_pos (by show zbg sOrigin sOrigin=true;exact zh8)]
  rfl
end
section
open Go.RowKit Go.Shelf
theorem aw_begin:Begin zgT awQ :=
 ⟨by decide,⟨by decide,by decide,by decide,by decide,by decide,by decide,by decide,by decide⟩,by decide,by decide,fun f hf=>(by cases hf),by decide,by decide,by decide⟩
theorem zfU:zcc awRs:=by
 intro r hr
 simp only[awRs,List.mem_cons,List.mem_nil_iff,or_false] at hr
 rcases hr with rfl|rfl <;> decide
theorem zd4 {w:World} {B:Nat} {v:Value} {ss:List Snt} (h:w.ownsRow B 54 4 v ss.length (ss.flatMap sntC)) (hne:0 < ss.length):∃ g cap,v=.slice (some ⟨g,0,none⟩) ss.length cap∧g < w.heap.size∧∀ (j:Nat) s,ss[j]? = some s→w.cell? ⟨g,0 + j * 4 + 2,none⟩=some s.hx:=by
 rcases h.2 with ⟨_,h0⟩|⟨g,cap,cur,rfl,hg,hh,r⟩
 ·omega
 ·refine⟨g,cap,rfl,yS hh,fun j s hj=>?_⟩
  have hc:=h.cells (g:=g) rfl (j * 4 + 2) s.hx
  have hx:(ss.flatMap sntC)[j * 4 + 2]? = some s.hx:=by
   clear h hh r hc
   induction ss generalizing j with
   | nil=>cases hj
   | cons a l ih =>
    have ha:(sntC a).length=4:=rfl
    cases j with
    | zero=>simp at hj;subst hj;rfl
    | succ j =>
     rw[List.flatMap_cons,List.getElem?_append_right (by omega),ha,show (j + 1) * 4 + 2 - 4=j * 4 + 2 by omega]
     by_cases hl:0 < l.length
     ·exact ih hl j (by simpa using hj)
     ·have:l=[]:=List.length_eq_zero_iff.1 (by omega)
      subst this;simp at hj
  have:=hc hx
  simpa [Addr.add,Nat.add_assoc] using this
theorem zd5 {w:World} {s:Snt} (h:SntAt w s):∃ q c,s.hx=.slice q s.hs.length c:=own_slice h
theorem SntAt.flds {w:World} {s:Snt} (h:SntAt w s):Flds w s.hx s.hs:=Flds.of_own h
set_option maxHeartbeats 4000000 in
theorem zdD (w:World) (G:Glob w):Calls Tryz.prog 5 #[] w fun e w'=>e=.returned (.bool true)∧Below w.heap.size w w':=by
 have A0:=row1 w (.cells (reqC req0 (.slice none 0 0) (.slice none 0 0)) 32)
 have k1:Below w.heap.size w ((w.alloc (.cells (reqC req0 (.slice none 0 0) (.slice none 0 0)) 32)).setRow w.heap.size (reqC awQ (.slice none 0 0) (.slice none 0 0))):=yM (bel1 w _) (yV _)
 have R1:=yH _ _ _ (reqC awQ (.slice none 0 0) (.slice none 0 0)) _ _ A0
 obtain⟨W1,hW1⟩:∃ V,(w.alloc (.cells (reqC req0 (.slice none 0 0) (.slice none 0 0)) 32)).setRow w.heap.size (reqC awQ (.slice none 0 0) (.slice none 0 0))=V:=⟨_,rfl⟩
 have HW1:=Lib.hid hW1
 rw[hW1] at k1 R1
 clear hW1
 have k2:=bel1 W1 (.cells #[.int .i64 302,.string zfR,.int .i64 200,.string ⟨#[]⟩] 45)
 have S2:=row1 W1 (.cells #[.int .i64 302,.string zfR,.int .i64 200,.string ⟨#[]⟩] 45)
 have R2:=kept k2 R1
 have B2:=yD k1 k2
 have hrs:Resps (W1.alloc (.cells #[.int .i64 302,.string zfR,.int .i64 200,.string ⟨#[]⟩] 45)) (.slice (some ⟨W1.heap.size,0,none⟩) 2 2) awRs:=by
  refine⟨_,_,rfl,by decide,fun j hj=>⟨_,_,rfl,yS S2,?_⟩⟩
  have hj2:j < 2:=hj
  rcases(by omega:j=0∨j=1) with rfl|rfl
  ·exact zae S2 0 _ rfl
  ·exact zae S2 2 _ rfl
 have HR:=Lib.hid (zeI zgT awQ (.slice none 0 0) (.slice none 0 0) (.slice (some ⟨W1.heap.size,0,none⟩) 2 2) awRs _ (G.below B2) (.inl ⟨rfl,rfl⟩) ⟨_,_,_,rfl⟩ hrs aw_begin.starts (aw_begin.fits zfU) (by rw[zeP];decide) (fun x hx=>(zcl aw_begin zfU x hx).small))
 rw[zeP] at HR
 unfold zgT zfR awQ req0 zcF sGET zcV url0 zfv host0 six0 at HR
 clear hrs
 go_enter Tryz.func5,Tryz.ntmps5
 go_wp2_with (first|((with_reducible (show wpList _ _ _ (Oper.mk none (.store 32 (.tmp 1) _) _ _ _ none::_) _ _));refine zag rfl 32 _ _ rfl w.heap.size (reqC awQ (.slice none 0 0) (.slice none 0 0)) rfl rfl 32 _ A0 zab rfl (zbP ⟨_,_,_,rfl⟩ ⟨_,_,_,rfl⟩) W1 HW1.out ?_)|((with_reducible (show wpList _ _ _ (Oper.mk _ (.load 32 (.tmp 1)) _ _ _ _::_) _ _));refine zaa (by rfl) 32 _ rfl w.heap.size 0 rfl (reqC awQ (.slice none 0 0) (.slice none 0 0)) _ (zac R2) yA rfl zab ?_))
 refine HR.out.mono ?_
 rintro e W3 ⟨v,ss,rfl,hss,ho,ha,b3⟩
 have B3:=yD B2 b3
 obtain⟨s1,s2,rfl⟩:∃ s1 s2,ss=[s1,s2]:=by
  have hl:=hss.len
  match ss,hl with
  | [a,b],_=>exact⟨a,b,rfl⟩
 have o1:=zil ((hss.2 0 awX s1 rfl rfl).1 zhx.1)
 have o2:=zim ((hss.2 1 awY s2 rfl rfl).1 zhx.2)
 obtain⟨g,cap,rfl,hg,hc⟩:=zd4 ho (by simp)
 have d1:W3.cell? ⟨g,2,none⟩=some s1.hx:=hc 0 s1 rfl
 have d2:W3.cell? ⟨g,6,none⟩=some s2.hx:=hc 1 s2 rfl
 have a1:=ha s1 (by simp)
 have a2:=ha s2 (by simp)
 obtain⟨ut1,mt1,hx1,bd1,hs1⟩:=s1
 obtain⟨ut2,mt2,hx2,bd2,hs2⟩:=s2
 simp only at o1 o2 d1 d2
 subst o1 o2
 have HG1:=Lib.hid (zeu hx1 [(sReferer,zcV)] sReferer W3 a1.flds ⟨by decide,fun f hf=>by rw[List.mem_singleton.1 hf];decide⟩ (by decide) (by decide))
 have HG2:=fun w' (h:Below W3.heap.size W3 w')=>Lib.hid (zeu hx2 [(sReferer,zej)] sReferer w' (a2.flds.below h) ⟨by decide,fun f hf=>by rw[List.mem_singleton.1 hf];decide⟩ (by decide) (by decide))
 rw[zhw.1] at HG1
 simp only[zhw.2] at HG2
 obtain⟨q1,c1,e1⟩:=zd5 a1
 obtain⟨q2,c2,e2⟩:=zd5 a2
 simp only at e1 e2
 subst e1 e2
 unfold sReferer zcV at HG1
 unfold sReferer zej at HG2
 clear a1 a2 ha ho hss HR hc
 have z2:=b3.size
 go_wp2_with fail
 refine HG1.out.mono ?_
 rintro e W4 ⟨rfl,b4⟩
 have d3:=(b4.cell (p:=⟨g,6,none⟩) hg).trans d2
 go_wp2_with fail
 refine(HG2 W4 b4).out.mono ?_
 rintro e W5 ⟨rfl,b5⟩
 go_wp2
 go_ret
 exact⟨rfl,yD (yD B3 b4) b5⟩
end
end Go.Proofs.YtdlkjofnnefjfaaGreatDoor
