import Derived.Test.YthlndebkfkanbaaGreatDoorLib33
set_option linter.all false
namespace Hud
open Go
section
section
variable {G:Nat->Option (List AV)}
set_option maxHeartbeats 1000000
end
end
section
section
variable {G:Nat->Option (List AV)}
set_option maxHeartbeats 2000000
end
end
section
section
variable {G:Nat->Option (List AV)}
set_option maxHeartbeats 2000000
end
end
section
section
variable {G:Nat->Option (List AV)}
set_option maxHeartbeats 2000000
end
end
section
section
variable {P:Program} {G:Nat->Option (List AV)} {st:St}
end
section
variable {G:Nat->Option (List AV)}
set_option maxHeartbeats 20000000
end
end
end Hud
